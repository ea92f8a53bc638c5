/- The tied card of the law GraphPlain: it answers true at every input, each argument reads behind the call as it read before, and what is listed of package-level variables is what the program itself lays. No further condition. -/
import Derived.Test.YtkllbfjojoncaaaGreatDoorB6
import Derived.Test.YtkllbfjojoncaaaGreatDoorCards
import Derived.Test.YtkllbfjojoncaaaGreatDoorTie
import Derived.SevenTiedAt
namespace Go.Proofs.YtkllbfjojoncaaaGreatDoor
open Go
set_option maxRecDepth 100000 in
theorem graphPlain_card : Rows.GraphPlainCardSaid :=
  Claim7.holds_tied_plain_at .later [] [.data, .widerDeep, .data, .pinned] true (true, "1e1a9e075673bf90bae7d92945e20a426ca64e2cd964203567aa34bcc432c4b1") false
    Q4t (fun _ h => by cases h) (by kernel_rfl) (fun _ h => by cases h) graphPlain_row_tie rfl ⟨rfl, rfl⟩ (by kernel_rfl) rfl
    (fun f fn hf hfn => by
      obtain rfl : f = 7 := Option.some.inj ((show Tryz.prog.funcNamed "squinch/squinchlaw11.GraphPlain" = some 7 by kernel_rfl).symm.trans hf) |>.symm
      obtain rfl : fn = Tryz.f7 := (Option.some.inj (Tryz.func7.symm.trans hfn)).symm
      exact ⟨by kernel_rfl, fun j t ht => by
        rw [Tryz.params7] at ht
        have hm : t ∈ ([22, 24, 24] : List Nat) := by simpa using Array.mem_of_getElem? ht
        have hall : (([22, 24, 24] : List Nat).all fun u => !Tryz.prog.wantsStandIn u) = true := by kernel_rfl
        exact (show Tryz.prog.wantsStandIn t = false by simpa using List.all_eq_true.1 hall t hm)⟩)
    (by kernel_rfl)
#print axioms graphPlain_card
end Go.Proofs.YtkllbfjojoncaaaGreatDoor
