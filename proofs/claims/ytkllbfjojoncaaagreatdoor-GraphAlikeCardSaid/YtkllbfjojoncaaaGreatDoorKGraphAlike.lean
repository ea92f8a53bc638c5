/- The tied card of the law GraphAlike: it answers true at every input, each argument reads behind the call as it read before, and what is listed of package-level variables is what the program itself lays. No further condition. -/
import Derived.Test.YtkllbfjojoncaaaGreatDoorB7
import Derived.Test.YtkllbfjojoncaaaGreatDoorCards
import Derived.Test.YtkllbfjojoncaaaGreatDoorTie
import Derived.SevenTiedAt
namespace Go.Proofs.YtkllbfjojoncaaaGreatDoor
open Go
set_option maxRecDepth 100000 in
theorem graphAlike_card : Rows.GraphAlikeCardSaid :=
  Claim7.holds_tied_plain_at .later [] [.data, .widerDeep, .data, .pinned] true (true, "1e1a9e075673bf90bae7d92945e20a426ca64e2cd964203567aa34bcc432c4b1") false
    Q5f (fun _ h => by cases h) (by kernel_rfl) (fun _ h => by cases h) graphAlike_row_tie rfl ⟨rfl, rfl⟩ (by kernel_rfl) rfl
    (fun f fn hf hfn => by
      obtain rfl : f = 3 := Option.some.inj ((show Tryz.prog.funcNamed "squinch/squinchlaw11.GraphAlike" = some 3 by kernel_rfl).symm.trans hf) |>.symm
      obtain rfl : fn = Tryz.f3 := (Option.some.inj (Tryz.func3.symm.trans hfn)).symm
      exact ⟨by kernel_rfl, fun j t ht => by
        rw [Tryz.params3] at ht
        have hm : t ∈ ([22, 22, 25] : List Nat) := by simpa using Array.mem_of_getElem? ht
        have hall : (([22, 22, 25] : List Nat).all fun u => !Tryz.prog.wantsStandIn u) = true := by kernel_rfl
        exact (show Tryz.prog.wantsStandIn t = false by simpa using List.all_eq_true.1 hall t hm)⟩)
    (by kernel_rfl)
#print axioms graphAlike_card
end Go.Proofs.YtkllbfjojoncaaaGreatDoor
