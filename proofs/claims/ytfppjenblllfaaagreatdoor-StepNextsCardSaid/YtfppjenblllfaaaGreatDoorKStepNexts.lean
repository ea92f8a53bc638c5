/- The tied card of the law StepNexts: it answers true at every input, each argument reads behind the call as it read before, and what is listed of package-level variables is what the program itself lays. No further condition. -/
import Derived.Test.YtfppjenblllfaaaGreatDoorB6
import Derived.Test.YtfppjenblllfaaaGreatDoorCards
import Derived.Test.YtfppjenblllfaaaGreatDoorTie
import Derived.SevenTiedAt
namespace Go.Proofs.YtfppjenblllfaaaGreatDoor
open Go
set_option maxRecDepth 100000 in
theorem stepNexts_card : Rows.StepNextsCardSaid :=
  Claim7.holds_tied_plain_at .later [] [.data, .widerDeep, .data, .pinned] true (true, "7438a652b130d1049e185df27dbd2812b5e130e328dd2e2a7e69bd1125bceaef") false
    Q23 (fun _ h => by cases h) (by kernel_rfl) (fun _ h => by cases h) stepNexts_row_tie rfl ⟨rfl, rfl⟩ (by kernel_rfl) rfl
    (fun f fn hf hfn => by
      obtain rfl : f = 9 := Option.some.inj ((show Tryz.prog.funcNamed "squinch/squinchlaw07.StepNexts" = some 9 by kernel_rfl).symm.trans hf) |>.symm
      obtain rfl : fn = Tryz.f9 := (Option.some.inj (Tryz.func9.symm.trans hfn)).symm
      exact ⟨by kernel_rfl, fun j t ht => by
        rw [Tryz.params9] at ht
        have hm : t ∈ ([37, 3] : List Nat) := by simpa using Array.mem_of_getElem? ht
        have hall : (([37, 3] : List Nat).all fun u => !Tryz.prog.wantsStandIn u) = true := by kernel_rfl
        exact (show Tryz.prog.wantsStandIn t = false by simpa using List.all_eq_true.1 hall t hm)⟩)
    (by kernel_rfl)
#print axioms stepNexts_card
end Go.Proofs.YtfppjenblllfaaaGreatDoor
