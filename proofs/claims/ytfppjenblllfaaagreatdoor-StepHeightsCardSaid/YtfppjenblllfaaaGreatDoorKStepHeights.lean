/- The tied card of the law StepHeights: it answers true at every input, each argument reads behind the call as it read before, and what is listed of package-level variables is what the program itself lays. No further condition. -/
import Derived.Test.YtfppjenblllfaaaGreatDoorB6
import Derived.Test.YtfppjenblllfaaaGreatDoorCards
import Derived.Test.YtfppjenblllfaaaGreatDoorTie
import Derived.SevenTiedAt
namespace Go.Proofs.YtfppjenblllfaaaGreatDoor
open Go
set_option maxRecDepth 100000 in
theorem stepHeights_card : Rows.StepHeightsCardSaid :=
  Claim7.holds_tied_plain_at .later [] [.data, .widerDeep, .data, .pinned] true (true, "7438a652b130d1049e185df27dbd2812b5e130e328dd2e2a7e69bd1125bceaef") false
    Q1s (fun _ h => by cases h) (by kernel_rfl) (fun _ h => by cases h) stepHeights_row_tie rfl ⟨rfl, rfl⟩ (by kernel_rfl) rfl
    (fun f fn hf hfn => by
      obtain rfl : f = 5 := Option.some.inj ((show Tryz.prog.funcNamed "squinch/squinchlaw07.StepHeights" = some 5 by kernel_rfl).symm.trans hf) |>.symm
      obtain rfl : fn = Tryz.f5 := (Option.some.inj (Tryz.func5.symm.trans hfn)).symm
      exact ⟨by kernel_rfl, fun j t ht => by
        rw [Tryz.params5] at ht
        have hm : t ∈ ([40, 42, 43] : List Nat) := by simpa using Array.mem_of_getElem? ht
        have hall : (([40, 42, 43] : List Nat).all fun u => !Tryz.prog.wantsStandIn u) = true := by kernel_rfl
        exact (show Tryz.prog.wantsStandIn t = false by simpa using List.all_eq_true.1 hall t hm)⟩)
    (by kernel_rfl)
#print axioms stepHeights_card
end Go.Proofs.YtfppjenblllfaaaGreatDoor
