/- The tied card of the law HierMakes: it answers true at every input, each argument reads behind the call as it read before, and what is listed of package-level variables is what the program itself lays. No further condition. -/
import Derived.Test.YtdnfaboigajkhaaGreatDoorB7
import Derived.Test.YtdnfaboigajkhaaGreatDoorCards
import Derived.Test.YtdnfaboigajkhaaGreatDoorTie
import Derived.SevenTiedAt
namespace Go.Proofs.YtdnfaboigajkhaaGreatDoor
open Go
set_option maxRecDepth 100000 in
theorem hierMakes_card : Rows.HierMakesCardSaid :=
  Claim7.holds_tied_plain_at .later [] [.data, .widerDeep, .data, .pinned] true (true, "c29db762e5eb0e279473b97b8954f58ffeaf0eb8085b76cb2f1e479781fad988") false
    Q0y (fun _ h => by cases h) (by kernel_rfl) (fun _ h => by cases h) hierMakes_row_tie rfl ⟨rfl, rfl⟩ (by kernel_rfl) rfl
    (fun f fn hf hfn => by
      obtain rfl : f = 11 := Option.some.inj ((show Tryz.prog.funcNamed "squinch/squinchlaw06.HierMakes" = some 11 by kernel_rfl).symm.trans hf) |>.symm
      obtain rfl : fn = Tryz.f11 := (Option.some.inj (Tryz.func11.symm.trans hfn)).symm
      exact ⟨by kernel_rfl, fun j t ht => by
        rw [Tryz.params11] at ht
        have hm : t ∈ ([22] : List Nat) := by simpa using Array.mem_of_getElem? ht
        have hall : (([22] : List Nat).all fun u => !Tryz.prog.wantsStandIn u) = true := by kernel_rfl
        exact (show Tryz.prog.wantsStandIn t = false by simpa using List.all_eq_true.1 hall t hm)⟩)
    (by kernel_rfl)
#print axioms hierMakes_card
end Go.Proofs.YtdnfaboigajkhaaGreatDoor
