/- The tied card of the law HeapFresh: it answers true at every input, each argument reads behind the call as it read before, and what is listed of package-level variables is what the program itself lays. No further condition. -/
import Derived.Test.YtjdiakhipmggjaaGreatDoorB6
import Derived.Test.YtjdiakhipmggjaaGreatDoorCards
import Derived.Test.YtjdiakhipmggjaaGreatDoorTie
import Derived.SevenTiedAt
namespace Go.Proofs.YtjdiakhipmggjaaGreatDoor
open Go
set_option maxRecDepth 100000 in
theorem heapFresh_card : Rows.HeapFreshCardSaid :=
  Claim7.holds_tied_plain_at .later [] [.data, .widerDeep, .data, .pinned] true (true, "219ef1a812d5e03f6bbb4b600613f0d9495bd20144eedb34ca67eb64a30e7d92") false
    Q3g (fun _ h => by cases h) (by kernel_rfl) (fun _ h => by cases h) heapFresh_row_tie rfl ⟨rfl, rfl⟩ (by kernel_rfl) rfl
    (fun f fn hf hfn => by
      obtain rfl : f = 6 := Option.some.inj ((show Tryz.prog.funcNamed "squinch/squinchlaw09.HeapFresh" = some 6 by kernel_rfl).symm.trans hf) |>.symm
      obtain rfl : fn = Tryz.f6 := (Option.some.inj (Tryz.func6.symm.trans hfn)).symm
      exact ⟨by kernel_rfl, fun j t ht => by
        rw [Tryz.params6] at ht
        have hm : t ∈ ([43, 44, 9, 5] : List Nat) := by simpa using Array.mem_of_getElem? ht
        have hall : (([43, 44, 9, 5] : List Nat).all fun u => !Tryz.prog.wantsStandIn u) = true := by kernel_rfl
        exact (show Tryz.prog.wantsStandIn t = false by simpa using List.all_eq_true.1 hall t hm)⟩)
    (by kernel_rfl)
#print axioms heapFresh_card
end Go.Proofs.YtjdiakhipmggjaaGreatDoor
