/- The tied card of the law SendBytes: it answers true at every input, each argument reads behind the call as it read before, and what is listed of package-level variables is what the program itself lays. No further condition. -/
import Derived.Test.YtlfdfcejjgidpaaGreatDoorB7
import Derived.Test.YtlfdfcejjgidpaaGreatDoorCards
import Derived.Test.YtlfdfcejjgidpaaGreatDoorTie
import Derived.SevenTiedAt
namespace Go.Proofs.YtlfdfcejjgidpaaGreatDoor
open Go
set_option maxRecDepth 100000 in
theorem sendBytes_card : Rows.SendBytesCardSaid :=
  Claim7.holds_tied_plain_at .later [] [.data, .widerDeep, .data, .pinned] true (true, "00feceb421d98e61e11d9bfba1e8dbe9230c67927258fe8d5b3c79ef504a14c1") false
    Q7G (fun _ h => by cases h) (by kernel_rfl) (fun _ h => by cases h) sendBytes_row_tie rfl ⟨rfl, rfl⟩ (by kernel_rfl) rfl
    (fun f fn hf hfn => by
      obtain rfl : f = 4 := Option.some.inj ((show Tryz.prog.funcNamed "squinch/squinchlaw12.SendBytes" = some 4 by kernel_rfl).symm.trans hf) |>.symm
      obtain rfl : fn = Tryz.f4 := (Option.some.inj (Tryz.func4.symm.trans hfn)).symm
      exact ⟨by kernel_rfl, fun j t ht => by
        rw [Tryz.params4] at ht
        have hm : t ∈ ([45, 46, 39] : List Nat) := by simpa using Array.mem_of_getElem? ht
        have hall : (([45, 46, 39] : List Nat).all fun u => !Tryz.prog.wantsStandIn u) = true := by kernel_rfl
        exact (show Tryz.prog.wantsStandIn t = false by simpa using List.all_eq_true.1 hall t hm)⟩)
    (by kernel_rfl)
#print axioms sendBytes_card
end Go.Proofs.YtlfdfcejjgidpaaGreatDoor
