/- Parts of a proof about the given program: its functions as texts of their own, what each computes, plain laws of that. The conditions of each stand in its statement. -/
import Derived.Test.YtfppjenblllfaaaGreatDoorB5
import Derived.Test.YtfppjenblllfaaaGreatDoorRows
import Derived.Test.YtfppjenblllfaaaGreatDoorB4
import Derived.WalkKit
import Derived.ProofKit
import Derived.OpenShut
import Derived.ShutString
import Derived.ChangeOld
import Derived.Below
import Derived.SizedLaws
import Derived.Lay
import Derived.Carry
import Derived.MakeChecks
import Derived.PinnedBridge
set_option linter.unnecessarySimpa false
set_option linter.defProp false
set_option linter.unusedSectionVars false
set_option linter.unusedVariables false
set_option linter.unusedSimpArgs false
namespace Go.Proofs.YtfppjenblllfaaaGreatDoor
open Go.Emb Go.RowKit Go.Kd Go.Hm
variable {w w' w0 w1 : World} {K : Value → World → Prop} {σ σ' σ0 σ1 : Q4} {v u : Value} {tv : Value} {l : List Cla} {s t : Shp} {ds es : List Value}
theorem Q71 {s:Shp}:F6 l Shp.zero s=(s,0):=rfl
theorem Q5K {s:Shp} (h:s.seen=true):F6 l s Shp.zero=(s,0):=by unfold F6;rw[if_neg (by simp[h])];rfl
theorem Q4n:Kz Shp.zero=true:=rfl
set_option maxHeartbeats 1000000 in
theorem Q7j (hs:X4 w σ) (hg:Glb σ) (X:U7 σ s ds) (h: ∀w' σ',Stp w σ w' σ'→K (.bool true) w'):Q0 P F.bN [.agg ds.toArray] w K:=Hk (by
 obtain ⟨a1,a2,rfl,qs,ql⟩:=id X
 have m1:=qs.max
 have m2:=ql.max
 unfold Jd
 refine Y9 hs fun qa w2 σ2 S2 r=>?_
 refine Q3M S2.sat (hg.lift ⟨S2.le⟩) fun a lv w3 σ3 k3 ht hl ok=>?_
 refine J8 (vs:=[_,_]) rfl ?_
 refine J8 (vs:=[_,_]) rfl ?_
 have S3:=S2.trans k3
 refine Q3T S3.sat (hg.lift ⟨S3.le⟩) fun w4 σ4 k4=>?_
 have S4:=S3.trans k4
 have y:=(r.up k3).up k4
 have ac:=U7.liftS X S4
 have no: ∀w5 σ5,Stp w4 σ4 w5 σ5→Q0 P F.ac [] w5 fun t w=>K t w:=fun w5 σ5 C=>by
  have M:=S4.trans C
  exact Q3T M.sat (hg.lift ⟨M.le⟩) fun w6 σ6 b=>h _ _ (M.trans b)
 refine Nh ?_
 rw[Bool.not_true]
 (repeat refine Hd.h ?_)
 refine Y7 S4.sat y rfl ?_
 (repeat refine Hd.h ?_)
 refine X1m S4.sat ac fun w5 b5=>?_
 have C:=Stp.of_below S4.sat b5
 (repeat refine Hd.h ?_)
 cases e1:Kz s with
 | false=>
  rw[Bool.not_false]
  (repeat refine Hd.h ?_)
  refine V9 ?_
  exact no _ _ C
 | true=>
 rw[Bool.not_true]
 (repeat refine Hd.h ?_)
 refine ld (i:=0) C.sat (y.up C) rfl ?_
 (repeat refine Hd.h ?_)
 cases e3:s.seen with
 | false=>
  rw[Bool.not_false]
  refine V9 ?_
  exact no _ _ C
 | true=>
 rw[Bool.not_true]
 refine V7 ?_
 clear no
 have M:=S4.trans C
 have al:=qs.up M
 have Z:=ql.up M
 have c:=y.up C
 have am:=U7.liftS ac C
 have ad:=ht.lift ⟨(k4.trans C).le⟩
 clear S4 S2 S3 k3 k4 ac b5 r y
 refine Z8 s.stack.length (fun k w'=> ∃σ',Stp w5 σ4 w' σ'∧ ∀j (g1:j<s.stack.length),j<k→M0 (Q6 Zj) s.stack[j]=true) ⟨σ4,Stp.refl C.sat,fun j _ h=>absurd h (Nat.not_lt_zero _)⟩ fun k w6 d hk hi=>?_
 obtain ⟨σ6,b,o⟩:=hi
 refine O3 ?_
 refine ld (i:=1) b.sat (c.up b) rfl ?_
 refine Q8 (al.up b) ?_
 refine Z1 ?_
 refine Q5 (fun hc=>?_) (fun hc=>?_)
 ·have q:k<s.stack.length:=by simp at hc;omega
  refine O3 ?_
  refine ld (i:=1) b.sat (c.up b) rfl ?_
  refine Qe (al.up b) q fun b1 E N=>?_
  refine X8 b.sat E rfl ?_
  refine Ek b.sat (ad.lift ⟨b.le⟩) N fun w7 σ7 O=>?_
  refine Nh ?_
  cases ek:M0 (Q6 Zj) s.stack[k] with
  | false=>
   rw[Bool.not_false]
   refine V9 ?_
   exact h _ _ (M.trans (b.trans O))
  | true=>
   rw[Bool.not_true]
   refine V7 ?_
   (try simp only[↓M1,M1,Mb,reduceIte])
   exact Y2 m1 q ⟨σ7,b.trans O,fun j g1 V=>by
    by_cases e:j=k
    ·subst e;exact ek
    ·exact o j g1 (by omega)⟩
 have af:k=s.stack.length:=by simp at hc;omega
 subst af
 have h1: ∀k∈s.stack,M0 (Q6 Zj) k=true:=fun x hx=>by
  obtain ⟨j,V,rfl⟩:=List.mem_iff_getElem.1 hx
  exact o j V V
 clear o
 refine Z8 s.locals.length (fun k w'=> ∃σ',Stp w5 σ4 w' σ'∧ ∀j (g1:j<s.locals.length),j<k→s.locals[j]=[]∨M0 (Q6 Zj) s.locals[j]=true) ⟨σ6,b,fun j _ h=>absurd h (Nat.not_lt_zero _)⟩ fun k w6 d hk hi=>?_
 obtain ⟨σ6,b,o⟩:=hi
 refine O3 ?_
 refine ld (i:=2) b.sat (c.up b) rfl ?_
 refine Q8 (Z.up b) ?_
 refine Z1 ?_
 refine Q5 (fun hc=>?_) (fun hc=>?_)
 ·have q:k<s.locals.length:=by simp at hc;omega
  refine O3 ?_
  refine ld (i:=2) b.sat (c.up b) rfl ?_
  refine Qe (Z.up b) q fun b1 E N=>?_
  refine X8 b.sat E rfl ?_
  refine Ui ?_
  by_cases ee:s.locals[k]=[]
  ·rw[decide_eq_true ee,Bool.not_true]
   (repeat refine Hd.h ?_)
   refine V7 ?_
   (try simp only[↓M1,M1,Mb,reduceIte])
   exact Y2 m2 q ⟨σ6,b,fun j g1 V=>by
    by_cases e:j=k
    ·subst e;exact .inl ee
    ·exact o j g1 (by omega)⟩
  ·rw[decide_eq_false ee,Bool.not_false]
   (repeat refine Hd.h ?_)
   refine ld (i:=2) b.sat (c.up b) rfl ?_
   (repeat refine Hd.h ?_)
   refine Qe (Z.up b) q fun b1 E N=>?_
   (repeat refine Hd.h ?_)
   refine X8 b.sat E rfl ?_
   (repeat refine Hd.h ?_)
   refine Ek b.sat (ad.lift ⟨b.le⟩) N fun w7 σ7 O=>?_
   (repeat refine Hd.h ?_)
   cases ek:M0 (Q6 Zj) s.locals[k] with
   | false=>
    rw[Bool.not_false]
    refine V9 ?_
    exact h _ _ (M.trans (b.trans O))
   | true=>
    rw[Bool.not_true]
    refine V7 ?_
    (try simp only[↓M1,M1,Mb,reduceIte])
    exact Y2 m2 q ⟨σ7,b.trans O,fun j g1 V=>by
     by_cases e:j=k
     ·subst e;exact .inr ek
     ·exact o j g1 (by omega)⟩
 have af:k=s.locals.length:=by simp at hc;omega
 subst af
 have h2: ∀k∈s.locals,k=[]∨M0 (Q6 Zj) k=true:=fun x hx=>by
  obtain ⟨j,V,rfl⟩:=List.mem_iff_getElem.1 hx
  exact o j V V
 clear o
 have em:=X15.merge_self s e3 h1 h2
 have S6:=M.trans b
 have f:=c.up b
 have B:=U7.liftS am b
 have ae:=ad.lift ⟨b.le⟩
 refine Y7 b.sat f rfl ?_
 refine Y7 b.sat f rfl ?_
 refine Q1a b.sat ae ok B B e1 e1 fun bw w7 σ7 O p=>?_
 rw[em] at p⊢
 refine J8 (vs:=[_,_]) rfl ?_
 refine J8 (vs:=[_,_]) rfl ?_
 refine Q4b O.sat p fun q1 w8 σ8 k8 U=>?_
 have J:=O.trans k8
 refine Bx ?_
 refine Y7 k8.sat (f.up J) rfl ?_
 refine Q1a (s:=Shp.zero) k8.sat (ae.lift ⟨J.le⟩) ok U7.zero (U7.liftS B J) Q4n e1 fun cd w9 σ9 k9 z=>?_
 rw[Q71] at z⊢
 refine J8 (vs:=[_,_]) rfl ?_
 refine J8 (vs:=[_,_]) rfl ?_
 refine Q4b k9.sat z fun q2 bx b7 L ah=>?_
 have ai:=k9.trans L
 have D:=J.trans ai
 refine Y7 L.sat (f.up D) rfl ?_
 refine Bx ?_
 refine Q1a (t:=Shp.zero) L.sat (ae.lift ⟨D.le⟩) ok (U7.liftS B D) U7.zero e1 Q4n fun b8 bu b4 Y A=>?_
 rw[Q5K e3] at A⊢
 refine J8 (vs:=[_,_]) rfl ?_
 refine J8 (vs:=[_,_]) rfl ?_
 refine Q4b Y.sat A fun q3 bo b6 R ay=>?_
 have H:=Y.trans R
 have W:=ai.trans H
 have Q:=D.trans H
 have U:=U.up W
 have ah:=ah.up H
 have p:=U7.liftS p (k8.trans W)
 have z:=U7.liftS z (L.trans H)
 have A:=U7.liftS A R
 have r:=f.up Q
 have X:=U7.liftS B Q
 have SA:=S6.trans Q
 have sA:=R.sat
 clear C O k8 k9 L Y R J ai D H W Q c f am B M S6 b
 have n1:=Q08 p
 have n2:=Q08 z
 have n3:=Q08 A
 have e7:decide (s=s)=true:=decide_eq_true rfl
 refine Ll ?_
 rw[decide_eq_true rfl]
 (repeat refine Hd.h ?_)
 refine Ll ?_
 rw[decide_eq_true rfl]
 (repeat refine Hd.h ?_)
 refine Ll ?_
 rw[decide_eq_true rfl]
 (repeat refine Hd.h ?_)
 refine Y7 sA U n1 ?_
 (repeat refine Hd.h ?_)
 refine Y7 sA r rfl ?_
 (repeat refine Hd.h ?_)
 refine Od sA p X fun b2 bc=>?_
 have n:=Stp.of_below sA bc
 rw[e7]
 (repeat refine Hd.h ?_)
 refine Y7 n.sat (ah.up n) n2 ?_
 (repeat refine Hd.h ?_)
 refine Y7 n.sat (r.up n) rfl ?_
 (repeat refine Hd.h ?_)
 refine Od n.sat (U7.liftS z n) (U7.liftS X n) fun bz a9=>?_
 have m:=n.trans (Stp.of_below n.sat a9)
 rw[e7]
 (repeat refine Hd.h ?_)
 refine Y7 m.sat (ay.up m) n3 ?_
 (repeat refine Hd.h ?_)
 refine Y7 m.sat (r.up m) rfl ?_
 (repeat refine Hd.h ?_)
 refine Od m.sat (U7.liftS A m) (U7.liftS X m) fun b0 a7=>?_
 have g:=m.trans (Stp.of_below m.sat a7)
 rw[e7]
 (repeat refine Hd.h ?_)
 refine Y7 g.sat (U.up g) n1 ?_
 (repeat refine Hd.h ?_)
 refine Y7 g.sat (r.up g) rfl ?_
 (repeat refine Hd.h ?_)
 refine Q65 g.sat (U7.liftS p g) (U7.liftS X g) fun bs a8=>?_
 rw[e7]
 (repeat refine Hd.h ?_)
 exact h _ _ (SA.trans (g.trans (Stp.of_below g.sat a8))))
end Go.Proofs.YtfppjenblllfaaaGreatDoor

namespace Go.Proofs.YtfppjenblllfaaaGreatDoor.stepSelf
open Go.ChangeShapes Go.WideShapes Go.ChangeAt Go.RowKit
open Go.Emb
theorem own : ownKnob Tryz.prog.godebug = none := by kernel_rfl
theorem lay : laidOutB Tryz.prog = true := by kernel_rfl
set_option maxRecDepth 100000 in
theorem X1K (os : Os) (started : os.Started) (H : Type) (enc : TypeId × Value → H) :
    ReturnsInHanded {} Tryz.checked os 7 .any (fun w args => (Rows.stepSelfSpec.pre enc Tryz.prog Tryz.f7 [] false w args ∧ laidMetH Tryz.prog laidAll w) ∧ sizedMet enc Tryz.prog Tryz.f7 (OpenSpec.ofChange Rows.stepSelfSpec) false w args) (Rows.stepSelfSpec.post enc Tryz.prog Tryz.f7 false true false false) := by
  refine returnsInHanded_of_change_and (C := Tryz.checked) (X := fun w _ => laidMetH Tryz.prog laidAll w) (fun _ _ _ hh h => h.of_heap hh) own started (by kernel_rfl) Tryz.func7
    (ChangeSpec.witness_shaped (enc := enc) (C := Tryz.checked) (os := os) (X := fun w _ => laidMetH Tryz.prog laidAll w) false (World.laidAll Tryz.prog os laidAll) #[.agg #[.bool false, .slice none 0 0, .slice none 0 0]] 8 (World.laidAll_os _ _ _)
      (World.shaped_of_ZipB (by kernel_rfl) (by kernel_rfl)) (by kernel_rfl) (by kernel_rfl) (by kernel_rfl) (by rw [MakeChecks.laidMetH_plain _ _ _ (by kernel_rfl)]; exact laidMet_laidAll _ (by kernel_rfl) (by kernel_rfl))) ?_
  intro W base args ds gs before hval0 hW _ hsz0 hL _
  have hsz : (DataW.weightsEach Tryz.prog (Tryz.f7.params.toList ++ Rows.stepSelfSpec.plain.varTypes Tryz.prog) (ds ++ gs)).all (· ≤ reachBytes) = true := hsz0
  have hval : ∀ (j : Nat) t v, Tryz.f7.params[j]? = some t → args[j]? = some v → Value.okWide Tryz.prog W .any base t v := hval0
  have hW' := hW
  obtain ⟨p, q, hA0, hV, rfl, hfz, hnd⟩ := hW
  have hA : DataW.TrodAll enc Tryz.prog W 0 (fun _ => true) true Tryz.f7.params.toList args.toList ds p := hA0
  have hlt := DataW.TrodAll.lt hA
  rw [Tryz.params7] at hA hval hsz
  obtain ⟨v0, vs0, d0, ds0, p0, q0, hargs, rfl, rfl, h0, r0⟩ := trodAll_cons hA
  obtain ⟨rfl, rfl, rfl⟩ := trodAll_nil r0
  obtain rfl : args = #[v0] := by cases args; simp_all
  obtain ⟨rfl, rfl⟩ := trodVars_none hV
  have g0 : ∀ x ∈ p0, x.block < W.heap.size := fun x hx => hlt x (by simp [hx])
  have k0 := fun (W' : World) (bel : Below W.heap.size W W') => Below.trod lay (by kernel_rfl) (of_decide_eq_true (by kernel_rfl)) h0 bel g0
  obtain ⟨y0, c0, rfl, e0⟩ := X1t (hval 0 24 v0 rfl rfl) h0 (X1y hsz (j := 0) (t := 24) rfl rfl)
  have hc : Q0 Tryz.prog 7 [.agg (List.toArray c0)] W (fun e w' => e = .bool true ∧ Below W.heap.size W w') := Q7j Q7Y (X1F hL) e0 (fun w' σ' hb => ⟨rfl, hb.bel⟩)
  refine (Q23 Tryz.func7 (by kernel_rfl) (by kernel_rfl) hc).mono fun e W' he => ?_
  obtain ⟨v, rfl⟩ : ∃ v, e = .returned v := by cases e <;> first | exact ⟨_, rfl⟩ | exact he.elim
  obtain ⟨rfl, bel⟩ := he
  exact ⟨_, rfl, _, _, _, [], _, [], hW', trodAll_mk1 (shut_bool Tryz.underlying4 _), (trodAll_cons_mk (k0 W' bel) trodAll_mk0), rfl, bel.frame _, fun h => by cases h⟩
theorem over : Rows.stepSelfRow.holds Tryz.pinned (OpenSpec.ofChange Rows.stepSelfSpec) :=
  OpenClaim.holds_of_wide 7 Tryz.f7 rfl rfl rfl rfl rfl rfl rfl ⟨rfl, rfl, rfl, rfl, rfl⟩ rfl rfl rfl rfl rfl (by kernel_rfl) Tryz.func7 (by kernel_rfl)
    (of_decide_eq_true (by kernel_rfl)) (by unfold Func.isWrapper; first | (rw [if_pos (by decide +kernel)]; kernel_rfl) | (rw [if_neg (by decide +kernel)]; exact ⟨rfl, rfl⟩))
    (fun os started H enc _ => X1K os started H enc)
end Go.Proofs.YtfppjenblllfaaaGreatDoor.stepSelf
namespace Go.Proofs.YtfppjenblllfaaaGreatDoor
theorem Q2j : Rows.StepSelfSaid := stepSelf.over
end Go.Proofs.YtfppjenblllfaaaGreatDoor
