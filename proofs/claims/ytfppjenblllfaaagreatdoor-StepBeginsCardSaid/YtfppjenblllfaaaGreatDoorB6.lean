/- Parts of a proof about the given program: its functions as texts of their own, what each computes, plain laws of that. The conditions of each stand in its statement. -/
import Derived.Test.YtfppjenblllfaaaGreatDoorB5
import Derived.Test.YtfppjenblllfaaaGreatDoorRows
import Derived.Test.YtfppjenblllfaaaGreatDoorB4
import Derived.WalkKit
import Derived.ProofKit
import Derived.OpenShut
import Derived.ShutString
import Derived.ChangeOld
import Derived.Below
import Derived.SizedLaws
import Derived.Lay
import Derived.Carry
import Derived.MakeChecks
import Derived.PinnedBridge
set_option linter.unnecessarySimpa false
set_option linter.defProp false
set_option linter.unusedSectionVars false
set_option linter.unusedVariables false
set_option linter.unusedSimpArgs false
namespace Go.Proofs.YtfppjenblllfaaaGreatDoor
open Go.Emb Go.RowKit Go.Kd Go.Hm
variable {w w' w0 w1 : World} {K : Value → World → Prop} {σ σ' σ0 σ1 : Q4} {v u : Value} {tv : Value} {l : List Cla} {s t : Shp} {ds es : List Value} {m : Hm.Met} {cls : X0}
def X0j (v:Value):Nat:=match v with
 | .slice _ n _=>n
 | _=>0
set_option maxHeartbeats 1000000 in
theorem X0p (hs:X4 w σ) (hm:L2 σ m ds) (hc:cls.length≤Z7) (hp:m.params.length≤1000) (hl:m.locals≤1000) (h: ∀ds' w' σ',Stp w σ w' σ'→M9 σ' (Qe cls m) ds'→K (.agg ds'.toArray) w'):Q0 P F.cn [S cls, .agg ds.toArray] w K:=Q4p (by
 obtain ⟨pv,cv,hv,rfl,q1,_,_,_,_,h64⟩:=hm
 unfold Px
 refine Y8 hs fun qm w1 σ1 k1 hqm=>?_
 refine B5 k1.sat fun b6 w3 σ3 hb6 k3 hm6=>?_
 have hqm:=hqm.up k3
 have S3:=k1.trans k3
 have hb6:w.heap.size≤b6:=Nat.le_trans k1.bel.size hb6
 have q1:=q1.up S3
 refine I6 (R:=X9) (sz:=1) (Stp.refl k3.sat) [S cls] [cls] rfl rfl (by simp;rfl) rfl ⟨⟨rfl,hc⟩,trivial⟩ fun v4 w4 k4 a4 _=>?_
 refine O8 ?_
 refine ld (i:=1) k4.sat (hqm.up k4) rfl ?_
 refine app k4 a4 (q1.up k4) (by rfl) (by simp;omega) (by simp;omega) fun v5 w5 _ k5 a5 _=>?_
 have a5:V0 w3.heap.size T.c 1 X9 σ3 w5 v5 (cls::m.params):=a5
 generalize hn:(min m.locals 1000).toNat=n
 have hnl:(n:Int)=max (min m.locals 1000) 0:=by omega
 refine Ym (fun x w'=> ∃j σ',Stp w3 σ3 w' σ'∧V0 w3.heap.size T.c 1 X9 σ' w' x (cls::m.params++List.replicate j [])∧(j=0∨j+(m.params.length+1)≤n)) (fun x _=>n-X0j x) ⟨0,σ3,k5,by simpa using a5, .inl rfl⟩ ?_
 rintro x d w6 ⟨j,σ6,k6,a6,hj⟩
 have a6':=a6
 have slen: ∀{w':World} {σ':Q4} {v:Value} {xs:List X0},Stp w3 σ3 w' σ'→V0 w3.heap.size T.c 1 X9 σ' w' v xs→X0j v=xs.length:=fun k a=>by
  obtain ⟨_,_,q,_⟩:=a.keep k
  obtain ⟨_,_,rfl,_⟩:=q
  rfl
 have hxl:=slen k6 a6
 have hL:(cls::m.params++List.replicate j ([]:X0)).length=m.params.length+1+j:=by simp;omega
 refine Hw (U0.of_acc a6) ?_
 refine O8 ?_
 refine ld (i:=4) k6.sat (hqm.up k6) rfl ?_
 refine X06 ?_
 refine Z0 ?_
 rw[hL]
 refine Q5 (fun hc=>?_) (fun hc=>?_)
 ·have hc:((m.params.length+1+j:Nat):Int)<min m.locals 1000:=by simpa using hc
  refine O7 (R:=X9) (sz:=1) k6.sat [S []] [[]] rfl rfl (by simp;rfl) rfl ⟨⟨rfl,Nat.zero_le _⟩,trivial⟩ fun v7 w7 σ7 k7 hv7=>?_
  refine app (k6.trans k7) (a6.up k7) hv7 (by rfl) (by rw[hL];simp only[List.length_cons,List.length_nil];omega) (by rw[hL];simp only[List.length_cons,List.length_nil];omega) fun v8 w8 _ k8 a8 _=>?_
  have ea:cls::m.params++List.replicate j ([]:X0)++[[]]=cls::m.params++List.replicate (j+1) []:=by
   rw[List.append_assoc,List.replicate_succ']
  rw[ea] at a8
  have hyl:=slen k8 a8
  refine ⟨⟨j+1,σ7,k8,a8, .inr (by omega)⟩,?_⟩
  rw[hxl,hyl,hL]
  simp
  omega
 ·have hc: ¬((m.params.length+1+j:Nat):Int)<min m.locals 1000:=by simpa using hc
  refine O8 ?_
  refine ld (i:=4) k6.sat (hqm.up k6) rfl ?_
  obtain ⟨σ7,k7,q7,_⟩:=a6.keep k6
  refine Q9 q7 ?_
  refine X06 ?_
  refine X2f ?_
  rw[hL]
  have en:max (min m.locals ((m.params.length+1+j:Nat):Int)) 0=(n:Int):=by omega
  rw[en]
  refine Hj q7 none (some (I n)) 0 n (.inl ⟨rfl,rfl⟩) (.inr rfl) (Nat.zero_le _) (by rw[hL];omega) fun v8 q8=>?_
  have ez:((cls::m.params++List.replicate j ([]:X0)).drop 0).take (n-0)=(Qe cls m).locals:=by
   unfold Qe
   simp only[hn,List.drop_zero,Nat.sub_zero]
   refine List.ext_getElem (by simp;omega) fun i h1 h2=>?_
   simp only[List.getElem_take]
   by_cases hi:i<(cls::m.params).length
   ·rw[List.getElem_append_left hi,List.getElem_append_left hi]
   ·rw[List.getElem_append_right (by omega),List.getElem_append_right (by omega),List.getElem_replicate,List.getElem_replicate]
  rw[ez] at q8
  refine V7 (cells:= #[.bool true, .slice none 0 0,v8]) (by obtain ⟨a,c,rfl,_⟩:=q8;kernel_rfl) ?_
  have hr:M9 σ7 (Qe cls m) [.bool true, .slice none 0 0,v8]:=⟨_,_,rfl,Sl.nil,q8⟩
  exact Cs (K:=K) (S3.trans k7) (hm6.up k7) rfl hb6 hr fun w9 S9=>h _ _ _ S9 hr)
def ShF (w0:World) (σ:Q4) (s:Shp) (v:Value) (w':World):Prop:= ∃ds σ',v= .agg (List.toArray ds)∧Stp w0 σ w' σ'∧M9 σ' s ds
theorem ShF.st:I0 (fun w w'=>Below w.heap.size w w') (ShF w0 σ s):=fun _ _ _ ⟨ds,σ',d,a,b⟩ c=>⟨ds,σ',d,a.trans (Stp.of_below a.sat c),b⟩
set_option maxHeartbeats 1000000 in
theorem Q3Z (N:X4 w σ) (Z:Glb σ) (D:cls.length≤Z7) (H:L2 σ m ds) (h: ∀w' σ',Stp w σ w' σ'→K (.bool true) w'):Q0 P F.bx [S cls, .agg ds.toArray] w K:=Di (by
 obtain ⟨pv,B,L,rfl,o,_⟩:=id H
 unfold Yf
 refine Y8 N fun qm w1 σ1 c b=>?_
 have g:L2 σ1 m _:=Rep.up c.le H
 have o:=o.up c
 have f:=Z.lift ⟨c.le⟩
 have n:Q0 P F.ab [] w1 fun t w=>K t w:=Q4R c.sat f fun w6 σ6 Y=>h _ _ (c.trans Y)
 refine O8 ?_
 refine ld (i:=1) c.sat b rfl ?_
 refine Q9 o ?_
 refine Q1T ?_
 by_cases C:(100:Int)<(m.params.length:Nat)
 ·rw[decide_eq_true C]
  (repeat refine Hd.h ?_)
  exact V9 n
 rw[decide_eq_false C]
 (repeat refine Hd.h ?_)
 refine ld (i:=4) c.sat b rfl ?_
 (repeat refine Hd.h ?_)
 refine Q1T ?_
 (repeat refine Hd.h ?_)
 by_cases E:(1000:Int)<m.locals
 ·rw[decide_eq_true E]
  (repeat refine Hd.h ?_)
  exact V9 n
 rw[decide_eq_false E]
 (repeat refine Hd.h ?_)
 refine Q4n (by kernel_rfl) ?_
 (repeat refine Hd.h ?_)
 refine Q1T ?_
 (repeat refine Hd.h ?_)
 by_cases J:(100:Int)<(cls.length:Nat)
 ·rw[decide_eq_true J]
  exact V9 n
 rw[decide_eq_false J]
 refine W0 ?_
 clear n
 refine U9 c.sat ?_
 refine J4 (V:= .bool true) (fun w a=>Q4R a.sat f fun w' σ' k=>Xo k.bel rfl) ?_
 refine J4 (V:=S cls) (fun t w a e=>by subst e;exact Q2A (W8 rfl)) ?_
 refine J4 (V:=S cls) (fun t w a e=>by subst e;exact Q2A (W8 rfl)) ?_
 refine J4 (V:= .agg [S m.name,pv,S m.result, .bool m.abs,I m.locals,B,L].toArray) (fun t w a e=>by subst e;exact Cd (Z1 a.sat b rfl (W8 rfl))) ?_
 refine W5 (ShF w1 σ1 (Qe cls m)) ShF.st (fun X U M w a q z y=>?_) ?_
 ·subst q z y
  exact Cd (X0p a.sat g D (by omega) (by omega) fun d w' σ' k O=>⟨k.bel,d,σ',rfl,a.stp.trans k,O⟩)
 refine J4 (V:= .agg [S m.name,pv,S m.result, .bool m.abs,I m.locals,B,L].toArray) (fun t w a e=>by subst e;exact Cd (Z1 a.sat b rfl (W8 rfl))) ?_
 rintro _ _ _ _ R _ w2 Q rfl rfl rfl rfl ⟨d,σ2,rfl,A,p⟩ rfl
 refine Cd ?_
 refine Q7F A.sat (Rep.up A.le g) D fun es w3 σ3 j r=>?_
 refine Cd ?_
 refine Tm j.sat (M9.liftS p j) r fun w4 W=>?_
 rw[decide_eq_true rfl]
 (repeat refine Hd.h ?_)
 exact h _ _ (c.trans (A.trans (j.trans (Stp.of_below j.sat W)))))
end Go.Proofs.YtfppjenblllfaaaGreatDoor

namespace Go.Proofs.YtfppjenblllfaaaGreatDoor.stepBegins
open Go.ChangeShapes Go.WideShapes Go.ChangeAt Go.RowKit
open Go.Emb
theorem own : ownKnob Tryz.prog.godebug = none := by kernel_rfl
theorem lay : laidOutB Tryz.prog = true := by kernel_rfl
set_option maxRecDepth 100000 in
theorem X1T (os : Os) (started : os.Started) (H : Type) (enc : TypeId × Value → H) :
    ReturnsInHanded {} Tryz.checked os 8 .any (fun w args => (Rows.stepBeginsSpec.pre enc Tryz.prog Tryz.f8 [] false w args ∧ laidMetH Tryz.prog laidAll w) ∧ sizedMet enc Tryz.prog Tryz.f8 (OpenSpec.ofChange Rows.stepBeginsSpec) false w args) (Rows.stepBeginsSpec.post enc Tryz.prog Tryz.f8 false true false false) := by
  refine returnsInHanded_of_change_and (C := Tryz.checked) (X := fun w _ => laidMetH Tryz.prog laidAll w) (fun _ _ _ hh h => h.of_heap hh) own started (by kernel_rfl) Tryz.func8
    (ChangeSpec.witness_shaped (enc := enc) (C := Tryz.checked) (os := os) (X := fun w _ => laidMetH Tryz.prog laidAll w) false (World.laidAll Tryz.prog os laidAll) #[.string ByteArray.empty, .agg #[.string ByteArray.empty, .slice none 0 0, .string ByteArray.empty, .bool false, .int .i64 0, .slice none 0 0, .slice none 0 0]] 8 (World.laidAll_os _ _ _)
      (World.shaped_of_ZipB (by kernel_rfl) (by kernel_rfl)) (by kernel_rfl) (by kernel_rfl) (by kernel_rfl) (by rw [MakeChecks.laidMetH_plain _ _ _ (by kernel_rfl)]; exact laidMet_laidAll _ (by kernel_rfl) (by kernel_rfl))) ?_
  intro W base args ds gs before hval0 hW _ hsz0 hL _
  have hsz : (DataW.weightsEach Tryz.prog (Tryz.f8.params.toList ++ Rows.stepBeginsSpec.plain.varTypes Tryz.prog) (ds ++ gs)).all (· ≤ reachBytes) = true := hsz0
  have hval : ∀ (j : Nat) t v, Tryz.f8.params[j]? = some t → args[j]? = some v → Value.okWide Tryz.prog W .any base t v := hval0
  have hW' := hW
  obtain ⟨p, q, hA0, hV, rfl, hfz, hnd⟩ := hW
  have hA : DataW.TrodAll enc Tryz.prog W 0 (fun _ => true) true Tryz.f8.params.toList args.toList ds p := hA0
  have hlt := DataW.TrodAll.lt hA
  rw [Tryz.params8] at hA hval hsz
  obtain ⟨v0, vs0, d0, ds0, p0, q0, hargs, rfl, rfl, h0, r0⟩ := trodAll_cons hA
  obtain ⟨v1, vs1, d1, ds1, p1, q1, rfl, rfl, rfl, h1, r1⟩ := trodAll_cons r0
  obtain ⟨rfl, rfl, rfl⟩ := trodAll_nil r1
  obtain rfl : args = #[v0, v1] := by cases args; simp_all
  obtain ⟨rfl, rfl⟩ := trodVars_none hV
  have g0 : ∀ x ∈ p0, x.block < W.heap.size := fun x hx => hlt x (by simp [hx])
  have k0 := fun (W' : World) (bel : Below W.heap.size W W') => Below.trod lay (by kernel_rfl) (of_decide_eq_true (by kernel_rfl)) h0 bel g0
  obtain ⟨a0, rfl, w0⟩ := X1U (hval 0 9 v0 rfl rfl) h0 (Q8t hsz (j := 0) (t := 9) rfl rfl)
  have g1 : ∀ x ∈ p1, x.block < W.heap.size := fun x hx => hlt x (by simp [hx])
  have k1 := fun (W' : World) (bel : Below W.heap.size W W') => Below.trod lay (by kernel_rfl) (of_decide_eq_true (by kernel_rfl)) h1 bel g1
  obtain ⟨y1, c1, rfl, e1⟩ := X1Y (hval 1 40 v1 rfl rfl) h1 (Q8t hsz (j := 1) (t := 40) rfl rfl)
  have hc : Q0 Tryz.prog 8 [S a0, .agg (List.toArray c1)] W (fun e w' => e = .bool true ∧ Below W.heap.size W w') := Q3Z Q8H (X21 hL) w0 e1 (fun w' σ' hb => ⟨rfl, hb.bel⟩)
  refine (Q27 Tryz.func8 (by kernel_rfl) (by kernel_rfl) hc).mono fun e W' he => ?_
  obtain ⟨v, rfl⟩ : ∃ v, e = .returned v := by cases e <;> first | exact ⟨_, rfl⟩ | exact he.elim
  obtain ⟨rfl, bel⟩ := he
  exact ⟨_, rfl, _, _, _, [], _, [], hW', trodAll_mk1 (shut_bool Tryz.underlying4 _), (trodAll_cons_mk (k0 W' bel) (trodAll_cons_mk (k1 W' bel) trodAll_mk0)), rfl, bel.frame _, fun h => by cases h⟩
theorem over : Rows.stepBeginsRow.holds Tryz.pinned (OpenSpec.ofChange Rows.stepBeginsSpec) :=
  OpenClaim.holds_of_wide 8 Tryz.f8 rfl rfl rfl rfl rfl rfl rfl ⟨rfl, rfl, rfl, rfl, rfl⟩ rfl rfl rfl rfl rfl (by kernel_rfl) Tryz.func8 (by kernel_rfl)
    (of_decide_eq_true (by kernel_rfl)) (by unfold Func.isWrapper; first | (rw [if_pos (by decide +kernel)]; kernel_rfl) | (rw [if_neg (by decide +kernel)]; exact ⟨rfl, rfl⟩))
    (fun os started H enc _ => X1T os started H enc)
end Go.Proofs.YtfppjenblllfaaaGreatDoor.stepBegins
namespace Go.Proofs.YtfppjenblllfaaaGreatDoor
theorem Q14 : Rows.StepBeginsSaid := stepBegins.over
end Go.Proofs.YtfppjenblllfaaaGreatDoor
