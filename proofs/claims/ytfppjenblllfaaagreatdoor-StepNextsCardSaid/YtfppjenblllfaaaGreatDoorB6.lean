/- Parts of a proof about the given program: its functions as texts of their own, what each computes, plain laws of that. The conditions of each stand in its statement. -/
import Derived.Test.YtfppjenblllfaaaGreatDoorB5
import Derived.Test.YtfppjenblllfaaaGreatDoorRows
import Derived.Test.YtfppjenblllfaaaGreatDoorB4
import Derived.WalkKit
import Derived.ProofKit
import Derived.OpenShut
import Derived.ShutString
import Derived.ChangeOld
import Derived.Below
import Derived.SizedLaws
import Derived.Lay
import Derived.Carry
import Derived.MakeChecks
import Derived.PinnedBridge
set_option linter.unnecessarySimpa false
set_option linter.defProp false
set_option linter.unusedSectionVars false
set_option linter.unusedVariables false
set_option linter.unusedSimpArgs false
namespace Go.Proofs.YtfppjenblllfaaaGreatDoor
open Go.Emb Go.RowKit Go.Kd Go.Hm
variable {w w' w0 w1 : World} {K : Value → World → Prop} {σ σ' σ0 σ1 : Q4} {v u : Value} {code : List Ins} {xs : List Int} {at_ : Int}
theorem X0x {q:Addr} {p:Value} (o:X4 w σ) (m:Sl 1 B5 σ v xs) (y:Z2 σ q [p]) (t:Sl 3 C9 σ p code) (h:K (.bool (xs.any fun x=>decide ((code.length:Int)≤x))) w):Q1 P F.ai [v, .func (.func F.ca) #[] #[.pointer (some q)]] w K:=Vu (by
 unfold K2
 refine Nr ?_
 unfold Qq
 have l:=m.max
 refine Q8 m ?_
 refine J4 xs.length (fun k w'=>w'=w∧ ∀j (f:j<xs.length),j<k→decide ((code.length:Int)≤xs[j])=false) ⟨rfl,fun j _ h=>absurd h (Nat.not_lt_zero _)⟩ fun k w1 d E B=>?_
 obtain ⟨rfl,g⟩:=B
 refine Y8 ?_
 refine Q5 (fun c=>?_) (fun c=>?_)
 ·have b:k<xs.length:=by simp at c;omega
  refine W6 m b fun a cs s D r=>?_
  obtain ⟨rfl,_⟩:=r
  refine X7 o s rfl ?_
  refine Y7 (first:=[]) (caps:=[.pointer (some q)]) (Q3C ?_)
  unfold Ib
  refine X7 o y rfl ?_
  refine Q8 t ?_
  refine F0 ?_
  cases e:decide ((code.length:Int)≤xs[k]) with
  | true=>
   refine U1 ?_
   refine F0 ?_
   rw[decide_eq_true (show (0:Int)≤(k:Int) by omega)]
   have n:(xs.any fun x=>decide ((code.length:Int)≤x))=true:=List.any_eq_true.2 ⟨xs[k],List.getElem_mem b,e⟩
   rw[n] at h
   exact h
  | false=>
   refine J9 ?_
   (try simp only[↓M1,M1,Mb,reduceIte])
   exact Y3 l b ⟨rfl,fun j f A=>by
    by_cases z:j=k
    ·subst z;exact e
    ·exact g j f (by omega)⟩
 ·have i:k=xs.length:=by simp at c;omega
  subst i
  refine F0 ?_
  rw[show decide ((0:Int)≤ -1)=false from rfl]
  have n:(xs.any fun x=>decide ((code.length:Int)≤x))=false:=List.any_eq_false.2 fun x C=>by
   obtain ⟨j,f,rfl⟩:=List.mem_iff_getElem.1 C
   simpa using g j f f
  rw[n] at h
  exact h)
def Jf (code:List Ins) (at_:Int) (i:Ins):List Int:=
 if i.op=M5 then [if 0≤i.n∧i.n<code.length then i.n else code.length]
 else if i.op=H9 then [at_+1,if 0≤i.n∧i.n<code.length then i.n else code.length]
 else if i.op=D0∨i.op=B2 then [] else [at_+1]
theorem X0o (m:0≤at_) (l:at_<code.length):P0 code at_=if (Jf code at_ (code.getD at_.toNat ⟨[],0,[]⟩)).any (fun x=>decide ((code.length:Int)≤x))=true then ([],false) else (Jf code at_ (code.getD at_.toNat ⟨[],0,[]⟩),true):=by
 unfold P0 Jf
 rw[if_neg (by omega)]
 simp only
 generalize code.getD at_.toNat ⟨[],0,[]⟩=i
 have e:M5≠H9:=by decide
 have f:M5≠D0:=by decide
 have j:M5≠B2:=by decide
 have g:H9≠D0:=by decide
 have k:H9≠B2:=by decide
 by_cases d:i.op=M5
 ·simp only[d,e,f,j,ne_eq,not_true_eq_false,not_false_eq_true,false_and,true_and,or_false,false_or,true_or,if_true,if_false,List.nil_append,List.any_cons,List.any_nil,Bool.or_false,decide_eq_true_eq]
  by_cases c:0≤i.n∧i.n<code.length
  ·rw[if_pos c,if_neg (by omega),if_neg (by omega)]
  ·rw[if_neg c,if_pos (by omega),if_pos (by omega)]
 by_cases c:i.op=H9
 ·simp only[c,e.symm,g,k,ne_eq,not_true_eq_false,not_false_eq_true,false_and,true_and,or_false,false_or,or_true,true_or,if_true,if_false,List.nil_append,List.cons_append,List.any_cons,List.any_nil,Bool.or_false,decide_eq_true_eq,Bool.or_eq_true]
  by_cases b:0≤i.n∧i.n<code.length
  ·rw[if_pos b]
   by_cases a:(code.length:Int)≤at_+1
   ·rw[if_pos (.inl a),if_pos (.inl a)]
   ·rw[if_neg (by omega),if_neg (by omega)]
  ·rw[if_neg b,if_pos (by omega),if_pos (by omega)]
 by_cases b:i.op=D0∨i.op=B2
 ·have a: ¬(i.op≠M5∧i.op≠D0∧i.op≠B2∧(code.length:Int)≤at_+1):=fun h=>b.elim h.2.1 h.2.2.1
  simp only[d,c,b,if_true,if_false,List.any_nil,Bool.false_eq_true,or_false,false_or,false_and,List.append_nil]
  rw[if_neg (by simpa [d] using a)]
 ·have a:i.op≠D0∧i.op≠B2:=⟨fun h=>b (.inl h),fun h=>b (.inr h)⟩
  simp only[d,c,a.1,a.2,ne_eq,not_false_eq_true,true_and,or_self,false_or,or_false,false_and,if_false,List.append_nil,List.any_cons,List.any_nil,Bool.or_false,decide_eq_true_eq]
set_option maxHeartbeats 1000000 in
theorem X1X (hs:X4 w σ) (hc:Sl 3 C9 σ v code) (h64:Et at_) (h: ∀v' w' σ',Stp w σ w' σ'→Sl 1 B5 σ' v' (P0 code at_).1→K (.tuple #[v', .bool (P0 code at_).2]) w'):Q1 P F.cD [v,I at_] w K:=Q5D (by
 have hmx:=hc.max
 unfold Q0F
 refine L1 hs hc fun q w1 σ1 k1 hq=>?_
 have hc1:=hc.up k1
 refine Y8 ?_
 by_cases e0:at_<0
 ·rw[decide_eq_true e0]
  (repeat refine Hd.h ?_)
  refine U1 ?_
  have e:P0 code at_=([],false):=by unfold P0;rw[if_pos (.inl e0)]
  rw[e] at h
  exact h _ _ _ k1 Sl.nil
 rw[decide_eq_false e0]
 (repeat refine Hd.h ?_)
 refine X7 k1.sat hq rfl ?_
 (repeat refine Hd.h ?_)
 refine Q8 hc1 ?_
 (repeat refine Hd.h ?_)
 refine F0 ?_
 (repeat refine Hd.h ?_)
 by_cases e1:(code.length:Int)≤at_
 ·rw[decide_eq_true e1]
  refine U1 ?_
  have e:P0 code at_=([],false):=by unfold P0;rw[if_pos (.inr e1)]
  rw[e] at h
  exact h _ _ _ k1 Sl.nil
 rw[decide_eq_false e1]
 refine J9 ?_
 rw[X0o (by omega) (by omega)] at h
 obtain ⟨n,rfl⟩: ∃n:Nat,at_=n:=⟨at_.toNat,by omega⟩
 have hn:n<code.length:=by omega
 have eg:code.getD (n:Int).toNat ⟨[],0,[]⟩=code[n]:=by rw[Int.toNat_natCast,List.getD_eq_getElem?_getD,List.getElem?_eq_getElem hn];rfl
 rw[eg] at h
 refine O3 ?_
 rw[C4 (by omega) (by omega)]
 refine I6 (R:=B5) (sz:=1) (Stp.refl k1.sat) [I ((n:Int)+1)] [(n:Int)+1] rfl rfl (by simp;rfl) rfl ⟨⟨rfl,by omega,by omega⟩,trivial⟩ fun v2 w2 k2 a2 _=>?_
 refine G6 (fun z w'=> ∃σ',Stp w1 σ1 w' σ'∧Sl 1 B5 σ' z (Jf code n code[n])) ?_ fun z d w3 hz=>?_
 ·refine X7 k2.sat (hq.up k2) rfl ?_
  refine W6 (hc1.up k2) hn fun a cs ha hl hr=>?_
  refine Z1 k2.sat ha hl ?_
  obtain ⟨rfl,hop,hn64,hsl⟩:=hr
  refine Y4 (sz:=3) k2.sat rfl rfl (by simp;exact ⟨rfl,rfl,rfl⟩) fun qi w4 σ4 k4 hqi=>?_
  have k24:=k2.trans k4
  have a4:=a2.up k4
  have hq4:=(hq.up k2).up k4
  have hc4:=(hc1.up k2).up k4
  generalize hi:code[n]=i at*
  refine D2 ?_
  refine ld (i:=0) k4.sat hqi rfl ?_
  refine G6 (fun z w'=>w'=w4∧z= .bool (decide (i.op=M5)||decide (i.op=H9))) ?_ fun z d w5 hz=>?_
  ·refine F9 ?_
   cases e:decide (i.op=M5) with
   | true=>
    rw[show decide (i.op=[106,117,109,112])=true from e]
    refine U1 ?_
    exact ⟨rfl,rfl⟩
   | false=>
    rw[show decide (i.op=[106,117,109,112])=false from e]
    refine J9 ?_
    refine F9 ?_
    exact ⟨rfl,rfl⟩
  obtain ⟨rfl,rfl⟩:=hz
  refine Q5 (fun hj=>?_) (fun hj=>?_)
  ·refine X7 k4.sat hq4 rfl ?_
   refine Q8 hc4 ?_
   refine G6 (fun z w'=>w'=w5∧z=I (if 0≤i.n∧i.n<code.length then i.n else code.length)) ?_ fun z d w6 hz=>?_
   ·refine D2 ?_
    refine ld (i:=1) k4.sat hqi rfl ?_
    refine F0 ?_
    by_cases g0:0≤i.n
    ·rw[decide_eq_true g0]
     (repeat refine Hd.h ?_)
     refine ld (i:=1) k4.sat hqi rfl ?_
     (repeat refine Hd.h ?_)
     refine X7 k4.sat hq4 rfl ?_
     (repeat refine Hd.h ?_)
     refine Q8 hc4 ?_
     (repeat refine Hd.h ?_)
     refine Y8 ?_
     (repeat refine Hd.h ?_)
     by_cases g1:i.n<(code.length:Nat)
     ·rw[decide_eq_true g1]
      refine U1 ?_
      refine D2 ?_
      refine ld (i:=1) k4.sat hqi rfl ?_
      rw[if_pos ⟨g0,g1⟩]
      exact ⟨rfl,rfl⟩
     ·rw[decide_eq_false g1]
      refine J9 ?_
      rw[if_neg (by omega)]
      exact ⟨rfl,rfl⟩
    ·rw[decide_eq_false g0]
     (repeat refine Hd.h ?_)
     refine J9 ?_
     rw[if_neg (by omega)]
     exact ⟨rfl,rfl⟩
   obtain ⟨rfl,rfl⟩:=hz
   have hto: -9223372036854775808≤(if 0≤i.n∧i.n<code.length then i.n else code.length:Int)∧(if 0≤i.n∧i.n<code.length then i.n else code.length:Int)≤9223372036854775807:=by split<;>omega
   generalize hte:(if 0≤i.n∧i.n<code.length then i.n else code.length:Int)=tgt at hto⊢
   refine N5 (R:=B5) (sz:=1) k4.sat [I tgt] [tgt] rfl rfl (by simp;rfl) rfl ⟨⟨rfl,hto⟩,trivial⟩ fun v7 w7 σ7 k7 hv7=>?_
   refine app (k24.trans k7) (a4.up k7) hv7 (by rfl) (by simp) (by simp) fun v8 w8 _ k8 a8 _=>?_
   obtain ⟨σ9,k9,q9,le9,_⟩:=a8.keep k8
   have a8:Sl 1 B5 σ9 v8 [(n:Int)+1,tgt]:=q9
   refine D2 ?_
   refine ld (i:=0) k9.sat ((hqi.up k7).le le9) rfl ?_
   refine F9 ?_
   by_cases g2:i.op=M5
   ·rw[decide_eq_true (show i.op=[106,117,109,112] from g2)]
    refine U1 ?_
    refine Hn a8 (some (I 1)) none 1 2 (.inr rfl) (.inl ⟨rfl,rfl⟩) (by decide) (by simp) fun v10 q10=>?_
    refine ⟨σ9,k9,?_⟩
    unfold Jf
    rw[if_pos g2,hte]
    exact q10
   ·rw[decide_eq_false (show¬i.op=[106,117,109,112] from g2)]
    refine J9 ?_
    refine ⟨σ9,k9,?_⟩
    unfold Jf
    have g3:i.op=H9:=by simpa [g2] using hj
    rw[if_neg g2,if_pos g3,hte]
    exact a8
  ·have hj1: ¬i.op=M5:=fun e=>by simp[e] at hj
   have hj2: ¬i.op=H9:=fun e=>by simp[e] at hj
   refine G6 (fun z w'=>w'=w5∧z= .bool (decide (i.op=D0)||decide (i.op=B2))) ?_ fun z d w6 hz=>?_
   ·refine F9 ?_
    cases e:decide (i.op=D0) with
    | true=>
     rw[show decide (i.op=[114,101,116,117,114,110])=true from e]
     refine U1 ?_
     exact ⟨rfl,rfl⟩
    | false=>
     rw[show decide (i.op=[114,101,116,117,114,110])=false from e]
     refine J9 ?_
     refine F9 ?_
     exact ⟨rfl,rfl⟩
   obtain ⟨rfl,rfl⟩:=hz
   refine Q5 (fun hr=>?_) (fun hr=>?_)
   ·refine ⟨σ4,k24,?_⟩
    unfold Jf
    rw[if_neg hj1,if_neg hj2,if_pos (by simpa using hr)]
    exact Sl.nil
   ·obtain ⟨σ9,k9,q9,_⟩:=a4.keep k24
    refine ⟨σ9,k9,?_⟩
    unfold Jf
    rw[if_neg hj1,if_neg hj2,if_neg (by simpa using hr)]
    exact q9
 ·obtain ⟨σ3,k3,q3⟩:=hz
  refine Q57 ?_
  refine X0x k3.sat q3 (hq.up k3) (hc1.up k3) ?_
  cases e:(Jf code n code[n]).any fun x=>decide ((code.length:Int)≤x) with
  | true=>
   rw[if_pos e] at h
   refine U1 ?_
   exact h _ _ _ (k1.trans k3) Sl.nil
  | false=>
   rw[if_neg (by rw[e];simp)] at h
   refine J9 ?_
   exact h _ _ _ (k1.trans k3) q3)
end Go.Proofs.YtfppjenblllfaaaGreatDoor

namespace Go.Proofs.YtfppjenblllfaaaGreatDoor
open Go.Emb Go.RowKit Go.Kd Go.Hm
variable {w w' w0 w1 : World} {K : Value → World → Prop} {σ σ' σ0 σ1 : Q4} {v u : Value} {code : List Ins} {xs : List Int} {at_ : Int}
set_option maxHeartbeats 1000000 in
theorem Q9g (hs:X4 w σ) (hc:Sl 3 C9 σ v code) (h64:Et at_) (h: ∀v' w' σ',Stp w σ w' σ'→Sl 1 B5 σ' v' (P0 code at_).1→K (.tuple #[v', .bool (P0 code at_).2]) w'):Q1 P F.bk [v,I at_] w K:=Iz (by
 have hmx:=hc.max
 unfold Mj
 refine Y8 ?_
 by_cases e0:at_<0
 ·rw[decide_eq_true e0]
  (repeat refine Hd.h ?_)
  refine U1 ?_
  have e:P0 code at_=([],false):=by unfold P0;rw[if_pos (.inl e0)]
  rw[e] at h
  exact h _ _ _ (Stp.refl hs) Sl.nil
 rw[decide_eq_false e0]
 (repeat refine Hd.h ?_)
 refine Q8 hc ?_
 (repeat refine Hd.h ?_)
 refine F0 ?_
 (repeat refine Hd.h ?_)
 by_cases e1:(code.length:Int)≤at_
 ·rw[decide_eq_true e1]
  refine U1 ?_
  have e:P0 code at_=([],false):=by unfold P0;rw[if_pos (.inr e1)]
  rw[e] at h
  exact h _ _ _ (Stp.refl hs) Sl.nil
 rw[decide_eq_false e1]
 refine J9 ?_
 obtain ⟨n,rfl⟩: ∃n:Nat,at_=n:=⟨at_.toNat,by omega⟩
 have hn:n<code.length:=by omega
 have eg:code.getD (n:Int).toNat ⟨[],0,[]⟩=code[n]:=by rw[Int.toNat_natCast,List.getD_eq_getElem?_getD,List.getElem?_eq_getElem hn];rfl
 have en:P0 code n=if (code[n].op≠M5∧code[n].op≠D0∧code[n].op≠B2∧(code.length:Int)≤n+1)∨((code[n].op=M5∨code[n].op=H9)∧(code[n].n<0∨(code.length:Int)≤code[n].n)) then ([],false)
  else ((if code[n].op=M5∨code[n].op=D0∨code[n].op=B2 then [] else [(n:Int)+1])++(if code[n].op=M5∨code[n].op=H9 then [code[n].n] else []),true):=by
  unfold P0
  rw[if_neg (by omega)]
  simp only[eg]
 rw[en] at h
 clear en eg
 refine I6 (R:=B5) (sz:=1) (Stp.refl hs) [] [] rfl rfl (by simp) rfl trivial fun v2 w2 k2 a2 _=>?_
 refine W6 (hc.up k2) hn fun a cs ha hl hr=>?_
 refine Z1 k2.sat ha hl ?_
 obtain ⟨rfl,hop,hn64,hsl⟩:=hr
 refine Y4 (sz:=3) k2.sat rfl rfl (by simp;exact ⟨rfl,rfl,rfl⟩) fun qi w4 σ4 k4 hqi=>?_
 have k24:=k2.trans k4
 have a4:=a2.up k4
 have hc4:=(hc.up k2).up k4
 generalize hi:code[n]=i at*
 refine D2 ?_
 refine ld (i:=0) k4.sat hqi rfl ?_
 have last: ∀K:Value→World→Prop,K (.bool (decide (i.op=M5∨i.op=D0∨i.op=B2))) w4→
  Q3 P .eql T.b (.tmp 23) (.const (.string ⟨#[106,117,109,112]⟩)) (S i.op) (.string ⟨#[106,117,109,112]⟩) w4 fun t24 w=>
  Q0 t24 false w (fieldAddr P T.l (.pointer (some qi)) 0) fun t26 w=>
  Q0 t24 false w (Q2 P T.b t26) fun t27 w=>
  Q0 t24 false w (Q3 P .eql T.b (.tmp 27) (.const (.string ⟨#[114,101,116,117,114,110]⟩)) t27 (.string ⟨#[114,101,116,117,114,110]⟩)) fun t28 w=>
  pick P t24 (.bool true) t28 w fun t29 w=>
  Q0 t29 false w (fieldAddr P T.l (.pointer (some qi)) 0) fun t31 w=>
  Q0 t29 false w (Q2 P T.b t31) fun t32 w=>
  Q0 t29 false w (Q3 P .eql T.b (.tmp 32) (.const (.string ⟨#[116,104,114,111,119]⟩)) t32 (.string ⟨#[116,104,114,111,119]⟩)) fun t33 w=>
  pick P t29 (.bool true) t33 w K:=fun K hk=>by
  refine F9 ?_
  by_cases g1:i.op=M5
  ·rw[decide_eq_true (show i.op=[106,117,109,112] from g1)]
   (repeat refine Hd.h ?_)
   rw[decide_eq_true (.inl g1)] at hk
   exact hk
  rw[decide_eq_false (show¬i.op=[106,117,109,112] from g1)]
  (repeat refine Hd.h ?_)
  refine ld (i:=0) k4.sat hqi rfl ?_
  (repeat refine Hd.h ?_)
  refine F9 ?_
  (repeat refine Hd.h ?_)
  by_cases g2:i.op=D0
  ·rw[decide_eq_true (show i.op=[114,101,116,117,114,110] from g2)]
   (repeat refine Hd.h ?_)
   rw[decide_eq_true (.inr (.inl g2))] at hk
   exact hk
  rw[decide_eq_false (show¬i.op=[114,101,116,117,114,110] from g2)]
  (repeat refine Hd.h ?_)
  refine ld (i:=0) k4.sat hqi rfl ?_
  (repeat refine Hd.h ?_)
  refine F9 ?_
  (repeat refine Hd.h ?_)
  have e:decide (i.op=M5∨i.op=D0∨i.op=B2)=decide (i.op=[116,104,114,111,119]):=decide_eq_decide.2 ⟨fun h=>(h.resolve_left g1).resolve_left g2,fun h=> .inr (.inr h)⟩
  rw[e] at hk
  exact hk
 refine last _ ?_
 clear last
 -- the next one
 refine G6 (fun z w'=> ∃σ',Stp w σ w' σ'∧SLe σ4 σ'∧(∀b o,σ4 b=some o→σ' b=some o)∧V8 w.heap.size T.e 1 B5 σ' w' z (if i.op=M5∨i.op=D0∨i.op=B2 then [] else [(n:Int)+1])∧ ¬(i.op≠M5∧i.op≠D0∧i.op≠B2∧(code.length:Int)≤n+1)) ?_ fun z d w5 hz=>?_
 ·refine Nw ?_
  by_cases g1:i.op=M5∨i.op=D0∨i.op=B2
  ·rw[decide_eq_true g1,Bool.not_true]
   refine J9 ?_
   rw[if_pos g1]
   exact ⟨σ4,k24,SLe.refl _,fun _ _ h=>h,a4,fun h=>g1.elim h.1 fun g=>g.elim h.2.1 h.2.2.1⟩
  ·rw[decide_eq_false g1,Bool.not_false]
   refine U1 ?_
   refine O3 ?_
   rw[C4 (by omega) (by omega)]
   refine Q8 hc4 ?_
   refine F0 ?_
   by_cases g2:(code.length:Int)≤n+1
   ·rw[decide_eq_true g2]
    refine U1 ?_
    rw[if_pos (.inl ⟨fun h=>g1 (.inl h),fun h=>g1 (.inr (.inl h)),fun h=>g1 (.inr (.inr h)),g2⟩)] at h
    exact h _ _ _ k24 Sl.nil
   ·rw[decide_eq_false g2]
    refine J9 ?_
    refine O3 ?_
    rw[C4 (by omega) (by omega)]
    refine N5 (R:=B5) (sz:=1) k4.sat [I ((n:Int)+1)] [(n:Int)+1] rfl rfl (by simp;rfl) rfl ⟨⟨rfl,by omega,by omega⟩,trivial⟩ fun v7 w7 σ7 k7 hv7=>?_
    refine app (k24.trans k7) (a4.up k7) hv7 (by rfl) (by simp) (by simp) fun v8 w8 _ k8 a8 _=>?_
    rw[if_neg g1]
    exact ⟨σ7,k8,⟨k7.le⟩,k7.le,a8,fun h=>g2 h.2.2.2⟩
 obtain ⟨σ5,k5,le5,_,a5,hno⟩:=hz
 have hqi5:=hqi.lift le5
 have hc5:=hc4.lift le5
 simp only[hno,false_or] at h
 clear hno
 have hx1:(if i.op=M5∨i.op=D0∨i.op=B2 then [] else [(n:Int)+1]).length≤1:=by split<;>simp
 generalize (if i.op=M5∨i.op=D0∨i.op=B2 then [] else [(n:Int)+1])=xs at a5 h hx1
 refine G6 (fun z w'=> ∃σ',Stp w σ w' σ'∧Sl 1 B5 σ' z (xs++(if i.op=M5∨i.op=H9 then [i.n] else []))∧ ¬((i.op=M5∨i.op=H9)∧(i.n<0∨(code.length:Int)≤i.n))) ?_ fun z d w6 hz=>?_
 ·refine D2 ?_
  refine ld (i:=0) k5.sat hqi5 rfl ?_
  have jumps: ∀A:Value→World→Prop,A (.bool (decide (i.op=M5∨i.op=H9))) w5→
   Q3 P .eql T.b (.tmp 48) (.const (.string ⟨#[106,117,109,112]⟩)) (S i.op) (.string ⟨#[106,117,109,112]⟩) w5 fun t49 w=>
   Q0 t49 false w (fieldAddr P T.l (.pointer (some qi)) 0) fun t51 w=>
   Q0 t49 false w (Q2 P T.b t51) fun t52 w=>
   Q0 t49 false w (Q3 P .eql T.b (.tmp 52) (.const (.string ⟨#[98,114,97,110,99,104]⟩)) t52 (.string ⟨#[98,114,97,110,99,104]⟩)) fun t53 w=>
   pick P t49 (.bool true) t53 w A:=fun A hk=>by
   refine F9 ?_
   by_cases g1:i.op=M5
   ·rw[decide_eq_true (show i.op=[106,117,109,112] from g1)]
    (repeat refine Hd.h ?_)
    rw[decide_eq_true (.inl g1)] at hk
    exact hk
   rw[decide_eq_false (show¬i.op=[106,117,109,112] from g1)]
   (repeat refine Hd.h ?_)
   refine ld (i:=0) k5.sat hqi5 rfl ?_
   (repeat refine Hd.h ?_)
   refine F9 ?_
   (repeat refine Hd.h ?_)
   have e:decide (i.op=M5∨i.op=H9)=decide (i.op=[98,114,97,110,99,104]):=decide_eq_decide.2 ⟨fun h=>h.resolve_left g1,fun h=> .inr h⟩
   rw[e] at hk
   exact hk
  refine jumps _ ?_
  clear jumps
  by_cases g1:i.op=M5∨i.op=H9
  ·rw[decide_eq_true g1]
   refine U1 ?_
   refine D2 ?_
   refine ld (i:=1) k5.sat hqi5 rfl ?_
   refine Y8 ?_
   have bad:(i.n<0∨(code.length:Int)≤i.n)→K (.tuple #[.slice none 0 0, .bool false]) w5:=fun hb=>by
    rw[if_pos ⟨g1,hb⟩] at h
    exact h _ _ _ k5 Sl.nil
   by_cases g2:i.n<0
   ·rw[decide_eq_true g2]
    (repeat refine Hd.h ?_)
    exact U1 (bad (.inl g2))
   rw[decide_eq_false g2]
   (repeat refine Hd.h ?_)
   refine ld (i:=1) k5.sat hqi5 rfl ?_
   (repeat refine Hd.h ?_)
   refine Q8 hc5 ?_
   (repeat refine Hd.h ?_)
   refine F0 ?_
   (repeat refine Hd.h ?_)
   by_cases g3:(code.length:Int)≤i.n
   ·rw[decide_eq_true g3]
    exact U1 (bad (.inr g3))
   rw[decide_eq_false g3]
   refine J9 ?_
   refine D2 ?_
   refine ld (i:=1) k5.sat hqi5 rfl ?_
   refine N5 (R:=B5) (sz:=1) k5.sat [I i.n] [i.n] rfl rfl (by simp;rfl) rfl ⟨⟨rfl,hn64⟩,trivial⟩ fun v7 w7 σ7 k7 hv7=>?_
   refine app (k5.trans k7) (a5.up k7) hv7 (by rfl) (by simp only[List.length_cons,List.length_nil];omega) (by simp only[List.length_cons,List.length_nil];omega) fun v8 w8 _ k8 a8 _=>?_
   obtain ⟨σ9,k9,q9,_⟩:=a8.keep k8
   rw[if_pos g1]
   exact ⟨σ9,k9,q9,fun h=>by omega⟩
  ·rw[decide_eq_false g1]
   refine J9 ?_
   rw[if_neg g1,List.append_nil]
   obtain ⟨σ9,k9,q9,_⟩:=a5.keep k5
   exact ⟨σ9,k9,q9,fun h=>g1 h.1⟩
 obtain ⟨σ6,k6,q6,hno⟩:=hz
 rw[if_neg hno] at h
 exact h _ _ _ k6 q6)
set_option maxHeartbeats 1000000 in
theorem Q5w (t:X4 w σ) (s:Glb σ) (n:Sl 3 C9 σ v code) (B:(Lit.int .i64 at_).wf=true) (h: ∀w' σ',Stp w σ w' σ'→K (.bool true) w'):Q1 P F.bH [v,I at_] w K:=Hf (by
 have e:Et at_:=by
  simp[Lit.wf,IntKind.min,IntKind.max,IntKind.signed,IntKind.bits] at B
  exact ⟨by omega,by omega⟩
 unfold Yv
 refine Q8 n ?_
 refine Q7s ?_
 refine Q5 (fun C=>?_) (fun C=>?_)
 ·exact Q3W t s fun N E A=>h _ _ A
 refine X1X t n e fun V w1 σ1 o b=>?_
 refine U9 (vs:=[_,_]) rfl ?_
 refine U9 (vs:=[_,_]) rfl ?_
 refine Q9g o.sat (n.up o) e fun W U J r i=>?_
 refine U9 (vs:=[_,_]) rfl ?_
 refine U9 (vs:=[_,_]) rfl ?_
 have q:=o.trans r
 refine Q3W q.sat (s.lift ⟨q.le⟩) fun D z j=>?_
 have y:=q.trans j
 have b:=(b.up r).up j
 have i:=i.up j
 generalize (P0 code at_).1=xs at b i
 have p:=b.max
 refine Nw ?_
 rw[Bool.not_true]
 (repeat refine Hd.h ?_)
 rw[Q9Y]
 (repeat refine Hd.h ?_)
 rw[beq_self_eq_true,Bool.not_true]
 (repeat refine Hd.h ?_)
 refine Q8 b ?_
 (repeat refine Hd.h ?_)
 refine Q8 i ?_
 (repeat refine Hd.h ?_)
 refine P4 ?_
 (repeat refine Hd.h ?_)
 rw[decide_eq_true rfl,Bool.not_true]
 refine J9 ?_
 refine J4 xs.length (fun k w'=>Stp D z w' z) (Stp.refl y.sat) fun k L d X g=>?_
 have m:=b.up g
 have f:=i.up g
 refine Q8 f ?_
 refine Y8 ?_
 refine Q5 (fun c=>?_) (fun c=>?_)
 ·have a:k<xs.length:=by simp at c;omega
  obtain ⟨R,O,_,rfl,_⟩:=Sl.el m a
  obtain ⟨M,Q,_,rfl,_⟩:=Sl.el f a
  refine V3 g.sat ?_
  (repeat refine U6 Qt ?_)
  rintro _ _ _ _ H l rfl rfl rfl rfl
  refine P4 ?_
  rw[decide_eq_true rfl,Bool.not_true]
  refine J9 ?_
  (try simp only[↓M1,M1,Mb,reduceIte])
  exact Y3 p a (g.trans l.stp)
 ·exact h _ _ (y.trans g))
end Go.Proofs.YtfppjenblllfaaaGreatDoor

namespace Go.Proofs.YtfppjenblllfaaaGreatDoor.stepNexts
open Go.ChangeShapes Go.WideShapes Go.ChangeAt Go.RowKit
open Go.Emb
theorem own : ownKnob Tryz.prog.godebug = none := by kernel_rfl
theorem lay : laidOutB Tryz.prog = true := by kernel_rfl
set_option maxRecDepth 100000 in
theorem X1R (os : Os) (started : os.Started) (H : Type) (enc : TypeId × Value → H) :
    ReturnsInHanded {} Tryz.checked os 9 .any (fun w args => (Rows.stepNextsSpec.pre enc Tryz.prog Tryz.f9 [] false w args ∧ laidMetH Tryz.prog laidAll w) ∧ sizedMet enc Tryz.prog Tryz.f9 (OpenSpec.ofChange Rows.stepNextsSpec) false w args) (Rows.stepNextsSpec.post enc Tryz.prog Tryz.f9 false true false false) := by
  refine returnsInHanded_of_change_and (C := Tryz.checked) (X := fun w _ => laidMetH Tryz.prog laidAll w) (fun _ _ _ hh h => h.of_heap hh) own started (by kernel_rfl) Tryz.func9
    (ChangeSpec.witness_shaped (enc := enc) (C := Tryz.checked) (os := os) (X := fun w _ => laidMetH Tryz.prog laidAll w) false (World.laidAll Tryz.prog os laidAll) #[.slice none 0 0, .int .i64 0] 8 (World.laidAll_os _ _ _)
      (World.shaped_of_ZipB (by kernel_rfl) (by kernel_rfl)) (by kernel_rfl) (by kernel_rfl) (by kernel_rfl) (by rw [MakeChecks.laidMetH_plain _ _ _ (by kernel_rfl)]; exact laidMet_laidAll _ (by kernel_rfl) (by kernel_rfl))) ?_
  intro W base args ds gs before hval0 hW _ hsz0 hL _
  have hsz : (DataW.weightsEach Tryz.prog (Tryz.f9.params.toList ++ Rows.stepNextsSpec.plain.varTypes Tryz.prog) (ds ++ gs)).all (· ≤ reachBytes) = true := hsz0
  have hval : ∀ (j : Nat) t v, Tryz.f9.params[j]? = some t → args[j]? = some v → Value.okWide Tryz.prog W .any base t v := hval0
  have hW' := hW
  obtain ⟨p, q, hA0, hV, rfl, hfz, hnd⟩ := hW
  have hA : DataW.TrodAll enc Tryz.prog W 0 (fun _ => true) true Tryz.f9.params.toList args.toList ds p := hA0
  have hlt := DataW.TrodAll.lt hA
  rw [Tryz.params9] at hA hval hsz
  obtain ⟨v0, vs0, d0, ds0, p0, q0, hargs, rfl, rfl, h0, r0⟩ := trodAll_cons hA
  obtain ⟨v1, vs1, d1, ds1, p1, q1, rfl, rfl, rfl, h1, r1⟩ := trodAll_cons r0
  obtain ⟨rfl, rfl, rfl⟩ := trodAll_nil r1
  obtain rfl : args = #[v0, v1] := by cases args; simp_all
  obtain ⟨rfl, rfl⟩ := trodVars_none hV
  have g0 : ∀ x ∈ p0, x.block < W.heap.size := fun x hx => hlt x (by simp [hx])
  have k0 := fun (W' : World) (bel : Below W.heap.size W W') => Below.trod lay (by kernel_rfl) (of_decide_eq_true (by kernel_rfl)) h0 bel g0
  obtain ⟨l0, e0⟩ := X0G (hval 0 37 v0 rfl rfl) h0 (X1g hsz (j := 0) (t := 37) rfl rfl)
  have g1 : ∀ x ∈ p1, x.block < W.heap.size := fun x hx => hlt x (by simp [hx])
  have k1 := fun (W' : World) (bel : Below W.heap.size W W') => Below.trod lay (by kernel_rfl) (of_decide_eq_true (by kernel_rfl)) h1 bel g1
  obtain ⟨a1, rfl, _, _, w1⟩ := open_int Tryz.underlying3 (hval 1 3 v1 rfl rfl) h1
  have hc : Q1 Tryz.prog 9 [v0, .int .i64 a1] W (fun e w' => e = .bool true ∧ Below W.heap.size W w') := Q5w Q8k (X1O hL) e0 w1 (fun w' σ' hb => ⟨rfl, hb.bel⟩)
  refine (Q2m Tryz.func9 (by kernel_rfl) (by kernel_rfl) hc).mono fun e W' he => ?_
  obtain ⟨v, rfl⟩ : ∃ v, e = .returned v := by cases e <;> first | exact ⟨_, rfl⟩ | exact he.elim
  obtain ⟨rfl, bel⟩ := he
  exact ⟨_, rfl, _, _, _, [], _, [], hW', trodAll_mk1 (shut_bool Tryz.underlying4 _), (trodAll_cons_mk (k0 W' bel) (trodAll_cons_mk (k1 W' bel) trodAll_mk0)), rfl, bel.frame _, fun h => by cases h⟩
theorem over : Rows.stepNextsRow.holds Tryz.pinned (OpenSpec.ofChange Rows.stepNextsSpec) :=
  OpenClaim.holds_of_wide 9 Tryz.f9 rfl rfl rfl rfl rfl rfl rfl ⟨rfl, rfl, rfl, rfl, rfl⟩ rfl rfl rfl rfl rfl (by kernel_rfl) Tryz.func9 (by kernel_rfl)
    (of_decide_eq_true (by kernel_rfl)) (by unfold Func.isWrapper; first | (rw [if_pos (by decide +kernel)]; kernel_rfl) | (rw [if_neg (by decide +kernel)]; exact ⟨rfl, rfl⟩))
    (fun os started H enc _ => X1R os started H enc)
end Go.Proofs.YtfppjenblllfaaaGreatDoor.stepNexts
namespace Go.Proofs.YtfppjenblllfaaaGreatDoor
theorem Q23 : Rows.StepNextsSaid := stepNexts.over
end Go.Proofs.YtfppjenblllfaaaGreatDoor
