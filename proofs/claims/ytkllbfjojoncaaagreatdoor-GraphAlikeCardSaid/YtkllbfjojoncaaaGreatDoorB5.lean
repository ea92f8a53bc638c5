/- Parts of a proof about the given program: its functions as texts of their own, what each computes, plain laws of that. The conditions of each stand in its statement. -/
import Derived.Test.YtkllbfjojoncaaaGreatDoorB4
import Derived.Test.YtkllbfjojoncaaaGreatDoorB3
import Derived.Laws.OwnMore
import Derived.Laws.CopyRow
import Derived.Lib.TrimUEq
set_option linter.unnecessarySimpa false
set_option linter.defProp false
set_option linter.unusedSectionVars false
set_option linter.unusedVariables false
set_option linter.unusedSimpArgs false
namespace Go.Emb
open Go.RowKit Go.Hm
variable {P : Program} {w : World} {K : Value -> World -> Prop}
theorem X39 (n:Int):(BitVec.ofInt 64 n &&& BitVec.ofInt 64 1).toNat=(n % 2).toNat:=by
 rw[BitVec.toNat_and,BitVec.toNat_ofInt,BitVec.toNat_ofInt];have e:((1:Int) % ((2 ^ 64:Nat):Int)).toNat=1:=by decide
 rw[e,Nat.and_one_is_mod];omega
theorem X8s {t:TypeId} {a b:Operand} {n:Int} (h:K (I (n % 2)) w):Z9 P .and t a b (I n) (I 1) w K:=by
 have e:Z9 P .and t a b (I n) (I 1) w K=K (I (n % 2)) w:=Z0 (by
  have d:(BitVec.ofInt IntKind.i64.bits n &&& BitVec.ofInt IntKind.i64.bits 1).toNat=(n % 2).toNat:=X39 n;have f:IntKind.i64.wrap ((n % 2).toNat:Int)=n % 2:=by rw[Qr Q5 Q5];omega
  have c:((n % 2 ^ IntKind.i64.bits).toNat &&& 1 % 2 ^ IntKind.i64.bits)=(n % 2).toNat:=by
   show ((n % 18446744073709551616).toNat &&& 1)=_
   rw[Nat.and_one_is_mod];omega
  simp[eqGuard,binOp,Op.intBits,c]
  rw[show max (n % 2) 0=n % 2 by omega,Qr Q5 Q5])
 rw[e];exact h
end Go.Emb
namespace Go.Proofs.Y
open Go.Emb Go.RowKit Go.Kd Go.Hm
variable {w w' : World} {K : Value -> World -> Prop} {σ σ' : Q2} {hp tv : Value} {room : Int} {cs : List Cel}
theorem X88:(P.fieldsOf T.d).toList=[⟨"Sort",T.f,0,false, "", "",0⟩,⟨"N",T.a4,1,false, "", "",8⟩,⟨"S",T.b,2,false, "", "",16⟩,⟨"Ref",T.f,3,false, "", "",32⟩]:=by kernel_rfl
set_option maxRecDepth 100000 in
theorem X1m (a b:Val):(Op.eqFields 9999 [I a.sort,I a.n,S a.s,I a.ref].toArray [I b.sort,I b.n,S b.s,I b.ref].toArray (P.fieldsOf T.d).toList).run P w= .ok (decide (a=b)) w:=by
 rw[X88]
 have:=Q0s (P:=P) (w:=w) (d:=9999) (xs:=[I a.sort,I a.n,S a.s,I a.ref].toArray) (ys:=[I b.sort,I b.n,S b.s,I b.ref].toArray) (f:=⟨"Sort",T.f,0,false, "", "",0⟩) W3 rfl rfl (Q6R (k:= .i64) X8 _ _)
  (Q0s (f:=⟨"N",T.a4,1,false, "", "",8⟩) W3 rfl rfl (Q6R (k:= .i64) X8 _ _) (Q0s (f:=⟨"S",T.b,2,false, "", "",16⟩) W3 rfl rfl (X6H Z2 _ _) (Q0s (f:=⟨"Ref",T.f,3,false, "", "",32⟩) W3 rfl rfl (Q6R (k:= .i64) X8 _ _) X6G)))
 rw[this]
 congr 1
 obtain ⟨c,e,g,h⟩:=a;obtain ⟨i,j,m,o⟩:=b
 simp[Bool.decide_and]
theorem Bm {a b d:Int} {c:X2}: ∀u∈[I a,I b,S c,I d],u.oneCell'=true:=by
 intro u e;simp only[List.mem_cons,List.not_mem_nil,or_false] at e
 rcases e with rfl | rfl | rfl | rfl<;>rfl
set_option maxRecDepth 100000 in
theorem Mi {j k:Operand} {a b d e f i:Int} {c g:X2} (h:K (.bool (decide ((⟨a,b,c,d⟩:Val)=⟨e,f,g,i⟩))) w):Z9 P .eql T.d j k (.agg [I a,I b,S c,I d].toArray) (.agg [I e,I f,S g,I i].toArray) w K:=
 X6I X8 X8 X8 (X1m ⟨a,b,c,d⟩ ⟨e,f,g,i⟩) h
set_option maxRecDepth 100000 in
theorem X7v {j k:Operand} {a b d e f i:Int} {c g:X2} (h:K (.bool (!decide ((⟨a,b,c,d⟩:Val)=⟨e,f,g,i⟩))) w):Z9 P .neq T.d j k (.agg [I a,I b,S c,I d].toArray) (.agg [I e,I f,S g,I i].toArray) w K:=
 X75 X8 X8 X8 (X1m ⟨a,b,c,d⟩ ⟨e,f,g,i⟩) h
theorem Sl.elV {v:Value} {xs:List Val} (h:Sl 4 E4 σ v xs) {i:Nat} (c:i<xs.length):J7 σ (K9 4 v i) [I xs[i].sort,I xs[i].n,S xs[i].s,I xs[i].ref]/\E4 σ xs[i] [I xs[i].sort,I xs[i].n,S xs[i].s,I xs[i].ref]:=by
 obtain ⟨cs,a,d,rfl,b⟩:=h.el c;exact ⟨a,rfl,b⟩
theorem Sl.elO {v:Value} {xs:List Cel} (h:Sl 2 Xi σ v xs) {i:Nat} (e:i<xs.length): ∃a,J7 σ (K9 2 v i) [S xs[i].kind,a]/\Sl 4 E4 σ a xs[i].vals/\xs[i].kind.length<=W6:=by
 obtain ⟨cs,b,f,a,rfl,c,d⟩:=h.el e;exact ⟨a,b,c,d⟩
theorem X4Q (b:X7 w σ) (hh:O7 σ hp tv room cs) (h:K tv w):Q0 P F.bI [hp] w K:=Q29 (by
 obtain ⟨a,e,rfl,c,d⟩:=hh;unfold Rk Y1;rw[H7,fa];exact ld b c rfl h)
theorem X6t (c:X7 w σ) (hh:O7 σ hp tv room cs) (e:0<=D0 room cs) (f:room<=1048576) (h: ∀w',Below w.heap.size w w'->K (I (D0 room cs)) w'):Q0 P F.aD [hp] w K:=Q3n (by
 obtain ⟨a,k,rfl,i,j⟩:=hh;unfold Cq;simp only[Y3,X3];unfold X5;have g:=C0 cs;unfold D0 at*;refine U8 c ?_
 (repeat refine X0 Vf ?_)
 (intros;(repeat (rename_i d;subst d));(try simp only[↓M2,M2,Mb,reduceIte]))
 rename_i m b;rw[Qr Q5 Q5];exact h _ b.stp.bel)
theorem Q8K (c:X7 w σ) (hh:O7 σ hp tv room cs) {r:Int} (h:K (.bool (M5 cs r)) w):Q0 P F.aH [hp,I r] w K:=Q4v (by
 obtain ⟨a,f,rfl,d,e⟩:=hh;unfold By Z8 X6 Y0 X4 X5;refine A0 ?_;unfold M5 at h;cases b:decide ((0:Int)<=r) with
 | false=>
  rw[b] at h
  (try simp only[↓M1,M1,Mb,reduceIte])
  exact h
 | true=>
  rw[b] at h
  (try simp only[↓M1,M1,Mb,reduceIte])
  refine ld c d rfl ?_;refine Q7 e ?_;refine J0 ?_
  (try simp only[↓M1,M1,Mb,reduceIte])
  exact h)
theorem Ac (d:X7 w σ) (hh:O7 σ hp tv room cs) {r:Int} (h:K (S (L5 cs r)) w):Q0 P F.w [hp,I r] w K:=Q3m (by
 unfold Cp Y1;refine Q8K d hh ?_;unfold L5 at h;cases b:M5 cs r with
 | false=>rw[b] at h;(try simp only[↓M1,M1,Mb,reduceIte]);exact h
 | true=>
  rw[b] at h;obtain ⟨i,rfl,c⟩:=W9.1 b;rw[L4 c] at h;obtain ⟨a,j,rfl,f,e⟩:=hh;obtain ⟨k,g,_,_⟩:=Sl.elO e c
  (try simp only[↓M1,M1,Mb,reduceIte])
  refine ld d f rfl ?_;refine Z1 e c ?_
  (try simp only[↓M1,M1,Mb,reduceIte])
  exact ld d g rfl h)
theorem X6u (d:X7 w σ) (hh:O7 σ hp tv room cs) {r:Int} (h:K (I (Lx cs r)) w):Q0 P F.bS [hp,I r] w K:=Q3o (by
 unfold Cr Y1 Y0;refine Q8K d hh ?_;unfold Lx at h;cases b:M5 cs r with
 | false=>rw[b] at h;(try simp only[↓M1,M1,Mb,reduceIte]);exact h
 | true=>
  rw[b] at h;obtain ⟨i,rfl,c⟩:=W9.1 b;rw[L4 c] at h;obtain ⟨a,k,rfl,f,e⟩:=hh;obtain ⟨m,g,j,_⟩:=Sl.elO e c
  (try simp only[↓M1,M1,Mb,reduceIte])
  refine ld d f rfl ?_;refine Z1 e c ?_
  (try simp only[↓M1,M1,Mb,reduceIte])
  refine ld d g rfl ?_;exact Q7 j h)
theorem X1c (e:X7 w σ) (hh:O7 σ hp tv room cs) {r i:Int} (h:K (I (C7 cs r i)) w):Q0 P F.aR [hp,I r,I i] w K:=Q2a (by
 unfold Rl Z8 X6 Y0 X4 X5;refine Q8K e hh ?_;unfold C7 at h;cases c:M5 cs r with
 | false=>rw[c] at h;(try simp only[↓M1,M1,Mb,reduceIte]);exact h
 | true=>
  rw[c] at h;obtain ⟨j,rfl,d⟩:=W9.1 c;rw[L4 d] at h;obtain ⟨a,o,rfl,k,g⟩:=hh;obtain ⟨p,m,n,_⟩:=Sl.elO g d
  (try simp only[↓M1,M1,Mb,reduceIte])
  by_cases f:i<0
  .rw[decide_eq_true f]
   (try simp only[↓M1,M1,Mb,reduceIte])
   rw[if_pos rfl,if_neg Q5] at h;exact h
  .rw[decide_eq_false f]
   (try simp only[↓M1,M1,Mb,reduceIte])
   refine ld e k rfl ?_;refine Z1 g d ?_
   (try simp only[↓M1,M1,Mb,reduceIte])
   refine ld e m rfl ?_;refine Q7 n ?_;refine A0 ?_
   (try simp only[↓M1,M1,Mb,reduceIte])
   refine Q4 (fun b=>?_) (fun b=>?_)
   .have b:(cs[j].vals.length:Int)<=i:=by simpa using b
    rw[if_pos rfl,if_neg Q5] at h;exact h
   .have b: ¬(cs[j].vals.length:Int)<=i:=by simpa using b
    rw[if_pos rfl,if_pos Q5] at h;exact h)
theorem X3k (t:X7 w σ) (hh:O7 σ hp tv room cs) {r i:Int} (h: ∀w' σ',Stp w σ w' σ'->K (.tuple #[.agg [I (Na cs r i).sort,I (Na cs r i).n,S (Na cs r i).s,I (Na cs r i).ref].toArray,I (C7 cs r i)]) w'):Q0 P F.b7 [hp,I r,I i] w K:=Q4t (by
 unfold Bw Y1 V1 X4;refine D3 t fun b w1 σ1 u c o=>?_;have k:=hh.lift ⟨c.le⟩;refine X1c c.sat k ?_;refine P8 ?_;unfold Na at h
 by_cases g:C7 cs r i=0
 .have e:decide (C7 cs r i=0)=true:=decide_eq_true g
  rw[if_pos g,g] at h;obtain ⟨a,E,rfl,z,v⟩:=k;simp only[e,Bool.not_true,↓M1,M1,Mb,reduceIte];obtain ⟨j,m,rfl,rfl,p,q⟩:=Dr g;rw[L4 p,Int.toNat_natCast] at h;obtain ⟨H,A,y,_⟩:=Sl.elO v p;obtain ⟨B,C⟩:=Sl.elV y q;refine ld c.sat z rfl ?_;refine Z1 v p ?_
  (try simp only[↓M1,M1,Mb,reduceIte])
  refine ld c.sat A rfl ?_;refine Z1 y q ?_;refine Y7 c.sat B rfl ?_;refine Qs o c (C6 u (Stp.refl t)) rfl rfl (Rep.one C) fun D d f=>?_;refine M4 f rfl ?_;have e:cs[j].vals.getD m Val.zero=cs[j].vals[m]:=by rw[List.getD_eq_getElem?_getD,List.getElem?_eq_getElem q];rfl
  rw[e] at h;exact h _ _ d.stp
 .have e:decide (C7 cs r i=0)=false:=by simpa using g
  rw[if_neg g] at h;simp only[e,Bool.not_false,↓M1,M1,Mb,reduceIte];refine N3 (cells:= #[I 0,I 0,S [],I 0]) X8 ?_;refine Qs (ds:=[I 0,I 0,S [],I 0]) o c (C6 u (Stp.refl t)) rfl rfl Bm fun D d f=>?_;refine M4 f rfl ?_;exact h _ _ d.stp)
theorem X3i {k:X2} (o:X7 w σ) (h: ∀w' σ',Stp w σ w' σ'->K (.agg [I (H5 k).sort,I (H5 k).n,S (H5 k).s,I (H5 k).ref].toArray) w'):Q0 P F.cD [S k] w K:=X0Q (by
 unfold Q4O V5;refine D3 o fun b w1 σ1 q g i=>?_;have hB:=C6 q (Stp.refl o);unfold H5 at h
 have a: ∀(n:Int) (t:K (.agg [I n,I 0,S [],I 0].toArray)=K (.agg [I n,I 0,S [],I 0].toArray)),(∀w' σ',Stp w σ w' σ'->K (.agg [I n,I 0,S [],I 0].toArray) w')->J9 P T.d (.pointer (some ⟨b,0,none⟩)) (.agg #[I n,I 0,S [],I 0]) w1 fun _ m=>J5 P T.d (.pointer (some ⟨b,0,none⟩)) m fun r=>K r m:=fun n _ p=>
  Qs (ds:=[I n,I 0,S [],I 0]) i g hB rfl rfl Bm fun m f j=>M4 j rfl (p _ _ f.stp)
 refine Qu ?_
 by_cases c:k=Yz
 .simp only[if_pos c] at h
  rw[show decide (k=[105,110,116])=true from decide_eq_true c]
  refine Z3 ?_;refine N3 (cells:= #[I 1,I 0,S [],I 0]) X8 ?_;exact a 1 rfl h
 simp only[if_neg c] at h;rw[show decide (k=[105,110,116])=false from decide_eq_false c]
 refine Z7 ?_;refine Qu ?_
 by_cases d:k=Wi
 .simp only[if_pos d] at h
  rw[show decide (k=[98,111,111,108])=true from decide_eq_true d]
  refine Z3 ?_;refine N3 (cells:= #[I 2,I 0,S [],I 0]) X8 ?_;exact a 2 rfl h
 simp only[if_neg d] at h;rw[show decide (k=[98,111,111,108])=false from decide_eq_false d]
 refine Z7 ?_;refine Qu ?_
 by_cases e:k=B8
 .simp only[if_pos e] at h
  rw[show decide (k=[116,101,120,116])=true from decide_eq_true e]
  refine Z3 ?_;refine N3 (cells:= #[I 3,I 0,S [],I 0]) X8 ?_;exact a 3 rfl h
 .simp only[if_neg e] at h
  rw[show decide (k=[116,101,120,116])=false from decide_eq_false e]
  refine Z7 ?_;refine N3 (cells:= #[I 0,I 0,S [],I 0]) X8 ?_;exact a 0 rfl h)
def W4 (s:X2):Bool:=decide (s.length<=4096)&&Lib.validD s
theorem X2t (hh:O7 σ hp tv room cs) (r:Int):(L5 cs r).length<=W6:=by
 unfold L5
 split
 .rename_i c
  obtain ⟨i,rfl,b⟩:=W9.1 c;rw[L4 b];obtain ⟨a,f,rfl,e,d⟩:=hh;exact (Sl.elO d b).choose_spec.2.2
 .exact Nat.zero_le _
theorem X77 (hh:O7 σ hp tv room cs) (v:Val):(Qd W4 cs v).length<=W6:=by
 unfold Qd
 split
 .decide
 split
 .decide
 split
 .decide
 split
 .decide
 split
 .exact X2t hh _
 .exact Nat.zero_le _
theorem Q9n (n:Int):n=n % 2↔n=0\/n=1:=by omega
set_option maxHeartbeats 1000000 in
theorem X9q (Y:X7 w σ) (X:Glb σ) (hh:O7 σ hp tv room cs) {v:Val} (W:v.s.length<=W6) (h: ∀w' σ',Stp w σ w' σ'->K (S (Qd W4 cs v)) w'):Q0 P F.cj [hp, .agg [I v.sort,I v.n,S v.s,I v.ref].toArray] w K:=Q5k (by
 unfold Ic Z8 Y1 Y0 X4 X5;refine Z4 Y fun q w1 σ1 g k=>?_;have f:=g.sat;refine Y7 f k rfl ?_;refine N3 (cells:= #[I 0,I 0,S [],I 0]) X8 ?_;refine Mi ?_;unfold Qd at h
 by_cases t:v=Val.zero
 .rw[if_pos t] at h
  have:decide ((⟨v.sort,v.n,v.s,v.ref⟩:Val)=⟨0,0,[],0⟩)=true:=decide_eq_true t;rw[this];exact Z3 (h _ _ g)
 rw[if_neg t] at h;have:decide ((⟨v.sort,v.n,v.s,v.ref⟩:Val)=⟨0,0,[],0⟩)=false:=decide_eq_false t;rw[this];refine Z7 ?_;refine Y7 f k rfl ?_;refine J4 ?_;refine ld f k rfl ?_;refine N3 (cells:= #[I 1,I v.n,S [],I 0]) X8 ?_;refine Mi ?_
 by_cases u:v=⟨1,v.n,[],0⟩
 .rw[if_pos u] at h
  have:decide ((⟨v.sort,v.n,v.s,v.ref⟩:Val)=⟨1,v.n,[],0⟩)=true:=decide_eq_true u;rw[this];exact Z3 (h _ _ g)
 rw[if_neg u] at h;have:decide ((⟨v.sort,v.n,v.s,v.ref⟩:Val)=⟨1,v.n,[],0⟩)=false:=decide_eq_false u;rw[this];refine Z7 ?_;refine Y7 f k rfl ?_;refine J4 ?_;refine ld f k rfl ?_;refine X8s ?_;refine N3 (cells:= #[I 2,I (v.n % 2),S [],I 0]) X8 ?_;refine Mi ?_
 have p:(v=⟨2,v.n % 2,[],0⟩)↔(v=⟨2,v.n,[],0⟩/\(v.n=0\/v.n=1)):=by
  obtain ⟨a,b,c,d⟩:=v;simp only[Val.mk.injEq,true_and];constructor
  .rintro ⟨C,D,p⟩;exact ⟨⟨C,p⟩,(Q9n b).1 D⟩
  .rintro ⟨⟨C,p⟩,D⟩;exact ⟨C,(Q9n b).2 D,p⟩
 by_cases y:v=⟨2,v.n % 2,[],0⟩
 .rw[if_pos (p.1 y)] at h
  have:decide ((⟨v.sort,v.n,v.s,v.ref⟩:Val)=⟨2,v.n % 2,[],0⟩)=true:=decide_eq_true y;rw[this];exact Z3 (h _ _ g)
 rw[if_neg (fun e=>y (p.2 e))] at h;have:decide ((⟨v.sort,v.n,v.s,v.ref⟩:Val)=⟨2,v.n % 2,[],0⟩)=false:=decide_eq_false y;rw[this];refine Z7 ?_;refine Y7 f k rfl ?_;refine J4 ?_;refine ld f k rfl ?_;refine N3 (cells:= #[I 3,I 0,S v.s,I 0]) X8 ?_;refine Mi ?_
 have j: ∀{B R},Stp w σ B R->SLe σ1 R->(∀w' σ',Stp w σ w' σ'->K (S (if v=⟨4,0,[],v.ref⟩ then L5 cs v.ref else [])) w')->Q6 P T.d (.pointer (some q)) B fun J w=>
  Q6 P T.f (.pointer (some (q.add 3))) w fun L w=>
  B7 P T.d [(0,(.int .i64 4)),(3,L)] w fun M w=>
  Z9 P .eql T.d (.tmp 40) (.tmp 43) J M w fun N w=>
  X1 N (
   Q6 P T.f (.pointer (some (q.add 3))) w fun O w=>
   Q0 P F.w [hp,O] w fun Q w=>
   K Q w) (
   K (.string ⟨#[]⟩) w):=by
  intro B R i H h;have m:=k.lift H;refine Y7 i.sat m rfl ?_;refine ld i.sat m rfl ?_;refine N3 (cells:= #[I 4,I 0,S [],I v.ref]) X8 ?_;refine Mi ?_
  by_cases A:v=⟨4,0,[],v.ref⟩
  .rw[if_pos A] at h
   have:decide ((⟨v.sort,v.n,v.s,v.ref⟩:Val)=⟨4,0,[],v.ref⟩)=true:=decide_eq_true A;rw[this];refine Z3 ?_;refine ld i.sat m rfl ?_;exact Ac i.sat (hh.lift ⟨i.le⟩) (h _ _ i)
  .rw[if_neg A] at h
   have:decide ((⟨v.sort,v.n,v.s,v.ref⟩:Val)=⟨4,0,[],v.ref⟩)=false:=decide_eq_false A;rw[this];exact Z7 (h _ _ i)
 by_cases z:v=⟨3,0,v.s,0⟩
 .have:decide ((⟨v.sort,v.n,v.s,v.ref⟩:Val)=⟨3,0,v.s,0⟩)=true:=decide_eq_true z
  rw[this]
  (try simp only[↓M1,M1,Mb,reduceIte])
  refine ld f k rfl ?_;refine Q0c Z2 ?_;refine Q8u ?_
  by_cases U:v.s.length<=4096
  .rw[decide_eq_true (show (v.s.length:Int)<=4096 by omega)]
   (try simp only[↓M1,M1,Mb,reduceIte])
   refine ld f k rfl ?_;refine Q1D W (X.tabs _ (fun b o e=>f b o (g.le b o e))) fun B E=>?_;have r:=g.trans (Stp.of_below f E);cases V:Lib.validD v.s with
   | true=>
    (try simp only[↓M1,M1,Mb,reduceIte])
    rw[if_pos ⟨z,by simp[W4,V,U]⟩] at h
    exact h _ _ r
   | false=>
    (try simp only[↓M1,M1,Mb,reduceIte])
    rw[if_neg (by rintro ⟨_,e⟩;simp[W4,V] at e)] at h
    exact j r (SLe.refl _) h
  .rw[decide_eq_false (show¬(v.s.length:Int)<=4096 by omega)]
   (try simp only[↓M1,M1,Mb,reduceIte])
   rw[if_neg (by rintro ⟨_,e⟩;simp[W4,U] at e)] at h
   exact j g (SLe.refl _) h
 .have:decide ((⟨v.sort,v.n,v.s,v.ref⟩:Val)=⟨3,0,v.s,0⟩)=false:=decide_eq_false z
  rw[this]
  (try simp only[↓M1,M1,Mb,reduceIte])
  rw[if_neg (fun e=>z e.1)] at h;exact j g (SLe.refl _) h)
theorem Q0a {β:Type} {xs:List Val} {v f:Value} (b:β->Val->Bool×β) (m:β) (a:β->World->Prop) (D:Nat->Prop) (l: ∀s w,a s w->X7 w σ) (y:a m w) (u:Sl 4 E4 σ v xs)
 (z: ∀s x cs (w1:World) (K:Value->World->Prop),x∈xs->Kpt D w w1->a s w1->E4 σ x cs->cs.length=4->(∀w',Kpt D w w'->a (b s x).2 w'->K (.bool (b s x).1) w')->U7 P f [.agg cs.toArray] w1 K)
 (h: ∀w',Kpt D w w'->a (W5 b m xs 0).2 w'->K (I (H2 (W5 b m xs 0).1)) w'):Q0 P F.a8 [v,f] w K:=Vc (by
 unfold Qm V1 V3 Y0 X5
 ((try simp only[↓M1,M1,Mb,reduceIte]);repeat ((first | refine ld Q9 Q9 rfl ?_ | refine Y6 Q9 Q9 rfl ?_ | refine Q7 Q9 ?_);(try simp only[↓M1,M1,Mb,reduceIte])))
 refine V7 xs.length (fun n w'=>Kpt D w w'/\ ∃s,a s w'/\W5 b m xs 0=W5 b s (xs.drop n) n) ⟨Kpt.refl,m,y,rfl⟩ fun n w1 d E i=>?_;obtain ⟨t,s,i,e⟩:=i;have r:=l s w1 i
 ((try simp only[↓M1,M1,Mb,reduceIte]);repeat ((first | refine ld Q9 Q9 rfl ?_ | refine Y6 Q9 Q9 rfl ?_ | refine Q7 Q9 ?_);(try simp only[↓M1,M1,Mb,reduceIte])))
 refine Q4 (fun q=>?_) (fun q=>?_)
 .have c:n<xs.length:=by simpa using q
  refine E5 u c fun p cs A g B=>?_;refine Y7 r A g ?_;refine z s xs[n] cs w1 _ (List.getElem_mem c) t i B g fun C k j=>?_;rw[List.drop_eq_getElem_cons c] at e;simp only[W5] at e;refine Q4 (fun o=>?_) (fun o=>?_)
  .rw[o] at e
   have:=h C k;rw[e] at this;exact this j
  .rw[o] at e
   ((try simp only[↓M1,M1,Mb,reduceIte]);repeat ((first | refine ld Q9 Q9 rfl ?_ | refine Y6 Q9 Q9 rfl ?_ | refine Q7 Q9 ?_);(try simp only[↓M1,M1,Mb,reduceIte])))
   exact Z5 u.max c ⟨k,_,j,by simpa using e⟩
 .have c: ¬n<xs.length:=by simpa using q
  rw[List.drop_eq_nil_of_le Q5] at e;have:=h w1 t;rw[e] at this;exact this i)
theorem Kk {β:Type} {xs:List Val} {v f:Value} (b:β->Val->Bool×β) (d:β) (a:β->World->Prop) (D:Nat->Prop) (c: ∀s w,a s w->X7 w σ) (e:a d w) (k:Sl 4 E4 σ v xs)
 (g: ∀s x cs (w1:World) (K:Value->World->Prop),x∈xs->Kpt D w w1->a s w1->E4 σ x cs->cs.length=4->(∀w',Kpt D w w'->a (b s x).2 w'->K (.bool (b s x).1) w')->U7 P f [.agg cs.toArray] w1 K)
 (h: ∀w',Kpt D w w'->a (W5 b d xs 0).2 w'->K (.bool (W5 b d xs 0).1.isSome) w'):Q0 P F.o [v,f] w K:=Jh (by
 unfold T2 X4;refine Q0a b d a D c e k g fun w1 j i=>?_
 (try simp only[↓M1,M1,Mb,reduceIte])
 rw[Km];exact h w1 j i)
theorem Gs {xs:List Val} {v f:Value} (p:Val->Bool) (hs:X7 w σ) (hv:Sl 4 E4 σ v xs)
 (hf: ∀x cs (w1:World) (K:Value->World->Prop),x∈xs->X7 w1 σ->E4 σ x cs->cs.length=4->(∀w',Below w1.heap.size w1 w'->K (.bool (p x)) w')->U7 P f [.agg cs.toArray] w1 K)
 (h: ∀w',Below w.heap.size w w'->K (.bool (xs.any p)) w'):Q0 P F.o [v,f] w K:=by
 refine Kk (fun (_:Unit) x=>(p x,())) () (fun _ w'=>Below w.heap.size w w') (fun _=>False) (fun _ w' hb=>hs.below hb) (Below.refl _ _) hv (fun s x cs w1 K hx hk hi hr hl hK=>hf x cs w1 K hx (hs.below hi) hr hl fun w' hb=>hK w' (.of_below (bt hi hb)) (bt hi hb)) fun w' hk hi=>?_;rw[Yi]
 simpa using h w' hi
variable {l : List Cla}
theorem X7F (p:X7 w σ) (j:Glb σ) (hh:O7 σ hp tv room cs) (r:Tab σ tv l) (ok:Ok l) {v:Val} {k:X2} (i:v.s.length<=W6) (m:k.length<=W6) (h: ∀w' σ',Stp w σ w' σ'->K (.bool (K3 W4 l cs v k)) w'):Q0 P F.bR [hp, .agg [I v.sort,I v.n,S v.s,I v.ref].toArray,S k] w K:=Q3l (by
 unfold Co Z8 X6 V5;refine Z4 p fun q w1 σ1 c o=>?_;refine Y7 c.sat o rfl ?_;refine X9q c.sat (j.lift ⟨c.le⟩) (hh.lift ⟨c.le⟩) i fun A C f=>?_;have b:=c.trans f;refine Jn ?_;unfold K3 at h;have d:=X77 hh v;generalize Qd W4 cs v=t at*
 by_cases e:t=[]
 .rw[decide_eq_true e] at h⊢
  (try simp only[↓M1,M1,Mb,reduceIte])
  exact h _ _ b
 .rw[decide_eq_false e] at h⊢
  obtain ⟨a,z,rfl,u,y⟩:=hh
  (try simp only[↓M1,M1,Mb,reduceIte])
  refine ld b.sat (u.lift ⟨b.le⟩) rfl ?_;refine X8H b.sat (r.lift ⟨b.le⟩) ok d m fun B D g=>?_
  (try simp only[↓M1,M1,Mb,reduceIte])
  exact h _ _ (b.trans g))
theorem X7M (y:X7 w σ) (hh:O7 σ hp tv room cs) (z:Tab σ tv l) (ok:Ok l) {k:X2} {o:Value} {i:Nat} (u:k.length<=W6) (E:o.cells= #[o]/\o.oneCell'=true) (n:elem k=[]->i<(U6 l k).length)
 (h: ∀w' σ',Stp w σ w' σ'->K (S (Wl l k i)) w'):Q0 P F.bT [hp, .agg [S k,o].toArray,I i] w K:=Q3p (by
 unfold Cs;simp only[Y3,X3];unfold Y1 V5;refine Z4 y fun q w1 σ1 c s=>?_
 (try simp only[↓M1,M1,Mb,reduceIte])
 refine Y6 c.sat s rfl ?_;refine Q9h k (Nat.le_trans u W3) fun M p=>?_;have d:=Stp.of_below c.sat p;have b:=c.trans d;refine Jn ?_;unfold Wl at h
 by_cases e:elem k=[]
 .simp only[if_pos e] at h
  rw[decide_eq_true e]
  (try simp only[↓M1,M1,Mb,reduceIte])
  obtain ⟨a,J,rfl,B,H⟩:=hh;have r:=d.sat;have v:=s.up d;have C:=B.lift ⟨b.le⟩;refine U8 r ?_
  (repeat refine X0 Vf ?_)
  (intros;(repeat (rename_i A;subst A));(try simp only[↓M2,M2,Mb,reduceIte]))
  rename_i N g;have f:=b.trans g.stp;refine Q0j g.sat (z.lift ⟨f.le⟩) ok.acy ok.len ok.sm fun L O Q j m=>?_;refine Z1 m (n e) ?_;obtain ⟨D,_⟩:=m.elF (n e)
  (try simp only[↓M1,M1,Mb,reduceIte])
  refine ld j.sat D rfl ?_;have t:(U6 l k).getD i Fld.zero=(U6 l k)[i]'(n e):=by rw[List.getD_eq_getElem?_getD,List.getElem?_eq_getElem (n e)];rfl
  rw[t] at h;exact h _ _ (f.trans j)
 .simp only[if_neg e] at h
  rw[decide_eq_false e]
  (try simp only[↓M1,M1,Mb,reduceIte])
  exact h _ _ b)
theorem X08 (ok:Ok l) {k:X2} (d:k.length<=W6) (i:Nat):(Wl l k i).length<=W6:=by
 unfold Wl
 split
 .cases h:(U6 l k)[i]? with
  | none=>rw[List.getD_eq_getElem?_getD,h];exact Nat.zero_le _
  | some f=>
   rw[List.getD_eq_getElem?_getD,h];have a:=List.mem_of_getElem? h;unfold U6 at a;obtain ⟨c,b,a⟩:=List.mem_flatMap.1 a;have:=((ok.nm c (Pc (by simpa using b))).2.1 f a).2
   exact Nat.le_trans this W3
 .unfold elem
  split
  .unfold Kd.cutA;rw[List.length_take];omega
  .exact Nat.zero_le _
theorem X8C {B:Nat} {D:Nat->Prop} {m v:Value} {vals:List Val} {k:X2} {ty:TypeId} {cb:List Bool} {A:Value->Value->World->Prop} (hs:X7 w σ) (hB:B<=w.heap.size) (h:RowsIs B D σ w m cs) (Z:V6 B T.d 4 E4 σ w v vals) (hd: ∀j,v.ownBlock=some j-> ¬D j) (hk:k.length<=W6) (hl:cs.length<=10000000)
 (hh: ∀s d w' σ' J,Nxt (fun j=>m.ownBlock=some j) w σ w' σ'->(∀j,m.ownBlock=some j->D j)->RowsIs B J σ' w' d (cs++[⟨k,vals⟩])->(∀j,J j->D j\/v.ownBlock=some j\/w.heap.size<=j)->(∀j,D j->m.ownBlock≠some j->J j)->A s d w'):
 buildSlice P T.g 1 [(0, .agg #[S k,v])] w (fun s w=>V0 P .append [T.g,T.g] ty cb [m,s] w (fun v' w=>A s v' w)):=by
 obtain ⟨vs,hq,o,ha,hD⟩:=h.ex;obtain ⟨a,L,E,_⟩:=(id Z:V6 B T.d 4 E4 σ w v vals);have al:v.cells= #[v]:=by rw[E];rfl
 refine P4 (R:=Q6y) (sz:=2) hs [.agg #[S k,v]] [(k,v)] rfl rfl (by simp[Value.cells]) rfl ⟨(⟨rfl,hk,a,_,L,E⟩:Q6y σ (k,v) [S k,v]),trivial⟩ fun s w1 σ1 c Y=>?_
 refine Q66 c.sat (Nat.le_trans hB c.bel.size) (hq.up c) Y rfl (by rw[Su o.1];simp;omega) (by rw[Su o.1];simp;omega) fun d H Q X W O=>?_
 have g: ∀j,m.ownBlock=some j->D j:=fun j b=>(hD j).2 ⟨m,by simp,b⟩
 have M:Nxt (fun j=>m.ownBlock=some j) w σ H σ1:=
  ⟨(Kpt.of_below c.bel).trans (Q.mono fun j _ b=>b.1),⟨c.le⟩,c.old,X⟩
 have C: ∀j,v.ownBlock=some j->m.ownBlock≠some j:=fun j b e=>hd j b (g j e)
 have f: ∀j,d.ownBlock=some j->m.ownBlock=some j\/w1.heap.size<=j:=fun j b=>by
  rcases O with ⟨a',ab,e1,e2⟩ | ⟨_,hn⟩
  .left;rw[e1];rw[e2] at b;cases a'<;>exact b
  .exact .inr (hn j b)
 obtain ⟨t,N⟩:=List.pairwise_cons.1 ha;have y: ∀i (p:i<vs.length) (q:i<cs.length),V6 B T.d 4 E4 σ1 H vs[i] cs[i].vals:=fun i p q=>(o.2 i p q).nx M fun j b e=>t _ (List.getElem_mem p) j e b;have aa:V6 B T.d 4 E4 σ1 H v vals:=Z.nx M fun j b e=>C j b e
 have U: ∀u∈vs,∀j,u.ownBlock=some j->j<w.heap.size:=fun u hu j b=>by
  obtain ⟨i,p,rfl⟩:=List.getElem_of_mem hu;exact ((o.2 i p (by rw[<-o.1];exact p)).mem b).2.1
 refine hh s d H σ1 (fun j=> ∃u∈d::(vs++[v]),u.ownBlock=some j) M g ⟨vs++[v],?_,⟨by simp[o.1],fun i p q=>?_⟩,?_,fun j=>Iff.rfl⟩ ?_ ?_
 .have e:Zx (vs++[v]) (cs++[⟨k,vals⟩])=Zx vs cs++[(k,v)]:=by
   unfold Zx;rw[List.zipWith_append o.1];rfl
  rw[e];exact W
 .by_cases n:i<vs.length
  .have r:i<cs.length:=by rw[<-o.1];exact n
   rw[List.getElem_append_left n,List.getElem_append_left r];exact y i n r
  .have r: ¬i<cs.length:=by rw[<-o.1];exact n
   have e1:i=vs.length:=by simp at p;omega
   rw[List.getElem_append_right Q5,List.getElem_append_right Q5];simp only[List.getElem_singleton];exact aa
 .refine List.pairwise_cons.2 ⟨fun u hu j b e=>?_,List.pairwise_append.2 ⟨N,List.pairwise_singleton _ _,fun u hu u2 z j b e=>?_⟩⟩
  .rcases List.mem_append.1 hu with hu | hu
   .rcases f j b with h1 | h1
    .exact t u hu j h1 e
    .have:=U u hu j e;have:=c.bel.size;omega
   .simp at hu;subst hu
    rcases f j b with h1 | h1
    .exact C j e h1
    .have:=(Z.mem e).2.1;have:=c.bel.size;omega
  .simp at z;subst z
   exact hd j e ((hD j).2 ⟨u,by simp[hu],b⟩)
 .rintro j ⟨u,hu,b⟩
  rcases List.mem_cons.1 hu with rfl | hu
  .rcases f j b with h1 | h1
   .exact .inl (g j h1)
   .right;right;have:=c.bel.size;omega
  .rcases List.mem_append.1 hu with hu | hu
   .exact .inl ((hD j).2 ⟨u,by simp[hu],b⟩)
   .simp at hu;subst hu;exact .inr (.inl b)
 .intro j b V
  obtain ⟨u,hu,b⟩:=(hD j).1 b
  rcases List.mem_cons.1 hu with rfl | hu
  .exact absurd b V
  .exact ⟨u,by simp[hu],b⟩
variable {v : Value}
theorem Xa {n:X2} (u:X7 w σ) (m:Sl 8 M8 σ v l) (h:K (I (H2 (U1 l n))) w):Q0 P F.b [v,S n] w K:=Q2l (by
 unfold Rw Y1 V3 Y0 X5;refine V7 l.length (fun k w'=>w'=w/\ ∀j (g:j<l.length),j<k-> ¬l[j].name=n) ⟨rfl,fun j _ h=>by omega⟩ fun k w1 d E q=>?_
 obtain ⟨rfl,f⟩:=q;refine Q7 m ?_;refine J0 ?_;refine Q4 (fun i=>?_) (fun i=>?_)
 .have a:k<l.length:=by simpa using i
  refine E5 m a fun p cells o s t=>?_;obtain ⟨H,D,mv,rfl,y,z,A,B,C⟩:=t;rw[fa];refine ld u o rfl ?_;refine Qu ?_;refine Q4 (fun b=>?_) (fun b=>?_)
  .have b:l[k].name=n:=by simpa using b
   have:U1 l n=some k:=by
    unfold U1;rw[List.findIdx?_eq_some_iff_getElem];exact ⟨a,by simpa using b,fun j g=>by simpa using f j Q5 g⟩
   rw[this] at h;exact h
  .have b: ¬l[k].name=n:=by simpa using b
   refine R5 ?_;refine Z5 m.max a ⟨rfl,fun j g r=>?_⟩
   by_cases e:j=k
   .subst e;exact b
   .exact f j g Q5
 .have a: ¬k<l.length:=by simpa using i
  have:U1 l n=none:=by
   unfold U1;rw[List.findIdx?_eq_none_iff];intro c i;obtain ⟨j,g,rfl⟩:=List.getElem_of_mem i
   simpa using f j g Q5
  rw[this] at h;exact h)
theorem Q9U {a:X2} (c:a.length<=W6) (h:K (S (base a).1) w):Q0 P F.aY [S a] w K:=Q2n (by
 unfold Ry Y0 X5;have d:=Q3Q a;have b:a.length<=140737488355328:=by simp only[W6] at c;omega
 rw[G8 Z2];refine Kf a b ?_
 (try simp only[↓Mr,Mr,Mb,reduceIte])
 rw[Qr (n:=2*((base a).2:Int)) Q5 Q5,Qr Q5 Q5,Ye Z2 Q5 Q5];rw[show ((a.length:Int)-2*((base a).2:Int)).toNat=a.length-2*(base a).2 from by omega,Q7i]
 exact h)
theorem Sz {s:X2} (g:X7 w σ) (f:Sl 8 M8 σ v l) (c:s.length<=W6) (h:K (.bool (H8 l s)) w):Q0 P F.a4 [v,S s] w K:=Q2m (by
 unfold Rx X6 X4 V5;have b:s.length<=140737488355328:=by simp only[W6] at c;omega
 unfold H8 at h;refine Qu ?_
 by_cases a:s=G4
 .have:decide (s=[110,117,108,108])=true:=by rw[decide_eq_true_eq];exact a
  simp only[this,↓M1,M1,Mb,reduceIte];simp only[a,decide_true,Bool.true_or] at h;exact h
 .have:decide (s=[110,117,108,108])=false:=by rw[decide_eq_false_iff_not];exact a
  simp only[this,↓M1,M1,Mb,reduceIte];simp only[a,decide_false,Bool.false_or] at h;refine Lw s b ?_;cases e:right s with
  | false=>(try simp only[↓M1,M1,Mb,reduceIte]);simpa [e] using h
  | true=>
   (try simp only[↓M1,M1,Mb,reduceIte])
   refine Q9U c ?_
   (try simp only[↓M1,M1,Mb,reduceIte])
   refine Bk _ ?_;simp only[e,Bool.true_and] at h;cases d:plain (base s).1 with
   | true=>(try simp only[↓M1,M1,Mb,reduceIte]);simpa [d] using h
   | false=>
    (try simp only[↓M1,M1,Mb,reduceIte])
    refine Q9U c ?_
    (try simp only[↓M1,M1,Mb,reduceIte])
    refine Xa g f ?_;refine A0 ?_;rw[Yl]
    (try simp only[↓M1,M1,Mb,reduceIte])
    simpa [d,Q35] using h)
theorem X4o {s:X2} (d:X7 w σ) (c:Sl 8 M8 σ v l) (b:s.length<=W6) (h:K (.bool (B0 l s)) w):Q0 P F.bC [v,S s] w K:=Q1p (by
 unfold Hg X6 V5;unfold B0 at h;refine Jn ?_;have e:decide (s=[110,117,108,108])=decide (s=G4):=rfl;rw[e];cases a:decide (s=G4) with
 | true=>
  rw[a] at h
  (try simp only[↓M1,M1,Mb,reduceIte])
  exact h
 | false=>
  rw[a] at h
  (try simp only[↓M1,M1,Mb,reduceIte])
  refine Sz d c b ?_
  (try simp only[↓M1,M1,Mb,reduceIte])
  simpa using h)
def Ir (c:Cla) (n:X2):Option Nat:=c.methods.findIdx? fun m=>decide (m.name=n)
theorem X1E {c:Cla} {cs:List Value} {n:X2} (C:X7 w σ) (r:M8 σ c cs) (h: ∀w' D,Stp w σ w' D->K (I (H2 (Ir c n))) w'):Q0 P F.b3 [.agg cs.toArray,S n] w K:=Q3w (by
 unfold Cz Y1 V3 Y0 X5;obtain ⟨Y,N,mv,rfl,H,J,o,L,M⟩:=r;refine Z4 C fun q w0 σ0 a t=>?_;have o:=o.up a;refine V7 c.methods.length (fun k w'=>w'=w0/\ ∀j (i:j<c.methods.length),j<k-> ¬c.methods[j].name=n) ⟨rfl,fun j _ h=>by omega⟩ fun k w1 d W u=>?_
 obtain ⟨rfl,g⟩:=u;rw[fa];refine ld a.sat t rfl ?_;refine Q7 o ?_;refine J0 ?_;refine Q4 (fun r=>?_) (fun r=>?_)
 .have b:k<c.methods.length:=by simpa using r
  rw[fa];refine ld a.sat t rfl ?_;refine E5 o b fun p cells s z B=>?_;obtain ⟨pv,E,X,rfl,O,Q,R,U,V⟩:=B;rw[fa];refine ld a.sat s rfl ?_;refine Qu ?_;refine Q4 (fun f=>?_) (fun f=>?_)
  .have f:c.methods[k].name=n:=by simpa using f
   have:Ir c n=some k:=by
    unfold Ir;rw[List.findIdx?_eq_some_iff_getElem];exact ⟨b,by simpa using f,fun j i=>by simpa using g j Q5 i⟩
   rw[this] at h;exact h _ _ a
  .have f: ¬c.methods[k].name=n:=by simpa using f
   refine R5 ?_;refine Z5 o.max b ⟨rfl,fun j i y=>?_⟩
   by_cases e:j=k
   .subst e;exact f
   .exact g j i Q5
 .have b: ¬k<c.methods.length:=by simpa using r
  have:Ir c n=none:=by
   unfold Ir;rw[List.findIdx?_eq_none_iff];intro m A;obtain ⟨j,i,rfl⟩:=List.getElem_of_mem A
   simpa using g j i Q5
  rw[this] at h;exact h _ _ a)
theorem Pt {n:X2} {d:Cla} (f:X7 w σ) (e:Sl 8 M8 σ v l) (c:lk l n=some d) (h: ∀i:Nat,l[i]? =some d->U1 l n=some i->K (I i) w):Q0 P F.b [v,S n] w K:=by
 obtain ⟨_,_,i,a,b⟩:=O9 c;refine Xa f e ?_;rw[a];exact h i b a
theorem Q3H {n:X2} (f:X7 w σ) (e:Sl 8 M8 σ v l) (b:lk l n=none) (h:K (I (-1)) w):Q0 P F.b [v,S n] w K:=by
 refine Xa f e ?_;cases d:U1 l n with
 | none=>exact h
 | some i=>obtain ⟨c,a,_⟩:=Vp d;rw[b] at a;cases a
theorem X5h:decide ((-1:Int)<0)=true:=by decide
theorem Q9u (i:Nat):decide ((i:Int)<0)=false:=by rw[decide_eq_false_iff_not];omega
theorem X2R {c:Cla} {cs:List Value} (hs:X7 w σ) (hl:Sl 8 M8 σ v l) (A:M8 σ c cs) (h: ∀w' σ',Stp w σ w' σ'->K (I (B6 l c)) w'):Q0 P F.bl [v, .agg cs.toArray] w K:=Q03 (by
 unfold Dl Z8 Y1 V1 V3 X6 Y0 X4 X5;obtain ⟨lv,fv,mv,rfl,z,f2,f3,f4,f5⟩:=A;refine Z4 hs fun q w0 σ0 o Q=>?_;have z:=z.up o;have b:=hl.up o;have a:=o.sat;have y: ∀n:Nat,B6 l c=n->K (I n) w0:=fun n e=>by rw[<-e];exact h _ _ o
 clear h
 (try simp only[↓M1,M1,Mb,reduceIte])
 refine ld a Q rfl ?_;have m:Ja l c.super=true->K (I (61:Nat)) w0:=fun e=>y 61 (by unfold B6;rw[if_pos e])
 cases J:lk l c.super with
 | none=>
  refine Q3H a b J ?_;simp only[X5h,↓M1,M1,Mb,reduceIte];exact m (by unfold Ja;rw[J])
 | some d=>
  refine Pt a b J fun i Y hf=>?_;obtain ⟨s,N⟩:=List.getElem?_eq_some_iff.1 Y;simp only[Q9u,↓M1,M1,Mb,reduceIte];refine Z1 b s ?_;obtain ⟨ad,V,af,R,r1⟩:=b.elC s;rw[N] at R
  (try simp only[↓M1,M1,Mb,reduceIte])
  refine ld a R rfl ?_;have g:Ja l c.super=(d.iface||d.fin):=by unfold Ja;rw[J]
  cases D:d.iface with
  | true=>
   rw[D] at g
   (try simp only[↓M1,M1,Mb,reduceIte])
   exact m (by rw[g];rfl)
  | false=>
   rw[D] at g
   (try simp only[↓M1,M1,Mb,reduceIte])
   refine Z1 b s ?_
   (try simp only[↓M1,M1,Mb,reduceIte])
   refine ld a R rfl ?_;cases B:d.fin with
   | true=>
    rw[B] at g
    (try simp only[↓M1,M1,Mb,reduceIte])
    exact m (by rw[g];rfl)
   | false=>
    rw[B] at g;have H:Ja l c.super=false:=g
    (try simp only[↓M1,M1,Mb,reduceIte])
    refine V7 c.like.length (fun k w'=>w'=w0/\(c.like.take k).any (I4 l)=false) ⟨rfl,rfl⟩ fun k w1 d1 hk M=>?_;obtain ⟨hw,u⟩:=M;subst hw
    (try simp only[↓M1,M1,Mb,reduceIte])
    refine ld a Q rfl ?_;refine Q7 z ?_;refine J0 ?_;refine Q4 (fun A=>?_) (fun A=>?_)
    .have f:k<c.like.length:=by simpa using A
     have r:I4 l c.like[k]=true->K (I (62:Nat)) w1:=fun e=>y 62 (by
      unfold B6;rw[H,K2 f e];rfl)
     have t:I4 l c.like[k]=false->(c.like.take (k+1)).any (I4 l)=false:=fun e=>by rw[E7 f,u,e];rfl
     (try simp only[↓M1,M1,Mb,reduceIte])
     refine ld a Q rfl ?_;refine Z1 z f ?_;obtain ⟨p2,_⟩:=z.elS f;refine Y6 a p2 rfl ?_;cases L:lk l c.like[k] with
     | none=>
      refine Q3H a b L ?_;simp only[X5h,↓M1,M1,Mb,reduceIte];exact r (by unfold I4;rw[L])
     | some e=>
      refine Pt a b L fun j Z X=>?_;obtain ⟨E,O⟩:=List.getElem?_eq_some_iff.1 Z;simp only[Q9u,↓M1,M1,Mb,reduceIte];refine Z1 b E ?_;obtain ⟨ae,W,ag,U,r3⟩:=b.elC E;rw[O] at U
      (try simp only[↓M1,M1,Mb,reduceIte])
      refine ld a U rfl ?_;have p:I4 l c.like[k]= !e.iface:=by unfold I4;rw[L]
      cases C:e.iface with
      | true=>
       rw[C] at p
       (try simp only[↓M1,M1,Mb,reduceIte])
       exact Z5 z.max f ⟨rfl,t p⟩
      | false=>
       rw[C] at p
       (try simp only[↓M1,M1,Mb,reduceIte])
       exact r p
    .have f: ¬k<c.like.length:=by simpa using A
     rw[B4 f] at u;exact y 0 (by unfold B6;rw[H,u];rfl))
theorem X0y {n:X2} (h:lk l n=none):U6 l n=[]:=by unfold U6;rw[Dx h];rfl
theorem X0z (a:Vw l) {n:X2} {c:Cla} (h:lk l n=some c):U6 l n=U6 l c.super++c.fields:=by
 unfold U6;rw[Gu a,h]
 simp
theorem Q5H (a: ∀c∈l,Zf c) (n:X2):(U6 l n).length<=(l.length+1)*1000000:=by
 unfold U6;have b:=Nk (fun c:Cla=>c.fields) 1000000 (chain l n).reverse fun c e=>(a c (Pc (by simpa using e))).2.1
 have d:=Pb l n;rw[List.length_reverse] at b;exact Nat.le_trans b (Nat.mul_le_mul_right _ d)
theorem Q4V {n:X2} (a:lk l n=none) (b:X7 w σ) (e:Sl 8 M8 σ v l) (h: ∀c w' d,Stp w σ w' d->Sl 3 I7 d c (U6 l n)->K c w'):Q0 P F.l [v,S n] w K:=Ds (by
 unfold Jt;simp only[Y3,X3,L9];unfold X4;refine Q3H b e a ?_;simp only[X5h,↓M1,M1,Mb,reduceIte];exact h _ _ _ (Stp.refl b) (by rw[X0y a];exact Sl.nil))
theorem X0W (o:Vw l) (hl:l.length<=1000) (g: ∀c∈l,Zf c): ∀(k:Nat) {n:X2} {w:World} {σ:Q2} {K:Value->World->Prop},(lk l n=none\/Xx l n<k)->X7 w σ->Sl 8 M8 σ v l->
 (∀j w' m,Stp w σ w' m->Sl 3 I7 m j (U6 l n)->K j w')->Q0 P F.l [v,S n] w K:=by
 intro k
 induction k with
 | zero=>
  intro n w σ K hk f b h
  rcases hk with hk | hk
  .exact Q4V hk f b h
  .omega
 | succ k ih=>
  intro n w σ K hk f b h;cases a:lk l n with
  | none=>exact Q4V a f b h
  | some c=>
   have hk:Xx l n<k+1:=by
    rcases hk with hk | hk
    .rw[a] at hk;cases hk
    .exact hk
   refine Ds ?_;unfold Jt;simp only[Y3,X3,L9];unfold X4;refine Pt f b a fun i Z hf=>?_;obtain ⟨D,C⟩:=List.getElem?_eq_some_iff.1 Z;simp only[Q9u,↓M1,M1,Mb,reduceIte];obtain ⟨lv,fv,mv,p1,O⟩:=b.elC D;rw[C] at p1 O;obtain ⟨_,V,_,_,_⟩:=O.parts
   have E:lk l c.super=none\/Xx l c.super<k:=by
    cases hu:lk l c.super with
    | none=>exact .inl rfl
    | some d=>
     have:=Vr o a (u:=c.super) (by simp[M6]) hu
     right;omega
   have Y:=Q5H g c.super;have X:=(g c (O9 a).2.1).2.1;have N:(l.length+1)*1000000<=1001*1000000:=Nat.mul_le_mul_right _ Q5;refine U8 f ?_
   (repeat refine X0 Vf ?_)
   refine Q5F (R:=I7) W3 ?_
   (repeat refine X0 Vf ?_)
   refine Um (w:=w) (σ:=σ) (Φ:=fun m v=>Sl 3 I7 m v (U6 l c.super)) (fun t w p e=>?_) ?_
   .subst e;exact ih E p.sat b fun j w' m hk H=>Eb p hk H
   refine Q3Z (w:=w) (σ:=σ) (R:=I7) (sz:=3) (e:=T.o) (U6 l c.super) (fun L M w p r s=>?_) ?_
   .obtain ⟨k1,Q,U⟩:=r
    obtain ⟨σ2,k2,s2⟩:=s;exact X1S k1 Q U k2.sat s2 (fun _ _ h=>h) rfl Q5 Q5 fun j w' hk o=>Q5D p hk o
   (repeat refine X0 Vf ?_)
   rintro ah ai al am L aj M ak an w2 W rfl rfl rfl rfl _ rfl _ ⟨y,q⟩ rfl;refine Jm y q V rfl Q5 Q5 fun j w3 aa z B _=>?_;obtain ⟨σ4,A,J,_⟩:=B.keep z;exact h _ _ _ A (by rw[X0z o a];exact J)
theorem Gf {n:X2} (g:X7 w σ) (i:Sl 8 M8 σ v l) (e:Vw l) (f:l.length<=1000) (a: ∀c∈l,Zf c) (h: ∀b w' d,Stp w σ w' d->Sl 3 I7 d b (U6 l n)->K b w'):Q0 P F.l [v,S n] w K:=
 X0W e f a _ (.inr (Nat.lt_succ_self _)) g i h
theorem X4j {n f:X2} (D:X7 w σ) (E:Sl 8 M8 σ v l) (y:Vw l) (B:l.length<=1000) (u: ∀c∈l,Zf c) (h: ∀w' L,Stp w σ w' L->K (I (H2 (Hw l n f))) w'):Q0 P F.bB [v,S n,S f] w K:=Q1n (by
 unfold He Y1 V3 Y0 X5;refine Gf D E y B u fun N w1 σ1 r b=>?_;have s: ∀o,Hw l n f=o->K (I (H2 o)) w1:=fun o e=>by rw[<-e];exact h _ _ r
 unfold Hw at s;generalize U6 l n=g at b s;refine V7 g.length (fun k w'=>w'=w1/\ ∀j (q:j<g.length),j<k-> ¬g[j].name=f) ⟨rfl,fun j _ h=>by omega⟩ fun k O d M z=>?_
 obtain ⟨H,p⟩:=z;subst H;refine Q7 b ?_;refine J0 ?_;refine Q4 (fun t=>?_) (fun t=>?_)
 .have a:k<g.length:=by simpa using t
  refine Z1 b a ?_;obtain ⟨J,_⟩:=b.elF a
  (try simp only[↓M1,M1,Mb,reduceIte])
  refine ld r.sat J rfl ?_;refine Qu ?_;refine Q4 (fun i=>?_) (fun i=>?_)
  .have i:g[k].name=f:=by simpa using i
   exact s (some k) (by
    rw[List.findIdx?_eq_some_iff_getElem];exact ⟨a,by simpa using i,fun j q=>by simpa using p j Q5 q⟩)
  .have i: ¬g[k].name=f:=by simpa using i
   (try simp only[↓M1,M1,Mb,reduceIte])
   refine Z5 b.max a ⟨rfl,fun j q A=>?_⟩
   by_cases e:j=k
   .subst e;exact i
   .exact p j q Q5
 .have a: ¬k<g.length:=by simpa using t
  exact s none (by
   rw[List.findIdx?_eq_none_iff];intro m C;obtain ⟨j,q,rfl⟩:=List.getElem_of_mem C
   simpa using p j q Q5))
end Go.Proofs.Y
namespace Go.Emb
open Go.RowKit Go.Hm
variable {w w' : World} {σ : Q2}
theorem Nxt.of_upd {b:Nat} (c:X7 w σ) (a:Upd w b w') (d:σ b=none):Nxt (fun j=>j=b) w σ w' σ:=
 ⟨Kpt.of_upd a rfl,SLe.refl _,fun _ _=>rfl,(Kpt.of_upd (D:=fun j=>j=b) a rfl).sat c fun k e=>e▸d⟩
theorem Nxt.chain {D E:Nat->Prop} {w1 c:World} {σ1 d:Q2} (h:Nxt D w σ w1 σ1) (k:Nxt E w1 σ1 c d) (f: ∀j,j<w.heap.size->E j->D j):Nxt D w σ c d:=
 ⟨⟨k.kp.os.trans h.kp.os,k.kp.tape.trans h.kp.tape,k.kp.output.trans h.kp.output,Nat.le_trans h.kp.size k.kp.size,fun j a b=>(k.kp.block j (Nat.lt_of_lt_of_le a h.kp.size) fun e=>b (f j a e)).trans (h.kp.block j a b)⟩,h.le.more k.le,fun j a=>(k.old j (Nat.lt_of_lt_of_le a h.kp.size)).trans (h.old j a),k.sat⟩
end Go.Emb
namespace Go.Proofs.Y
open Go.Emb Go.RowKit Go.Kd Go.Hm
variable {w w' : World} {K : Value -> World -> Prop} {σ σ' : Q2} {hp tv : Value} {room : Int} {cs : List Cel} {l : List Cla}
theorem RowsIs.shape {B:Nat} {D:Nat->Prop} {b:Value} (h:RowsIs B D σ w b cs):b.cells= #[b]/\b.oneCell'=true:=by
 obtain ⟨vs,d,_⟩:=h.ex;obtain ⟨a,c,rfl,_⟩:=d;exact ⟨rfl,rfl⟩
theorem RowsIs.len {B:Nat} {D:Nat->Prop} {c:Value} (h:RowsIs B D σ w c cs): ∃a b,c= .slice a cs.length b:=by
 obtain ⟨vs,d,e,_⟩:=h.ex;obtain ⟨a,b,rfl,_⟩:=d;exact ⟨a,b,by rw[Su e.1]⟩
theorem X5V {B:Nat} {D:Nat->Prop} {v:Value} {vals:List Val} {k:X2} (hs:X7 w σ) (hB:B<=w.heap.size) (h:HeapIs B D σ w hp tv room cs) (M:V6 B T.d 4 E4 σ w v vals) (C: ∀j,v.ownBlock=some j-> ¬D j) (hk:k.length<=W6) (hl:U4 cs+(1+(vals.length:Int))<=1048576)
 (hh: ∀w' σ' Q,Nxt D w σ w' σ'->HeapIs B Q σ' w' hp tv room (cs++[⟨k,vals⟩])->(∀j,Q j->D j\/v.ownBlock=some j\/w.heap.size<=j)->K (.tuple #[I cs.length,I 0]) w'):Q0 P F.b8 [hp,S k,v] w K:=Q4w (by
 obtain ⟨b,lv,E,rfl,A,t,hr,hE,hD⟩:=h.ex;have ac:=Yf cs;have ag:=C0 cs;have c:D b:=(hD b).2 (.inl rfl);have O: ∃a d,v= .slice a vals.length d:=by obtain ⟨a,d,e,_⟩:=M;exact ⟨a,d,e⟩
 have V:=t.lt;unfold Bz Y1 Y0 X4 X5;rw[H7,fa];refine I1 t rfl ?_;refine Fx M ?_;refine Zd ⟨by omega,by omega⟩ ?_
 refine Zd ⟨by omega,by omega⟩ ?_
 rw[H7,fa];refine Yj t U5 rfl rfl fun w1 u o=>?_;have r:=Nxt.of_upd hs u t.1;have H:=hr.nx r fun j hj e=>hE (e▸hj);have N:=M.nx r fun j hj e=>C j hj (e▸c);have L:=r.sat;rw[H7,fa];refine I1 o rfl ?_;refine N3 (cells:= #[S k,v]) (by obtain ⟨a,d,rfl⟩:=O;kernel_rfl) ?_
 refine X8C L (by rw[u.size];exact hB) H N (fun j hj e=>C j hj ((hD j).2 (.inr e))) hk Q5 fun s ai w2 X y z i f m ab=>?_
 have n: ∀j,lv.ownBlock=some j->j≠b:=fun j hj e=>hE (e▸i j hj);have p:=o.nx z fun e=>n b e rfl
 have g: ¬y b:=fun e=>by
  rcases m b e with e | e | e
  .exact hE e
  .exact C b e c
  .rw[u.size] at e;omega
 rw[H7,fa];refine Yj p U5 f.shape.1 f.shape.2 fun W u3 q=>?_;have R:=Nxt.of_upd z.sat u3 p.1;have J:=f.nx R fun j hj e=>g (e▸hj);rw[H7,fa];refine I1 q rfl ?_;obtain ⟨a2,U,rfl⟩:=f.len;rw[Q47];refine Vs ⟨by simp only[List.length_append,List.length_cons,List.length_nil];omega,by simp only[List.length_append,List.length_cons,List.length_nil];omega⟩ ?_
 have Z:(((cs++[(⟨k,vals⟩:Cel)]).length:Nat):Int)-1=cs.length:=by simp
 rw[Z];have e2:U4 (cs++[(⟨k,vals⟩:Cel)])=U4 cs+(1+(vals.length:Int)):=by rw[Zu];simp[U4]
 have Y:Nxt D w σ W X:=((r.mono fun j _ e=>e▸c).chain z fun j _ e=>(hD j).2 (.inr (i j e))).chain R fun j _ e=>e▸c;refine hh W X (fun j=>j=b\/y j) Y ⟨b,_,y,rfl,A,?_,J,g,fun j=>Iff.rfl⟩ fun j hj=>?_
 .rw[e2];exact q
 .rcases hj with rfl | hj
  .exact .inl c
  .rcases m j hj with e | e | e
   .exact .inl ((hD j).2 (.inr e))
   .exact .inr (.inl e)
   .rw[u.size] at e;exact .inr (.inr e))
theorem HeapIs.tab {B:Nat} {D:Nat->Prop} (h:HeapIs B D σ w hp tv room cs): ∃b a E,hp= .pointer (some ⟨b,0,none⟩)/\Y8 σ w b [tv,I room,I (U4 cs),a]/\RowsIs B E σ w a cs:=by
 obtain ⟨b,a,E,e,c,d,f,hE,hD⟩:=h.ex;exact ⟨b,a,E,e,d,f⟩
theorem Q8L {B:Nat} {D:Nat->Prop} (b:X7 w σ) (h:HeapIs B D σ w hp tv room cs) (c:0<=D0 room cs) (d:room<=1048576) (e: ∀w',Stp w σ w' σ->K (I (D0 room cs)) w'):Q0 P F.aD [hp] w K:=by
 obtain ⟨j,i,g,a,_⟩:=h.freeze b;exact X6t i a c d fun w' f=>e w' (Stp.of_below b f)
theorem Q0d (k:X2) {σ:Q2}:E4 σ (H5 k) (Value.agg [I (H5 k).sort,I (H5 k).n,S (H5 k).s,I (H5 k).ref].toArray).cells.toList:=by
 refine ⟨rfl,?_⟩;unfold H5
 split
 .decide
 split
 .decide
 split
 .decide
 .decide
theorem Q2P (a: ∀c∈l,Zf c) (b:l.length<=100000) (n:X2):(U6 l n).length<=1000000000000:=by
 have h:=Q5H a n;have:(l.length+1)*1000000<=100001*1000000:=Nat.mul_le_mul_right _ Q5;omega
def atM (cs:List Cel) (e:Int):Int:=if e=0 then cs.length else 0
set_option maxHeartbeats 1000000 in
theorem Q8J {B:Nat} {D:Nat->Prop} {k:X2} (hs:X7 w σ) (hB:B<=w.heap.size) (h:HeapIs B D σ w hp tv room cs) (ht:Tab σ tv l) (ok:Ok l) (hk:k.length<=W6) (h0:0<=D0 room cs) (h1:room<=1048576)
 (hh: ∀w' σ' M,Nxt D w σ w' σ'->HeapIs B M σ' w' hp tv room (Uu l room cs k).1->(∀j,M j->D j\/w.heap.size<=j)->K (.tuple #[I (atM cs (Uu l room cs k).2),I (Uu l room cs k).2]) w'):Q0 P F.q [hp,S k] w K:=Q10 (by
 obtain ⟨b,lv,E,rfl,hm,hr⟩:=h.tab;unfold Ef;simp only[N0,D9];unfold Y1 V1 Y0 X4 X5;rw[H7,fa];refine I1 (i:=0) hm rfl ?_;refine X3f hs ht fun w1 σ1 g=>?_;refine Zv ?_;unfold Uu at hh;have ac:=ht.lift ⟨g.le⟩;cases ho:Yq l k with
 | false=>
  rw[ho] at hh;simp only[if_pos] at hh;refine Z3 ?_;exact hh w1 σ1 D (.of_stp g) (h.up g) fun j r=> .inl r
 | true=>
  rw[ho] at hh;simp only[Bool.true_eq_false,if_false] at hh;refine Z7 ?_;rw[H7,fa];refine I1 (i:=0) (hm.up g) rfl ?_;refine Q0j g.sat ac ok.acy ok.len ok.sm fun fv w2 σ2 J Z=>?_;have v:=g.trans J;have aa:=Z.max;refine Q7 Z ?_;have af:=Q2P ok.sm ok.len k;refine Zd ⟨by omega,by omega⟩ ?_
  refine Q8L J.sat (h.up v) h0 h1 fun O z=>?_;have o:=v.trans z;have A:=Z.up z;rw[Gj]
  by_cases N:D0 room cs<1+((U6 l k).length:Int)
  .rw[if_pos N] at hh
   have e:decide (1+((U6 l k).length:Int)>D0 room cs)=true:=decide_eq_true N;rw[e];refine Z3 ?_;exact hh O σ2 D (.of_stp o) (h.up o) fun j r=> .inl r
  rw[if_neg N] at hh;have e:decide (1+((U6 l k).length:Int)>D0 room cs)=false:=decide_eq_false N;rw[e];refine Z7 ?_;refine Q7 A ?_;have u:=o.bel.size;refine C4 (U6 l k).length (fun n x w'=> ∃σ',Stp O σ2 w' σ'/\W7 O.heap.size T.d 4 E4 σ' w' x (((U6 l k).take n).map fun f=>H5 f.kind)) ⟨σ2,Stp.refl z.sat,W7.nil⟩ fun n x w4 d hn H=>?_;obtain ⟨σ4,c,p⟩:=H;refine J0 ?_;refine Q4 (fun Y=>?_) (fun Y=>?_)
  .have m:n<(U6 l k).length:=by simpa using Y
   have C:=A.up c;refine Z1 C m ?_;obtain ⟨p1,r1⟩:=C.elF m;refine Y7 c.sat p1 rfl ?_;refine J6 c.sat (by rfl) rfl (Rep.one (R:=I7) r1) fun q w5 σ5 t ab=>?_
   rw[fa];refine ld t.sat ab rfl ?_;refine X3i t.sat fun w6 σ6 L=>?_;have U:=(c.trans t).trans L;have W:=(p.up t).up L;refine Lz (R:=E4) (x:=H5 (U6 l k)[n].kind) U W (Q0d _) rfl rfl rfl (by rw[List.length_map,List.length_take];omega) (by rw[List.length_map,List.length_take];omega) fun s v' w7 σ7 ap V X _=>?_
   refine R5 ?_;refine V2 aa m ⟨σ7,V,?_⟩;rw[List.take_add_one,List.getElem?_eq_getElem m,List.map_append];exact X
  .have m: ¬n<(U6 l k).length:=by simpa using Y
   rw[List.take_of_length_le Q5] at p;have a:=o.trans c;have y: ∀j,x.ownBlock=some j->O.heap.size<=j:=fun j r=>(p.mem j r).1
   refine X5V c.sat (Nat.le_trans hB a.bel.size) (h.up a) ((V6.of_acc p).mono (Nat.le_trans hB u)) (fun j r hD=>by
    have:=(h.mem hD).2.1;have:=y j r;omega) hk (by rw[List.length_map];unfold D0 at*;omega) fun w7 σ7 M N7 h7 Q=>?_
   refine J8 (vs:=[_,_]) rfl ?_;refine J8 (vs:=[_,_]) rfl ?_;refine hh w7 σ7 M ((Nxt.of_stp a).chain N7 fun j _ e=>e) h7 fun j r=>?_
   rcases Q j r with e | e | e
   .exact .inl e
   .right;have:=y j e;omega
   .right;have:=a.bel.size;omega)
end Go.Proofs.Y
namespace Go.Hm
open Go.Kd
def K8 (n i b:Nat):Bool:=decide (i<n)&&decide (128<=b)&&decide (b<192)
def Wa (n a b c d:Nat):Nat:=
 if a<128 then 1
 else if (decide (194<=a)&&decide (a<224)&&K8 n 1 b)=true then 2
 else if (decide (224<=a)&&decide (a<240)&&K8 n 1 b&&K8 n 2 c)=true then
  (if 2048<=a % 16*4096+b % 64*64+c % 64/\(a % 16*4096+b % 64*64+c % 64<55296\/57343<a % 16*4096+b % 64*64+c % 64) then 3 else 0)
 else if (decide (240<=a)&&decide (a<245)&&K8 n 1 b&&K8 n 2 c&&K8 n 3 d)=true then
  (if 65536<=a % 8*262144+b % 64*4096+c % 64*64+d % 64/\a % 8*262144+b % 64*4096+c % 64*64+d % 64<=1114111 then 4 else 0)
 else 0
theorem X4V (n a b c d:Nat) (r:a<256) (s:b<256) (t:c<256) (u:d<256):
 Wa n a b c d=if (Lib.decodeN n a b c d).1=65533/\(Lib.decodeN n a b c d).2=1 then 0 else (Lib.decodeN n a b c d).2:=by
 have key: ∀v k:Nat,Lib.decodeN n a b c d=(v,k)-> ¬k=1->Wa n a b c d=k->Wa n a b c d=if (Lib.decodeN n a b c d).1=65533/\(Lib.decodeN n a b c d).2=1 then 0 else (Lib.decodeN n a b c d).2:=by
  intro v k h p o;rw[h,o,if_neg (fun e=>p e.2)]
 have g:Lib.decodeN n a b c d=(65533,1)->Wa n a b c d=0->Wa n a b c d=if (Lib.decodeN n a b c d).1=65533/\(Lib.decodeN n a b c d).2=1 then 0 else (Lib.decodeN n a b c d).2:=by
  intro h o;rw[h,o];simp
 by_cases f:a<128
 .have h:Lib.decodeN n a b c d=(a,1):=by unfold Lib.decodeN;rw[if_pos f]
  rw[h,if_neg (by simp only;omega)]
  unfold Wa;rw[if_pos f]
 by_cases j:a / 32=6/\(1<n/\b / 64=2)
 .by_cases i:a % 32*64+b % 64>=128
  .refine key _ 2 (by unfold Lib.decodeN;rw[if_neg f,if_pos j,if_pos i]) (by decide) ?_
   unfold Wa K8;simp only[Bool.and_eq_true,decide_eq_true_eq];rw[if_neg f,if_pos (by omega)]
  .refine g (by unfold Lib.decodeN;rw[if_neg f,if_pos j,if_neg i]) ?_
   unfold Wa K8;simp only[Bool.and_eq_true,decide_eq_true_eq];rw[if_neg f,if_neg (by omega),if_neg (by omega),if_neg (by omega)]
 by_cases l:a / 16=14/\(1<n/\b / 64=2)/\(2<n/\c / 64=2)
 .by_cases i:2048<=a % 16*4096+b % 64*64+c % 64/\(a % 16*4096+b % 64*64+c % 64<55296\/57343<a % 16*4096+b % 64*64+c % 64)
  .refine key _ 3 (by unfold Lib.decodeN;rw[if_neg f,if_neg j,if_pos l,if_pos (by omega)]) (by decide) ?_
   unfold Wa K8;simp only[Bool.and_eq_true,decide_eq_true_eq];rw[if_neg f,if_neg (by omega),if_pos (by omega),if_pos i]
  .refine g (by unfold Lib.decodeN;rw[if_neg f,if_neg j,if_pos l,if_neg (by omega)]) ?_
   unfold Wa K8;simp only[Bool.and_eq_true,decide_eq_true_eq];rw[if_neg f,if_neg (by omega),if_pos (by omega),if_neg i]
 by_cases m:a / 8=30/\(1<n/\b / 64=2)/\(2<n/\c / 64=2)/\(3<n/\d / 64=2)
 .by_cases i:65536<=a % 8*262144+b % 64*4096+c % 64*64+d % 64/\a % 8*262144+b % 64*4096+c % 64*64+d % 64<=1114111
  .refine key _ 4 (by unfold Lib.decodeN;rw[if_neg f,if_neg j,if_neg l,if_pos m,if_pos (by omega)]) (by decide) ?_
   unfold Wa K8;simp only[Bool.and_eq_true,decide_eq_true_eq];rw[if_neg f,if_neg (by omega),if_neg (by omega),if_pos (by omega),if_pos i]
  .refine g (by unfold Lib.decodeN;rw[if_neg f,if_neg j,if_neg l,if_pos m,if_neg (by omega)]) ?_
   unfold Wa K8;simp only[Bool.and_eq_true,decide_eq_true_eq];rw[if_neg f,if_neg (by omega),if_neg (by omega)]
   by_cases q:a<245
   .rw[if_pos (by omega),if_neg i]
   .rw[if_neg (by omega)]
 .refine g (by unfold Lib.decodeN;rw[if_neg f,if_neg j,if_neg l,if_neg m]) ?_
  unfold Wa K8;simp only[Bool.and_eq_true,decide_eq_true_eq];rw[if_neg f,if_neg (by omega),if_neg (by omega),if_neg (by omega)]
def Y2 (l:X2) (i:Nat):Nat:=(l.getD i 0).toNat
theorem Ud (l:X2) (i:Nat):Y2 l i<256:=(l.getD i 0).toNat_lt
def Vz (l:X2):Nat:=Wa l.length (Y2 l 0) (Y2 l 1) (Y2 l 2) (Y2 l 3)
theorem Q8O (l:X2):Vz l=if (Lib.decodeL l).1=65533/\(Lib.decodeL l).2=1 then 0 else (Lib.decodeL l).2:=by
 rw[Lib.decodeL_N];exact X4V _ _ _ _ _ (Ud l 0) (Ud l 1) (Ud l 2) (Ud l 3)
theorem X3r {l:X2} (a:l≠[]) (h:Vz l≠0):1<=Vz l/\Vz l<=l.length:=by
 have b:=Lib.decodeL_le l a;have c:=Lib.decodeL_width l;rw[Q8O] at h⊢
 split at h
 .exact absurd rfl h
 .rw[if_neg (by assumption)];omega
theorem X2Z {f:Nat} {l:X2} (a:l≠[]):Lib.validGoD (f+1) l=if Vz l=0 then false else Lib.validGoD f (l.drop (Vz l)):=by
 have b:=Lib.decodeL_width l;simp only[Lib.validGoD,if_neg a];rw[Q8O]
 split
 .rw[if_pos rfl]
 .rw[if_neg (by omega)]
end Go.Hm
namespace Go.Emb
open Go.RowKit
theorem X0g {P:Program} {w:World} {K:Value->World->Prop} {k:IntKind} {t:TypeId} {b d:Operand} {a c:Int} (f:0<c/\0<=a) (h:K (.int k (a % c)) w):Z9 P .rem t b d (.int k a) (.int k c) w K:=by
 have e:Z9 P .rem t b d (.int k a) (.int k c) w K=K (.int k (a.tmod c)) w:=Z0 (by simp[eqGuard,Go.binOp,Op.intDiv];intro e;omega)
 rw[e,Int.tmod_eq_emod_of_nonneg f.2];exact h
end Go.Emb
namespace Go.Proofs.Y
open Go.Emb Go.RowKit Go.Kd Go.Hm
variable {w : World} {K : Value -> World -> Prop} {σ : Q2}
theorem Re {a:X2} {i:Nat} (b:i<a.length) (h:K (.int .u8 (Y2 a i)) w):P0 P T.b (S a) (I i) w K:=by
 rw[Ju Z2 Q5 (by simpa using b)]
 have:(a[(i:Int).toNat]'(by simpa using b)).toNat=Y2 a i:=by
  unfold Y2;rw[List.getD_eq_getElem?_getD,List.getElem?_eq_getElem b];rfl
 rw[this];exact h
theorem Q7e {n:Int} (a:0<=n/\n<256) (h:K (I n) w):conv P T.a9 T.f (.int .u8 n) w K:=by
 rw[Q0n Q7a Rb,Qr Q5 Q5];exact h
theorem Dt {a:X2} {i:Nat} (h:K (.bool (K8 a.length i (Y2 a i))) w):Q0 P F.s [S a,I i] w K:=Q1c (by
 unfold Es X6 Y0 X5;unfold K8 at h;simp only[↓M1,M1,Mb,reduceIte]
 by_cases b:i<a.length
 .have c:decide ((i:Int)<a.length)=true:=by rw[decide_eq_true_eq];omega
  have d:decide (i<a.length)=true:=by simpa using b
  rw[d] at h;simp only[c,↓M1,M1,Mb,reduceIte];refine Re b ?_
  (try simp only[↓M1,M1,Mb,reduceIte])
  have f:decide ((128:Int)<=(Y2 a i:Int))=decide (128<=Y2 a i):=by rw[Bool.eq_iff_iff,decide_eq_true_eq,decide_eq_true_eq];omega
  have g:decide ((Y2 a i:Int)<192)=decide (Y2 a i<192):=by rw[Bool.eq_iff_iff,decide_eq_true_eq,decide_eq_true_eq];omega
  rw[f];cases e:decide (128<=Y2 a i) with
  | true=>
   rw[e] at h;simp only[↓M1,M1,Mb,reduceIte];refine Re b ?_;simp only[g,↓M1,M1,Mb,reduceIte]
   simpa using h
  | false=>
   rw[e] at h;simp only[↓M1,M1,Mb,reduceIte]
   simpa using h
 .have c:decide ((i:Int)<a.length)=false:=by rw[decide_eq_false_iff_not];omega
  have d:decide (i<a.length)=false:=by simpa using b
  rw[d] at h;simp only[c,↓M1,M1,Mb,reduceIte]
  simpa using h)
def Ly (a:X2):Nat:=Y2 a 0 % 16*4096+Y2 a 1 % 64*64+Y2 a 2 % 64
def Kp (a:X2):Nat:=Y2 a 0 % 8*262144+Y2 a 1 % 64*4096+Y2 a 2 % 64*64+Y2 a 3 % 64
theorem X3q (a:X2):Vz a=if Y2 a 0<128 then 1
 else if (decide (194<=Y2 a 0)&&decide (Y2 a 0<224)&&K8 a.length 1 (Y2 a 1))=true then 2
 else if (decide (224<=Y2 a 0)&&decide (Y2 a 0<240)&&K8 a.length 1 (Y2 a 1)&&K8 a.length 2 (Y2 a 2))=true then
  (if 2048<=Ly a/\(Ly a<55296\/57343<Ly a) then 3 else 0)
 else if (decide (240<=Y2 a 0)&&decide (Y2 a 0<245)&&K8 a.length 1 (Y2 a 1)&&K8 a.length 2 (Y2 a 2)&&K8 a.length 3 (Y2 a 3))=true then
  (if 65536<=Kp a/\Kp a<=1114111 then 4 else 0)
 else 0:=rfl
set_option maxRecDepth 9999 in
set_option maxHeartbeats 2000000 in
theorem X5w {a:X2} (hne:a≠[]) (hs:X7 w σ) (h: ∀w',Below w.heap.size w w'->K (I (Vz a)) w'):Q0 P F.bJ [S a] w K:=Q2f (by
 unfold Rq;simp only[Y3,X3,L9];unfold X6 X4 X5;have hl:0<a.length:=List.length_pos_iff.2 hne;have b0:=Ud a 0;have b1:=Ud a 1;have b2:=Ud a 2;have b3:=Ud a 3;refine Re (i:=0) hl ?_;refine Q7e Q5 ?_
 refine Yu (fun _ w'=>Below w.heap.size w w'/\Vz a=0) ?_ (fun _ d w' hx=>by
  have:=h w' hx.1;rw[hx.2] at this;exact this)
 have hK: ∀n w',Below w.heap.size w w'->Vz a=n->K (I n) w':=fun n w' hb e=>by rw[<-e];exact h w' hb
 clear h;have hcm:=X3q a;simp only[↓M1,M1,Mb,reduceIte];refine Q4 (fun h1=>?_) (fun h1=>?_)
 .have:Y2 a 0<128:=by have:=of_decide_eq_true h1;omega
  exact hK 1 _ (Below.refl _ _) (by rw[hcm,if_pos this])
 have c0: ¬Y2 a 0<128:=by have:=of_decide_eq_false h1;omega
 rw[if_neg c0] at hcm
 by_cases c1:Y2 a 0<194
 .have i1:decide ((194:Int)<=Y2 a 0)=false:=by rw[decide_eq_false_iff_not];omega
  have n1:decide (194<=Y2 a 0)=false:=by rw[decide_eq_false_iff_not];omega
  have i2:decide ((Y2 a 0:Int)<224)=true:=by rw[decide_eq_true_eq];omega
  have n2:decide (Y2 a 0<224)=true:=by rw[decide_eq_true_eq];omega
  have i3:decide ((224:Int)<=Y2 a 0)=false:=by rw[decide_eq_false_iff_not];omega
  have n3:decide (224<=Y2 a 0)=false:=by rw[decide_eq_false_iff_not];omega
  have i4:decide ((Y2 a 0:Int)<240)=true:=by rw[decide_eq_true_eq];omega
  have n4:decide (Y2 a 0<240)=true:=by rw[decide_eq_true_eq];omega
  have i5:decide ((240:Int)<=Y2 a 0)=false:=by rw[decide_eq_false_iff_not];omega
  have n5:decide (240<=Y2 a 0)=false:=by rw[decide_eq_false_iff_not];omega
  have i6:decide ((Y2 a 0:Int)<245)=true:=by rw[decide_eq_true_eq];omega
  have n6:decide (Y2 a 0<245)=true:=by rw[decide_eq_true_eq];omega
  simp only[i1,i2,i3,i4,i5,i6,↓M1,M1,Mb,reduceIte];exact ⟨Below.refl _ _,by rw[hcm];simp only[n1,n2,n3,n4,n5,n6,Bool.and_true,Bool.true_and,Bool.false_and,Bool.and_false,Bool.false_eq_true,if_true,if_false,reduceIte]⟩
 by_cases c2:Y2 a 0<224
 .have i1:decide ((194:Int)<=Y2 a 0)=true:=by rw[decide_eq_true_eq];omega
  have n1:decide (194<=Y2 a 0)=true:=by rw[decide_eq_true_eq];omega
  have i2:decide ((Y2 a 0:Int)<224)=true:=by rw[decide_eq_true_eq];omega
  have n2:decide (Y2 a 0<224)=true:=by rw[decide_eq_true_eq];omega
  have i3:decide ((224:Int)<=Y2 a 0)=false:=by rw[decide_eq_false_iff_not];omega
  have n3:decide (224<=Y2 a 0)=false:=by rw[decide_eq_false_iff_not];omega
  have i4:decide ((Y2 a 0:Int)<240)=true:=by rw[decide_eq_true_eq];omega
  have n4:decide (Y2 a 0<240)=true:=by rw[decide_eq_true_eq];omega
  have i5:decide ((240:Int)<=Y2 a 0)=false:=by rw[decide_eq_false_iff_not];omega
  have n5:decide (240<=Y2 a 0)=false:=by rw[decide_eq_false_iff_not];omega
  have i6:decide ((Y2 a 0:Int)<245)=true:=by rw[decide_eq_true_eq];omega
  have n6:decide (Y2 a 0<245)=true:=by rw[decide_eq_true_eq];omega
  simp only[i1,i2,i3,i4,i5,i6,↓M1,M1,Mb,reduceIte];refine Dt (i:=1) ?_;cases A1:K8 a.length 1 (Y2 a 1) with
  | true=>simp only[↓M1,M1,Mb,reduceIte];exact hK 2 _ (Below.refl _ _) (by rw[hcm];simp only[A1,n1,n2,n3,n4,n5,n6,Bool.and_true,Bool.true_and,Bool.false_and,Bool.and_false,Bool.false_eq_true,if_true,if_false,reduceIte])
  | false=>simp only[↓M1,M1,Mb,reduceIte];exact ⟨Below.refl _ _,by rw[hcm];simp only[A1,n1,n2,n3,n4,n5,n6,Bool.and_true,Bool.true_and,Bool.false_and,Bool.and_false,Bool.false_eq_true,if_true,if_false,reduceIte]⟩
 by_cases c3:Y2 a 0<240
 .have i1:decide ((194:Int)<=Y2 a 0)=true:=by rw[decide_eq_true_eq];omega
  have n1:decide (194<=Y2 a 0)=true:=by rw[decide_eq_true_eq];omega
  have i2:decide ((Y2 a 0:Int)<224)=false:=by rw[decide_eq_false_iff_not];omega
  have n2:decide (Y2 a 0<224)=false:=by rw[decide_eq_false_iff_not];omega
  have i3:decide ((224:Int)<=Y2 a 0)=true:=by rw[decide_eq_true_eq];omega
  have n3:decide (224<=Y2 a 0)=true:=by rw[decide_eq_true_eq];omega
  have i4:decide ((Y2 a 0:Int)<240)=true:=by rw[decide_eq_true_eq];omega
  have n4:decide (Y2 a 0<240)=true:=by rw[decide_eq_true_eq];omega
  have i5:decide ((240:Int)<=Y2 a 0)=false:=by rw[decide_eq_false_iff_not];omega
  have n5:decide (240<=Y2 a 0)=false:=by rw[decide_eq_false_iff_not];omega
  have i6:decide ((Y2 a 0:Int)<245)=true:=by rw[decide_eq_true_eq];omega
  have n6:decide (Y2 a 0<245)=true:=by rw[decide_eq_true_eq];omega
  simp only[i1,i2,i3,i4,i5,i6,↓M1,M1,Mb,reduceIte];refine Dt (i:=1) ?_;cases A1:K8 a.length 1 (Y2 a 1) with
  | false=>simp only[↓M1,M1,Mb,reduceIte];exact ⟨Below.refl _ _,by rw[hcm];simp only[A1,n1,n2,n3,n4,n5,n6,Bool.and_true,Bool.true_and,Bool.false_and,Bool.and_false,Bool.false_eq_true,if_true,if_false,reduceIte]⟩
  | true=>
  simp only[↓M1,M1,Mb,reduceIte];refine Dt (i:=2) ?_;cases A2:K8 a.length 2 (Y2 a 2) with
  | false=>simp only[↓M1,M1,Mb,reduceIte];exact ⟨Below.refl _ _,by rw[hcm];simp only[A1,A2,n1,n2,n3,n4,n5,n6,Bool.and_true,Bool.true_and,Bool.false_and,Bool.and_false,Bool.false_eq_true,if_true,if_false,reduceIte]⟩
  | true=>
  simp only[↓M1,M1,Mb,reduceIte];simp only[A1,A2,n1,n2,n3,n4,n5,n6,Bool.and_true,Bool.true_and,Bool.false_and,Bool.and_false,Bool.false_eq_true,if_true,if_false,reduceIte] at hcm;have hl1:1<a.length:=by unfold K8 at A1;simp only[Bool.and_eq_true,decide_eq_true_eq] at A1;exact A1.1.1
  have hl2:2<a.length:=by unfold K8 at A2;simp only[Bool.and_eq_true,decide_eq_true_eq] at A2;exact A2.1.1
  have hw:IntKind.i64.wrap (IntKind.i64.wrap (IntKind.i64.wrap ((Y2 a 0:Int) % 16*4096)+IntKind.i64.wrap ((Y2 a 1:Int) % 64*64))+(Y2 a 2:Int) % 64)=((Ly a:Nat):Int):=by
   rw[Qr (n:=(Y2 a 0:Int) % 16*4096) Q5 Q5,Qr (n:=(Y2 a 1:Int) % 64*64) Q5 Q5,Qr (n:=_+(Y2 a 1:Int) % 64*64) Q5 Q5,Qr Q5 Q5];unfold Ly;omega
  refine U8 hs ?_;have hx1: ∀{w':World} {K:Value->World->Prop},K (.int .u8 (Y2 a 1)) w'->P0 P T.b (S a) (.int .i64 1) w' K:=fun hK=>Re (i:=1) hl1 hK;have hx2: ∀{w':World} {K:Value->World->Prop},K (.int .u8 (Y2 a 2)) w'->P0 P T.b (S a) (.int .i64 2) w' K:=fun hK=>Re (i:=2) hl2 hK
  (repeat (apply X0;(· intros;(repeat (rename_i hx;subst hx));(repeat' (first | (with_reducible exact Q8 rfl) | (with_reducible exact B5 (Stp.bel (by (repeat (first | exact Stp.refl (by (first | assumption | exact Stp.sat Q9 | exact Hst.sat Q9)) | assumption | refine Stp.trans ?_ (by first | assumption | exact Hst.stp Q9))))) rfl) | (with_reducible intro _) | (simp only[↓M2,M2,Mb,reduceIte]) | (with_reducible refine X0g au ?_) | (with_reducible refine Q7e au ?_) | (with_reducible refine hx1 ?_) | (with_reducible refine hx2 ?_) | (with_reducible show Q6 _ _ _ _ _;first | refine Y6 aS aL aR ?_ | refine Y7 aS aL aR ?_ | refine ld aS aL aR ?_) | (with_reducible show indexAddr _ _ _ _ _ _;refine Z1 aL au ?_) | (with_reducible show V0 _ _ _ _ _ _ _ _;refine Q7 aL ?_) | (with_reducible show Xj _ _ _ _ _ _;refine W2 aR ?_) | (with_reducible show pick _ _ _ _ _ _;refine F3 ?_) | (apply Zn;intro hh;(try simp only[hh,reduceIte,↓M2,M2,Mb,reduceIte]))));done)))
  (intros;(repeat (rename_i hx;subst hx));(try simp only[↓M2,M2,Mb,reduceIte]))
  rename_i w2 hb2;simp only[hw];have hb:=hb2.stp.bel
  by_cases e1:2048<=Ly a
  .by_cases e2:Ly a<55296
   .simp only[(show decide ((2048:Int)<=(Ly a:Int))=true by rw[decide_eq_true_eq];omega),(show decide ((Ly a:Int)<55296)=true by rw[decide_eq_true_eq];omega),↓M1,M1,Mb,reduceIte]
    exact hK 3 _ hb (by rw[hcm,if_pos ⟨e1, .inl e2⟩])
   .by_cases e3:57343<Ly a
    .simp only[(show decide ((2048:Int)<=(Ly a:Int))=true by rw[decide_eq_true_eq];omega),(show decide ((Ly a:Int)<55296)=false by rw[decide_eq_false_iff_not];omega),(show decide ((57343:Int)<(Ly a:Int))=true by rw[decide_eq_true_eq];omega),↓M1,M1,Mb,reduceIte]
     exact hK 3 _ hb (by rw[hcm,if_pos ⟨e1, .inr e3⟩])
    .simp only[(show decide ((2048:Int)<=(Ly a:Int))=true by rw[decide_eq_true_eq];omega),(show decide ((Ly a:Int)<55296)=false by rw[decide_eq_false_iff_not];omega),(show decide ((57343:Int)<(Ly a:Int))=false by rw[decide_eq_false_iff_not];omega),↓M1,M1,Mb,reduceIte]
     exact ⟨hb,by rw[hcm,if_neg Q5]⟩
  .simp only[(show decide ((2048:Int)<=(Ly a:Int))=false by rw[decide_eq_false_iff_not];omega),↓M1,M1,Mb,reduceIte]
   exact ⟨hb,by rw[hcm,if_neg Q5]⟩
 by_cases c4:Y2 a 0<245
 .have i1:decide ((194:Int)<=Y2 a 0)=true:=by rw[decide_eq_true_eq];omega
  have n1:decide (194<=Y2 a 0)=true:=by rw[decide_eq_true_eq];omega
  have i2:decide ((Y2 a 0:Int)<224)=false:=by rw[decide_eq_false_iff_not];omega
  have n2:decide (Y2 a 0<224)=false:=by rw[decide_eq_false_iff_not];omega
  have i3:decide ((224:Int)<=Y2 a 0)=true:=by rw[decide_eq_true_eq];omega
  have n3:decide (224<=Y2 a 0)=true:=by rw[decide_eq_true_eq];omega
  have i4:decide ((Y2 a 0:Int)<240)=false:=by rw[decide_eq_false_iff_not];omega
  have n4:decide (Y2 a 0<240)=false:=by rw[decide_eq_false_iff_not];omega
  have i5:decide ((240:Int)<=Y2 a 0)=true:=by rw[decide_eq_true_eq];omega
  have n5:decide (240<=Y2 a 0)=true:=by rw[decide_eq_true_eq];omega
  have i6:decide ((Y2 a 0:Int)<245)=true:=by rw[decide_eq_true_eq];omega
  have n6:decide (Y2 a 0<245)=true:=by rw[decide_eq_true_eq];omega
  simp only[i1,i2,i3,i4,i5,i6,↓M1,M1,Mb,reduceIte];refine Dt (i:=1) ?_;cases A1:K8 a.length 1 (Y2 a 1) with
  | false=>simp only[↓M1,M1,Mb,reduceIte];exact ⟨Below.refl _ _,by rw[hcm];simp only[A1,n1,n2,n3,n4,n5,n6,Bool.and_true,Bool.true_and,Bool.false_and,Bool.and_false,Bool.false_eq_true,if_true,if_false,reduceIte]⟩
  | true=>
  simp only[↓M1,M1,Mb,reduceIte];refine Dt (i:=2) ?_;cases A2:K8 a.length 2 (Y2 a 2) with
  | false=>simp only[↓M1,M1,Mb,reduceIte];exact ⟨Below.refl _ _,by rw[hcm];simp only[A1,A2,n1,n2,n3,n4,n5,n6,Bool.and_true,Bool.true_and,Bool.false_and,Bool.and_false,Bool.false_eq_true,if_true,if_false,reduceIte]⟩
  | true=>
  simp only[↓M1,M1,Mb,reduceIte];refine Dt (i:=3) ?_;cases A3:K8 a.length 3 (Y2 a 3) with
  | false=>simp only[↓M1,M1,Mb,reduceIte];exact ⟨Below.refl _ _,by rw[hcm];simp only[A1,A2,A3,n1,n2,n3,n4,n5,n6,Bool.and_true,Bool.true_and,Bool.false_and,Bool.and_false,Bool.false_eq_true,if_true,if_false,reduceIte]⟩
  | true=>
  simp only[↓M1,M1,Mb,reduceIte];simp only[A1,A2,A3,n1,n2,n3,n4,n5,n6,Bool.and_true,Bool.true_and,Bool.false_and,Bool.and_false,Bool.false_eq_true,if_true,if_false,reduceIte] at hcm;have hl1:1<a.length:=by unfold K8 at A1;simp only[Bool.and_eq_true,decide_eq_true_eq] at A1;exact A1.1.1
  have hl2:2<a.length:=by unfold K8 at A2;simp only[Bool.and_eq_true,decide_eq_true_eq] at A2;exact A2.1.1
  have hl3:3<a.length:=by unfold K8 at A3;simp only[Bool.and_eq_true,decide_eq_true_eq] at A3;exact A3.1.1
  have hw:IntKind.i64.wrap (IntKind.i64.wrap (IntKind.i64.wrap (IntKind.i64.wrap ((Y2 a 0:Int) % 8*262144)+IntKind.i64.wrap ((Y2 a 1:Int) % 64*4096))+IntKind.i64.wrap ((Y2 a 2:Int) % 64*64))+(Y2 a 3:Int) % 64)=((Kp a:Nat):Int):=by
   rw[Qr (n:=(Y2 a 0:Int) % 8*262144) Q5 Q5,Qr (n:=(Y2 a 1:Int) % 64*4096) Q5 Q5,Qr (n:=(Y2 a 2:Int) % 64*64) Q5 Q5,Qr (n:=_+(Y2 a 1:Int) % 64*4096) Q5 Q5,Qr (n:=_+(Y2 a 2:Int) % 64*64) Q5 Q5,Qr Q5 Q5];unfold Kp;omega
  refine U8 hs ?_;have hx1: ∀{w':World} {K:Value->World->Prop},K (.int .u8 (Y2 a 1)) w'->P0 P T.b (S a) (.int .i64 1) w' K:=fun hK=>Re (i:=1) hl1 hK;have hx2: ∀{w':World} {K:Value->World->Prop},K (.int .u8 (Y2 a 2)) w'->P0 P T.b (S a) (.int .i64 2) w' K:=fun hK=>Re (i:=2) hl2 hK;have hx3: ∀{w':World} {K:Value->World->Prop},K (.int .u8 (Y2 a 3)) w'->P0 P T.b (S a) (.int .i64 3) w' K:=fun hK=>Re (i:=3) hl3 hK
  (repeat (apply X0;(· intros;(repeat (rename_i hx;subst hx));(repeat' (first | (with_reducible exact Q8 rfl) | (with_reducible exact B5 (Stp.bel (by (repeat (first | exact Stp.refl (by (first | assumption | exact Stp.sat Q9 | exact Hst.sat Q9)) | assumption | refine Stp.trans ?_ (by first | assumption | exact Hst.stp Q9))))) rfl) | (with_reducible intro _) | (simp only[↓M2,M2,Mb,reduceIte]) | (with_reducible refine X0g au ?_) | (with_reducible refine Q7e au ?_) | (with_reducible refine hx1 ?_) | (with_reducible refine hx2 ?_) | (with_reducible refine hx3 ?_) | (with_reducible show Q6 _ _ _ _ _;first | refine Y6 aS aL aR ?_ | refine Y7 aS aL aR ?_ | refine ld aS aL aR ?_) | (with_reducible show indexAddr _ _ _ _ _ _;refine Z1 aL au ?_) | (with_reducible show V0 _ _ _ _ _ _ _ _;refine Q7 aL ?_) | (with_reducible show Xj _ _ _ _ _ _;refine W2 aR ?_) | (with_reducible show pick _ _ _ _ _ _;refine F3 ?_) | (apply Zn;intro hh;(try simp only[hh,reduceIte,↓M2,M2,Mb,reduceIte]))));done)))
  (intros;(repeat (rename_i hx;subst hx));(try simp only[↓M2,M2,Mb,reduceIte]))
  rename_i w2 hb2;simp only[hw];have hb:=hb2.stp.bel
  by_cases e1:65536<=Kp a
  .by_cases e2:Kp a<=1114111
   .simp only[(show decide ((65536:Int)<=(Kp a:Int))=true by rw[decide_eq_true_eq];omega),(show decide ((Kp a:Int)<=1114111)=true by rw[decide_eq_true_eq];omega),↓M1,M1,Mb,reduceIte]
    exact hK 4 _ hb (by rw[hcm,if_pos ⟨e1,e2⟩])
   .simp only[(show decide ((65536:Int)<=(Kp a:Int))=true by rw[decide_eq_true_eq];omega),(show decide ((Kp a:Int)<=1114111)=false by rw[decide_eq_false_iff_not];omega),↓M1,M1,Mb,reduceIte]
    exact ⟨hb,by rw[hcm,if_neg Q5]⟩
  .simp only[(show decide ((65536:Int)<=(Kp a:Int))=false by rw[decide_eq_false_iff_not];omega),↓M1,M1,Mb,reduceIte]
   exact ⟨hb,by rw[hcm,if_neg Q5]⟩
 have i1:decide ((194:Int)<=Y2 a 0)=true:=by rw[decide_eq_true_eq];omega
 have n1:decide (194<=Y2 a 0)=true:=by rw[decide_eq_true_eq];omega
 have i2:decide ((Y2 a 0:Int)<224)=false:=by rw[decide_eq_false_iff_not];omega
 have n2:decide (Y2 a 0<224)=false:=by rw[decide_eq_false_iff_not];omega
 have i3:decide ((224:Int)<=Y2 a 0)=true:=by rw[decide_eq_true_eq];omega
 have n3:decide (224<=Y2 a 0)=true:=by rw[decide_eq_true_eq];omega
 have i4:decide ((Y2 a 0:Int)<240)=false:=by rw[decide_eq_false_iff_not];omega
 have n4:decide (Y2 a 0<240)=false:=by rw[decide_eq_false_iff_not];omega
 have i5:decide ((240:Int)<=Y2 a 0)=true:=by rw[decide_eq_true_eq];omega
 have n5:decide (240<=Y2 a 0)=true:=by rw[decide_eq_true_eq];omega
 have i6:decide ((Y2 a 0:Int)<245)=false:=by rw[decide_eq_false_iff_not];omega
 have n6:decide (Y2 a 0<245)=false:=by rw[decide_eq_false_iff_not];omega
 simp only[i1,i2,i3,i4,i5,i6,↓M1,M1,Mb,reduceIte];exact ⟨Below.refl _ _,by rw[hcm];simp only[n1,n2,n3,n4,n5,n6,Bool.and_true,Bool.true_and,Bool.false_and,Bool.and_false,Bool.false_eq_true,if_true,if_false,reduceIte]⟩)
theorem Q7V {s:X2} (p:s.length<=W6) (u:X7 w σ) (h: ∀w',Below w.heap.size w w'->K (.bool (Lib.validD s)) w'):Q0 P F.aM [S s] w K:=Q1b (by
 unfold Er X4 V5;refine Q0y (fun f x w'=> ∃r,x=S r/\r.length<=f/\r.length<=W6/\Below w.heap.size w w'/\Lib.validD s=Lib.validGoD f r) s.length ⟨s,rfl,Nat.le_refl _,p,Below.refl _ _,rfl⟩ ?_;rintro j f x d w1 ⟨r,rfl,t,q,b,i⟩ m;refine Jn ?_
 by_cases a:r=[]
 .have e:decide (r=[])=true:=by simpa using a
  simp only[e,↓M1,M1,Mb,reduceIte];subst a;have:Lib.validGoD f []=true:=by cases f<;>simp[Lib.validGoD]
  rw[i,this] at h;exact h _ b
 .have e:decide (r=[])=false:=by simpa using a
  simp only[e,↓M1,M1,Mb,reduceIte];have o:0<r.length:=List.length_pos_iff.2 a;obtain ⟨f,rfl⟩: ∃g,f=g+1:=⟨f-1,by omega⟩
  rw[X2Z a] at i;refine X5w a (u.below b) fun z n=>?_;have c:=b.trans (n.mono b.size);refine B1 ?_
  by_cases l:Vz r=0
  .have k:decide ((Vz r:Int)=0)=true:=by rw[decide_eq_true_eq];omega
   simp only[k,↓M1,M1,Mb,reduceIte];rw[i,if_pos l] at h;exact h _ c
  .have k:decide ((Vz r:Int)=0)=false:=by rw[decide_eq_false_iff_not];omega
   simp only[k,↓M1,M1,Mb,reduceIte];obtain ⟨v,y⟩:=X3r a l;rw[Mg Z2 Q5 Q5];rw[if_neg l] at i;refine m f _ _ Q5 ⟨r.drop (Vz r),by simp,by rw[List.length_drop];omega,by rw[List.length_drop];omega,c,i⟩)
theorem Q94 {σ:Q2}: ∀(xs:List X2),(∀x∈xs,x.length<=W6)->Q2y M7 σ (xs.map S) xs
 | [],_=>trivial
 | x::r,h=>⟨⟨rfl,h x U5⟩,Q94 r fun y a=>h y (by simp[a])⟩
def Me:List X2:=Lo.map (·.name)
set_option maxRecDepth 100000 in
theorem X7g (d:X7 w σ) (h: ∀v w' a,Stp w σ w' a->Sl 1 M7 a v Me->K v w'):Q0 P F.bX [] w K:=Q3t (by
 unfold Cw;exact P4 (R:=M7) (sz:=1) d (Me.map S) Me rfl rfl (by intro v b;obtain ⟨x,_,rfl⟩:=List.mem_map.1 b;rfl) rfl (Q94 _ W3) fun v w' a c b=>h v w' a c b)
theorem X2P {a:X2} (z:X7 w σ) (h: ∀w' C,Stp w σ w' C->K (I (H2 (Zj a))) w'):Q0 P F.bj [S a] w K:=Q00 (by
 unfold Di V1 V3 Y0 X5;refine X7g z fun v w1 σ1 l p=>?_
 have s:Zj a=Me.findIdx? fun x=>decide (x=a):=by
  unfold Zj Me;rw[List.findIdx?_map];rfl
 have q: ∀o,Zj a=o->K (I (H2 o)) w1:=fun o e=>by rw[<-e];exact h _ _ l
 rw[s] at q;have n:Me.length=42:=rfl;generalize Me=g at p q n;refine V7 g.length (fun k w'=>w'=w1/\ ∀j (i:j<g.length),j<k-> ¬g[j]=a) ⟨rfl,fun j _ h=>by omega⟩ fun k E d D t=>?_
 obtain ⟨A,f⟩:=t;subst A;refine Q7 p ?_;refine J0 ?_;refine Q4 (fun r=>?_) (fun r=>?_)
 .have b:k<g.length:=by simpa using r
  refine Z1 p b ?_;obtain ⟨B,_⟩:=p.elS b;refine Y6 l.sat B rfl ?_;refine Qu ?_;refine Q4 (fun c=>?_) (fun c=>?_)
  .have c:g[k]=a:=by simpa using c
   exact q (some k) (by
    rw[List.findIdx?_eq_some_iff_getElem];exact ⟨b,by simpa using c,fun j i=>by simpa using f j Q5 i⟩)
  .have c: ¬g[k]=a:=by simpa using c
   (try simp only[↓M1,M1,Mb,reduceIte])
   refine Z5 p.max b ⟨rfl,fun j i u=>?_⟩
   by_cases e:j=k
   .subst e;exact c
   .exact f j i Q5
 .have b: ¬k<g.length:=by simpa using r
  exact q none (by
   rw[List.findIdx?_eq_none_iff];intro m y;obtain ⟨j,i,rfl⟩:=List.getElem_of_mem y
   simpa using f j i Q5))
theorem X6V {o:Option Nat}:decide (H2 o<0)= !o.isSome:=by
 cases o with
 | none=>rfl
 | some i=>
  have: ¬(i:Int)<0:=by omega
  exact decide_eq_false this
def Ho (a:X2):Bool:=decide (a=[105,110,116])||decide (a=[108,111,97,100])||decide (a=[115,116,111,114,101])||decide (a=[106,117,109,112])||decide (a=[98,114,97,110,99,104])
def Oe (a:X2):Bool:=decide (a=[119,111,114,100])||decide (a=[110,101,119])||decide (a=[103,101,116])||decide (a=[112,117,116])||decide (a=[99,97,108,108])||decide (a=[97,114,114,97,121])||decide (a=[105,115])||decide (a=[99,97,115,116])
theorem X5E (a:X2):I6 a=(Ho a,Oe a,(Zj a).isSome):=by
 unfold I6;cases g:Zj a with
 | none=>
  have c:=List.findIdx?_eq_none_iff.1 g
  have d: ∀x∈Me,¬x=a:=by
   intro x f;obtain ⟨o,q,rfl⟩:=List.mem_map.1 f;have:=c o q
   simpa using this
  have b: ∀x∈Me,decide (a=x)=false:=fun x f=>by rw[decide_eq_false_iff_not];exact fun e=>d x f e.symm
  have j:Ho a=false:=by
   unfold Ho;rw[b _ W3,b _ W3,b _ W3,b _ W3,b _ W3];rfl
  have k:Oe a=false:=by
   unfold Oe;rw[b _ W3,b _ W3,b _ W3,b _ W3,b _ W3,b _ W3,b _ W3,b _ W3];rfl
  simp[j,k]
 | some i=>
  obtain ⟨h,r,_⟩:=List.findIdx?_eq_some_iff_getElem.1 g;have n:Lo[i].name=a:=by simpa using r
  have p:Lo.getD i ⟨[],false,false⟩=Lo[i]:=by rw[List.getD_eq_getElem?_getD,List.getElem?_eq_getElem h];rfl
  have c: ∀o∈Lo,o.number=Ho o.name/\o.text=Oe o.name:=by decide
  obtain ⟨l,m⟩:=c _ (List.getElem_mem h);simp only[p,Option.isSome_some];rw[l,m,n]
def Bo (a:X2):Int:=if Ho a then 1 else if Oe a then 2 else if (Zj a).isSome then 0 else-1
theorem X4k {a:X2} (f:X7 w σ) (h: ∀w' l,Stp w σ w' l->K (I (Bo a)) w'):Q0 P F.bw [S a] w K:=Q1i (by
 unfold Ey X4 V5;refine Yu (fun x w'=>w'=w/\x= .bool (Ho a)) ?_ (fun x d w' g=>?_)
 .unfold Ho
  simp only[↓M1,M1,Mb,reduceIte]
  repeat' (refine Q4 (fun hh=>?_) (fun hh=>?_))
  all_goals (refine ⟨by trivial,?_⟩;congr 1;simp_all)
 .obtain ⟨rfl,rfl⟩:=g
  cases e:Ho a with
  | true=>
   (try simp only[↓M1,M1,Mb,reduceIte])
   have:=h _ _ (Stp.refl f);unfold Bo at this
   simpa [e] using this
  | false=>
   (try simp only[↓M1,M1,Mb,reduceIte])
   refine Yu (fun x b=>b=w'/\x= .bool (Oe a)) ?_ (fun x d b g=>?_)
   .unfold Oe
    simp only[↓M1,M1,Mb,reduceIte]
    repeat' (refine Q4 (fun hh=>?_) (fun hh=>?_))
    all_goals (refine ⟨by trivial,?_⟩;congr 1;simp_all)
   .obtain ⟨rfl,rfl⟩:=g
    cases k:Oe a with
    | true=>
     (try simp only[↓M1,M1,Mb,reduceIte])
     have:=h _ _ (Stp.refl f);unfold Bo at this
     simpa [e,k] using this
    | false=>
     (try simp only[↓M1,M1,Mb,reduceIte])
     refine X2P f fun w1 σ1 c=>?_;have:=h _ _ c;unfold Bo at this;simp only[e,k,Bool.false_eq_true,if_false] at this;simp only[X6V,↓M1,M1,Mb,reduceIte];cases j:Zj a with
     | none=>rw[j] at this;simp only[Option.isSome_none,↓M1,M1,Mb,reduceIte];simpa using this
     | some i=>rw[j] at this;simp only[Option.isSome_some,↓M1,M1,Mb,reduceIte];simpa using this)
theorem X09 (a:X2):decide (Bo a<0)= !(I6 a).2.2/\decide (Bo a=1)=(I6 a).1/\decide (Bo a=2)=(I6 a).2.1:=by
 rw[X5E]
 have d:Ho a=true->Oe a=false/\(Zj a).isSome=true:=by
  intro h;unfold Ho at h;simp only[Bool.or_eq_true,decide_eq_true_eq] at h
  rcases h with (((h | h) | h) | h) | h<;>(subst h;decide)
 have e:Oe a=true->(Zj a).isSome=true:=by
  intro h;unfold Oe at h;simp only[Bool.or_eq_true,decide_eq_true_eq] at h
  rcases h with ((((((h | h) | h) | h) | h) | h) | h) | h<;>(subst h;decide)
 unfold Bo;cases b:Ho a with
 | true=>obtain ⟨f,g⟩:=d b;rw[f,g];decide
 | false=>
  cases c:Oe a with
  | true=>rw[e c];decide
  | false=>cases (Zj a).isSome<;>decide
theorem X9v (s:X2) (c:UInt8):decide (0<=Lib.indexByte s c)=s.any fun b=>decide (b=c):=by
 induction s with
 | nil=>rfl
 | cons b r g=>
  simp only[Lib.indexByte,List.any_cons,<-g]
  by_cases e:b=c
  .simp[e]
  .have a:(b==c)=false:=by simpa using e
   have f:=Lib.indexByte_ge r c;simp only[a,e,decide_false,Bool.false_or,Bool.false_eq_true,if_false]
   by_cases d:Lib.indexByte r c= -1
   .simp[d]
   .have:(Lib.indexByte r c== -1)=false:=by simpa using d
    simp only[this,Bool.false_eq_true,if_false];rw[Bool.eq_iff_iff,decide_eq_true_eq,decide_eq_true_eq];omega
def JB (w:World) (σ:Q2) (b:Bool) (x:Value) (w':World):Prop:= ∃a,Stp w σ w' a/\x= .bool b
theorem JB.mk {w w':World} {σ a:Q2} {b:Bool} (h:Stp w σ w' a):JB w σ b (.bool b) w':=⟨a,h,rfl⟩
theorem JB.of {w w':World} {σ a:Q2} {b c:Bool} (h:Stp w σ w' a) (e:c=b):JB w σ b (.bool c) w':=⟨a,h,by rw[e]⟩
theorem X7D {s:X2} {n:Nat} (h:n<s.length):decide ((Y2 s n:Int)=10)=decide (s[n]=10):=by
 unfold Y2;rw[List.getD_eq_getElem?_getD,List.getElem?_eq_getElem h,Bool.eq_iff_iff,decide_eq_true_eq,decide_eq_true_eq];simp only[Option.getD_some];rw[<-UInt8.toNat_inj];constructor
 .intro e;have:s[n].toNat=10:=by omega
  rw[this];rfl
 .intro e;rw[e];rfl
theorem Ma {α:Type} {xs:List α} {p:α->Bool} {n:Nat} (h:n<xs.length):(xs.take (n+1)).all p=((xs.take n).all p&&p xs[n]):=by
 rw[List.take_add_one,List.getElem?_eq_getElem h,List.all_append];simp
set_option maxRecDepth 9999 in
set_option maxHeartbeats 2000000 in
theorem X2N {i:Ins} {cs:List Value} (hs:X7 w σ) (hi:Ze σ i cs) (h: ∀w' m,Stp w σ w' m->K (I (F7 i)) w'):Q0 P F.bv [.agg cs.toArray] w K:=Q1h (by
 obtain ⟨rfl,h1,h2,h3⟩:=hi;unfold Ex;simp only[D9];unfold Z8 Y1 X6 Y0 X4 V5 X5;refine Z4 hs fun q w1 σ1 O hq=>?_;have U:=O.sat
 (try simp only[↓M1,M1,Mb,reduceIte])
 refine ld U hq rfl ?_;refine X4k U fun w2 σ2 Q=>?_;obtain ⟨t1,X,H⟩:=X09 i.op;have f:=O.trans Q;have g:=hq.up Q;have e:=f.sat;have p:i.s.length<=140737488355328:=by simp only[W6] at h3;omega
 simp only[t1,↓M1,M1,Mb,reduceIte];unfold F7 at h;cases e1:(I6 i.op).2.2 with
 | false=>
  simp only[e1,Bool.not_false,if_true] at h
  (try simp only[↓M1,M1,Mb,reduceIte])
  exact h _ _ f
 | true=>
 simp only[e1,Bool.not_true,Bool.false_eq_true,if_false] at h;simp only[X,H,↓M1,M1,Mb,reduceIte]
 have k: ∀(b:Bool) (w':World) (m:Q2),Stp w σ w' m->b=(!((!(I6 i.op).1&&decide (i.n≠0))||(!(I6 i.op).2.1&&decide (i.s≠[]))||((I6 i.op).2.1&& !txt i.op i.s)))->
  X1 (.bool (!b)) (K (.int .i64 41) w') (K (.int .i64 0) w'):=by
  intro b w' m u B;subst B;rw[Bool.not_not];cases B:((!(I6 i.op).1&&decide (i.n≠0))||(!(I6 i.op).2.1&&decide (i.s≠[]))||((I6 i.op).2.1&& !txt i.op i.s)) with
  | true=>simp only[B,if_true] at h;(try simp only[↓M1,M1,Mb,reduceIte]);exact h _ _ u
  | false=>simp only[B,Bool.false_eq_true,if_false] at h;(try simp only[↓M1,M1,Mb,reduceIte]);exact h _ _ u
 clear h
 have ae:(I6 i.op).2.1=true->(I6 i.op).1=false:=by
  intro W;rw[<-X,decide_eq_false_iff_not];rw[<-H,decide_eq_true_eq] at W;omega
 cases C:(I6 i.op).2.1 with
 | false=>
  rw[C] at k H;cases y:(I6 i.op).1 with
  | true=>
   rw[y] at k X
   (try simp only[↓M1,M1,Mb,reduceIte])
   simp only[H,↓M1,M1,Mb,reduceIte];refine ld e g rfl ?_
   (try simp only[↓M1,M1,Mb,reduceIte])
   refine M9 ?_;intro d;simp only[↓M1,M1,Mb,reduceIte];exact k _ _ _ f U5
  | false=>
   rw[y] at k X
   (try simp only[↓M1,M1,Mb,reduceIte])
   refine ld e g rfl ?_
   (try simp only[↓M1,M1,Mb,reduceIte])
   by_cases M:i.n=0
   .have d0:decide (i.n=0)=true:=by simpa using M
    simp only[d0,H,↓M1,M1,Mb,reduceIte];refine ld e g rfl ?_
    (try simp only[↓M1,M1,Mb,reduceIte])
    refine M9 ?_;intro d;simp only[↓M1,M1,Mb,reduceIte];exact k _ _ _ f (by simp[M])
   .have d0:decide (i.n=0)=false:=by simpa using M
    simp only[d0,↓M1,M1,Mb,reduceIte];refine M9 ?_;intro d;have E:=k false _ _ f (by simp[M])
    (try simp only[↓M1,M1,Mb,reduceIte] at E⊢)
    exact E
 | true=>
  have y:=ae C;rw[C,y] at k;rw[C] at H;rw[y] at X⊢
  (try simp only[↓M1,M1,Mb,reduceIte])
  refine ld e g rfl ?_
  (try simp only[↓M1,M1,Mb,reduceIte])
  have o: ∀(b c:Bool) (w':World) (m:Q2),decide (i.n=0)=b->Stp w σ w' m->c=(b&&txt i.op i.s)->X1 (.bool (!c)) (K (.int .i64 41) w') (K (.int .i64 0) w'):=by
   intro b c w' m B u t;refine k c w' m u ?_;rw[t,<-B]
   by_cases M:i.n=0<;>simp[M]
  clear k;cases B:decide (i.n=0) with
  | false=>
   have v:=fun w' m u=>o false false w' m B u rfl;clear o;simp only[H,↓M1,M1,Mb,reduceIte];refine Yu (JB w σ false) ?_ (fun x d w' W=>?_)
   .refine ld e g rfl ?_
    (try simp only[↓M1,M1,Mb,reduceIte])
    refine Q4 (fun hh=>?_) (fun hh=>?_)
    .refine C4 (a:=Value.bool false) i.s.length (fun n x w'=>w'=w2/\x=Value.bool false) ⟨rfl,rfl⟩ fun n x w3 d hn l=>?_
     obtain ⟨D,rfl⟩:=l;subst D
     (try simp only[↓M1,M1,Mb,reduceIte])
     refine ld e g rfl ?_
     (try simp only[↓M1,M1,Mb,reduceIte])
     refine Q4 (fun t=>?_) (fun t=>?_)
     .have j:n<i.s.length:=by simpa using t
      (try simp only[↓M1,M1,Mb,reduceIte])
      exact V2 Q5 j ⟨rfl,rfl⟩
     .exact .mk f
    refine Q4 (fun hh=>?_) (fun hh=>?_)
    .exact .mk f
    refine Yu (fun x w'=>w'=w2/\ ∃b:Bool,x=Value.bool b) ?_ (fun z d w' hz=>?_)
    .refine Q4 (fun hh=>?_) (fun hh=>?_)
     .exact ⟨rfl,_,rfl⟩
     .exact ⟨rfl,_,rfl⟩
    obtain ⟨D,b,rfl⟩:=hz;subst D;refine Q4 (fun hh=>?_) (fun hh=>?_)
    .exact .mk f
    refine Q4 (fun hh=>?_) (fun hh=>?_)
    .exact .mk f
    refine ld e g rfl ?_;refine Q7T i.s p fun w4 r=>?_
    by_cases N:(Jc i.s).2.2=true
    .simp only[N,if_true,↓M1,M1,Mb,reduceIte]
     exact .mk (f.trans (Stp.of_below e r))
    .simp only[N,if_false,↓M1,M1,Mb,reduceIte]
     exact .mk (f.trans (Stp.of_below e r))
   .obtain ⟨m,u,rfl⟩:=W
    have E:=v w' m u
    (try simp only[↓M1,M1,Mb,reduceIte] at E⊢)
    exact E
  | true=>
   have v:=fun c w' m u t=>o true c w' m B u t;clear o;simp only[H,↓M1,M1,Mb,reduceIte];refine Yu (JB w σ (txt i.op i.s)) ?_ (fun x d w' W=>?_)
   .refine ld e g rfl ?_
    (try simp only[↓M1,M1,Mb,reduceIte])
    unfold txt
    by_cases o1:i.op=[119,111,114,100]
    .simp only[if_pos o1,decide_eq_true o1,↓M1,M1,Mb,reduceIte]
     refine ld e g rfl ?_
     (try simp only[↓M1,M1,Mb,reduceIte])
     have ad:decide ((i.s.length:Int)<=64)=decide (i.s.length<=64):=by rw[Bool.eq_iff_iff,decide_eq_true_eq,decide_eq_true_eq];omega
     rw[ad,X9v,List.not_any_eq_all_not];cases ao:decide (i.s.length<=64) with
     | false=>
      (try simp only[↓M1,M1,Mb,reduceIte])
      refine C4 (a:=Value.bool false) i.s.length (fun n x w'=>w'=w2/\x=Value.bool false) ⟨rfl,rfl⟩ fun n x w3 d hn l=>?_;obtain ⟨D,rfl⟩:=l;subst D
      (try simp only[↓M1,M1,Mb,reduceIte])
      refine ld e g rfl ?_
      (try simp only[↓M1,M1,Mb,reduceIte])
      refine Q4 (fun t=>?_) (fun t=>?_)
      .have j:n<i.s.length:=by simpa using t
       (try simp only[↓M1,M1,Mb,reduceIte])
       exact V2 Q5 j ⟨rfl,rfl⟩
      .exact .of f U5
     | true=>
      (try simp only[↓M1,M1,Mb,reduceIte])
      refine ld e g rfl ?_;refine Q7V h3 e fun w4 r=>?_;have J:=Stp.of_below e r;have R:=g.up J;have V:=J.sat;have A:=f.trans J
      (try simp only[↓M1,M1,Mb,reduceIte])
      refine C4 (a:=Value.bool (Lib.validD i.s)) i.s.length (fun n x w'=>w'=w4/\x=Value.bool (Lib.validD i.s&&(i.s.take n).all fun c=> !decide (c=10))) ⟨rfl,by simp⟩ fun n x w3 d hn l=>?_
      obtain ⟨D,rfl⟩:=l;subst D
      (try simp only[↓M1,M1,Mb,reduceIte])
      refine ld V R rfl ?_
      (try simp only[↓M1,M1,Mb,reduceIte])
      refine Q4 (fun t=>?_) (fun t=>?_)
      .have j:n<i.s.length:=by simpa using t
       have L:(Lib.validD i.s&&(i.s.take (n+1)).all fun c=> !decide (c=10))=((Lib.validD i.s&&(i.s.take n).all fun c=> !decide (c=10))&& !decide (i.s[n]=10)):=by rw[Ma j,Bool.and_assoc]
       generalize aj:(Lib.validD i.s&&(i.s.take n).all fun c=> !decide (c=10))=ab at L⊢;cases ab with
       | false=>(try simp only[↓M1,M1,Mb,reduceIte]);exact V2 Q5 j ⟨rfl,by rw[L];rfl⟩
       | true=>
        (try simp only[↓M1,M1,Mb,reduceIte])
        refine ld V R rfl ?_;refine Re j ?_;simp only[X7D j,↓M1,M1,Mb,reduceIte];exact V2 Q5 j ⟨rfl,by rw[L];rfl⟩
      .have j: ¬n<i.s.length:=by simpa using t
       rw[List.take_of_length_le Q5];exact .of A U5
    .simp only[if_neg o1,decide_eq_false o1,↓M1,M1,Mb,reduceIte]
     by_cases o2:i.op=[110,101,119]
     .simp only[if_pos o2,decide_eq_true o2,↓M1,M1,Mb,reduceIte]
      refine ld e g rfl ?_;refine Ui i.s p ?_
      (try simp only[↓M1,M1,Mb,reduceIte])
      exact .mk f
     .simp only[if_neg o2,decide_eq_false o2,↓M1,M1,Mb,reduceIte]
      refine Yu (fun x w'=>w'=w2/\x=Value.bool (decide (i.op=[105,115]\/i.op=[99,97,115,116]))) ?_ (fun z d w' hz=>?_)
      .refine Q4 (fun hh=>?_) (fun hh=>?_)
       .exact ⟨rfl,by simp_all⟩
       .exact ⟨rfl,by simp_all⟩
      obtain ⟨D,rfl⟩:=hz;subst D
      by_cases Y:i.op=[105,115]\/i.op=[99,97,115,116]
      .simp only[if_pos Y,decide_eq_true Y,↓M1,M1,Mb,reduceIte]
       refine ld e g rfl ?_;refine Lw i.s p ?_;cases hr:right i.s with
       | false=>(try simp only[↓M1,M1,Mb,reduceIte]);exact .mk f
       | true=>
        (try simp only[↓M1,M1,Mb,reduceIte])
        refine ld e g rfl ?_;refine Bk i.s ?_
        (try simp only[↓M1,M1,Mb,reduceIte])
        exact .mk f
      .simp only[if_neg Y,decide_eq_false Y,↓M1,M1,Mb,reduceIte]
       by_cases Z:i.op=[97,114,114,97,121]
       .simp only[if_pos Z,decide_eq_true Z,↓M1,M1,Mb,reduceIte]
        refine ld e g rfl ?_;refine Lw i.s p ?_;cases hr:right i.s with
        | false=>(try simp only[↓M1,M1,Mb,reduceIte]);exact .mk f
        | true=>
         (try simp only[↓M1,M1,Mb,reduceIte])
         refine ld e g rfl ?_;refine Kf i.s p ?_
         (try simp only[↓M1,M1,Mb,reduceIte])
         have e3:decide (((base i.s).2:Int)<3)=decide (Jp i.s<3):=by
          unfold Jp;rw[if_pos hr,Bool.eq_iff_iff,decide_eq_true_eq,decide_eq_true_eq];omega
         rw[e3];exact .mk f
       .simp only[if_neg Z,decide_eq_false Z,↓M1,M1,Mb,reduceIte]
        refine ld e g rfl ?_;refine Q7T i.s p fun w4 r=>?_;have A:=f.trans (Stp.of_below e r)
        by_cases N:(Jc i.s).2.2=true
        .simp only[N,if_true,↓M1,M1,Mb,reduceIte]
         exact .mk A
        .have:Vn i.s=false:=by unfold Vn;rw[eq_false_of_ne_true N];rfl
         simp only[N,if_false,↓M1,M1,Mb,reduceIte];exact .of A this.symm
   .obtain ⟨m,u,rfl⟩:=W
    have E:=v _ w' m u rfl;simp only[Bool.true_and] at E
    (try simp only[↓M1,M1,Mb,reduceIte])
    exact E)
end Go.Proofs.Y
namespace Go.Emb
theorem X7t {w:World} {K:Value->World->Prop} {v:Value} (h:K v w):Q1 (.bool true) true w (fun w J=>J v w) K:=by rw[V9];exact h
theorem X7s {w:World} {K:Value->World->Prop} {v:Value} (h:K v w):Q1 (.bool false) false w (fun w J=>J v w) K:=by rw[D2];exact h
theorem X8x {w:World} {K:Value->World->Prop} {b:Bool} {run:World->(Value->World->Prop)->Prop} (h:K undef w):Q1 undef b w run K:=by rw[F2];exact h
class Hd (p : Prop) (q : outParam Prop) : Prop where
  h : q -> p
variable {P : Program} {w : World} {K : Value -> World -> Prop} {run : World -> (Value -> World -> Prop) -> Prop} {v u : Value} {b : Bool}
instance:Hd (W0 P .not (.bool b) w K) (K (.bool (!b)) w):=⟨Zv⟩
instance:Hd (Q1 undef b w run K) (K undef w):=⟨X8x⟩
instance {t:TypeId} {k off:Nat} {ft:TypeId} {sz by_:Nat} {z:Value} {a:Addr} [tf:TF P t k off ft] [tz:TZ P ft sz by_ z] [nz:NZ sz]:Hd (fieldAddr P t (.pointer (some a)) k w K) (K (.pointer (some (a.add off))) w):=⟨J4⟩
instance:Hd (pick P (.bool false) v u w K) (K u w):=⟨X7w⟩
instance:Hd (pick P (.bool true) v u w K) (K v w):=⟨X7x⟩
instance:Hd (Q1 (.bool false) false w run K) (run w K):=⟨X8v⟩
instance:Hd (Q1 (.bool true) true w run K) (run w K):=⟨X8w⟩
instance:Hd (Q1 (.bool false) true w run K) (K undef w):=⟨X7r⟩
instance:Hd (Q1 (.bool true) false w run K) (K undef w):=⟨X7u⟩
instance:Hd (Q1 (.bool false) false w (fun w J=>J v w) K) (K v w):=⟨X7s⟩
instance:Hd (Q1 (.bool true) true w (fun w J=>J v w) K) (K v w):=⟨X7t⟩
end Go.Emb
namespace Go.Proofs.Y
open Go.Emb Go.RowKit Go.Kd Go.Hm
variable {w : World} {K : Value -> World -> Prop} {σ : Q2}
theorem X7e {xs:List Ins} {v:Value} (p:X7 w σ) (o:Sl 3 Ze σ v xs) (h: ∀e w' m,Stp w σ w' m->decide (e=0)=xs.all (fun i=>decide (F7 i=0))->K (I e) w'):Q0 P F.b2 [v] w K:=Q3s (by
 unfold Cv V1 V3 Y0 X4 X5;refine V7 xs.length (fun n w'=> ∃m,Stp w σ w' m/\(xs.take n).all (fun i=>decide (F7 i=0))=true) ⟨σ,Stp.refl p,rfl⟩ fun n w1 d y j=>?_;obtain ⟨σ1,a,f⟩:=j;have g:=o.up a;refine Q7 g ?_;refine J0 ?_;refine Q4 (fun l=>?_) (fun l=>?_)
 .have c:n<xs.length:=by simpa using l
  refine Z1 g c ?_;obtain ⟨r,s⟩:=g.elI c;refine Y7 a.sat r rfl ?_;refine X2N a.sat s fun z t k=>?_;refine P8 ?_
  by_cases e:F7 xs[n]=0
  .have:decide (F7 xs[n]=0)=true:=by simpa using e
   simp only[this,↓M1,M1,Mb,reduceIte];exact Z5 o.max c ⟨t,a.trans k,by rw[Ma c,f];simpa using e⟩
  .have:decide (F7 xs[n]=0)=false:=by simpa using e
   simp only[this,↓M1,M1,Mb,reduceIte];refine h _ _ _ (a.trans k) ?_;rw[this]
   symm
   rw[<-Bool.not_eq_true,List.all_eq_true];intro q;have:=q _ (List.getElem_mem c)
   simp at this
   exact e this
 .have c: ¬n<xs.length:=by simpa using l
  rw[List.take_of_length_le Q5] at f;exact h 0 _ _ a (by rw[f];rfl))
theorem X5x {c:Cla} {cs:List Value} (hs:X7 w σ) (hc:M8 σ c cs) (h: ∀w' σ',Stp w σ w' σ'->K (.bool (Vt c)) w'):Q0 P F.bK [.agg cs.toArray] w K:=Q2k (by
 unfold Rv;simp only[N0];unfold Z8 Y1 V1 V3 Y0 X4 X5;obtain ⟨lv,fv,mv,rfl,f1,f2,f3,f4,f5⟩:=hc;refine Z4 hs fun q w1 σ1 hk1 hq=>?_;have f1:=f1.up hk1;have f2:=f2.up hk1;have f3:=f3.up hk1;refine V7 c.methods.length (fun n w'=> ∃σ',Stp w1 σ1 w' σ'/\(c.methods.take n).any Og=false) ⟨σ1,Stp.refl hk1.sat,rfl⟩ fun n w2 d hn hinv=>?_;obtain ⟨σ2,hk2,hno⟩:=hinv;have hq2:=hq.up hk2;have f32:=f3.up hk2;have f12:=f1.up hk2;have f22:=f2.up hk2;have hs2:=hk2.sat
 (try simp only[↓M1,M1,Mb,reduceIte])
 refine ld hs2 hq2 rfl ?_;refine Q7 f32 ?_;refine J0 ?_;refine Q4 (fun hc=>?_) (fun hc=>?_)
 .have hn':n<c.methods.length:=by simpa using hc
  (try simp only[↓M1,M1,Mb,reduceIte])
  refine ld hs2 hq2 rfl ?_;refine Z1 f32 hn' ?_;obtain ⟨pv,cv,hv,p1,r1⟩:=f32.elM hn';refine Y7 hs2 p1 rfl ?_;refine J6 hs2 (by rfl) rfl (Rep.one r1) fun q3 w3 σ3 hk3 hq3=>?_
  obtain ⟨g1,g2,g3,_,_,_⟩:=(RMe_lift r1 ⟨hk3.le⟩).parts;have hS3:=hk1.trans (hk2.trans hk3)
  have hyes:Og c.methods[n]=true->K (.bool true) w3:=fun e=>by
   have:=h _ _ hS3;have hm:Vt c=true:=by unfold Vt;rw[K2 hn' e];rfl
   rwa [hm] at this
  have hk23:=hk2.trans hk3;clear h hk2 hk3 hS3;have hmax:=f3.max
  (repeat' (first | (with_reducible intro _) | (with_reducible refine M9 ?_) | (simp only[↓M2,M2,Mb,reduceIte]) | (with_reducible first | refine ld aS aL aR ?_ | refine Y6 aS aL aR ?_ | refine Y7 aS aL aR ?_ | refine Q7 aL ?_ | refine W2 aR ?_ | refine Z4 aS ?_ | refine S1 aS aL ?_ | refine L8 aS aR ?_ | refine J6 aS aR aR (Rep.one Q9) ?_ | refine L1 aS aR aR aR ?_ | (refine V4 (fun hh=>?_) (fun hh=>?_)<;>(try simp only[hh,Bool.not_true,Bool.not_false,↓M2,M2,Mb,reduceIte])) | (refine Q4 (fun hh=>?_) (fun hh=>?_)<;>(try simp only[hh,Bool.not_true,Bool.not_false,↓M2,M2,Mb,reduceIte])))))
  all_goals clear hq hq2 f1 f2 f3 f32 f12 f22 hs hs2 p1 r1 g1 g2 g3 hk1 f4 f5 hq3
  all_goals first
   | (refine hyes ?_;clear hyes hk23;unfold Og;simp only[Bool.not_false,Bool.not_true,Bool.or_eq_true,decide_eq_true_eq,decide_eq_false_iff_not] at*;omega)
   | (
    have hnx:(c.methods.take (n+1)).any Og=false:=by
     rw[E7 hn',hno,Bool.false_or];clear hyes hk23;unfold Og;simp only[Bool.or_eq_false_iff,decide_eq_false_iff_not] at*;omega
    exact Z5 hmax hn' ⟨_,hk23,hnx⟩)
 .have hn': ¬n<c.methods.length:=by simpa using hc
  rw[B4 hn'] at hno;have hS2:=hk1.trans hk2;have hm:Vt c=(decide (32<c.like.length)||decide (32<c.fields.length)||decide (32<c.methods.length)):=by unfold Vt;rw[hno];simp
  rw[hm] at h;have hK:=h _ _ hS2;clear h hk2
  (try simp only[↓M1,M1,Mb,reduceIte])
  refine ld hs2 hq2 rfl ?_;refine Q7 f12 ?_;have d32: ∀k:Nat,decide ((32:Int)<(k:Int))=decide (32<k):=fun k=>by rw[Bool.eq_iff_iff,decide_eq_true_eq,decide_eq_true_eq];omega
  simp only[d32,↓M1,M1,Mb,reduceIte];cases e1:decide (32<c.like.length) with
  | true=>rw[e1] at hK;(try simp only[↓M1,M1,Mb,reduceIte]);simpa using hK
  | false=>
   rw[e1] at hK
   (try simp only[↓M1,M1,Mb,reduceIte])
   refine ld hs2 hq2 rfl ?_;refine Q7 f22 ?_;simp only[d32,↓M1,M1,Mb,reduceIte];cases e2:decide (32<c.fields.length) with
   | true=>rw[e2] at hK;(try simp only[↓M1,M1,Mb,reduceIte]);simpa using hK
   | false=>
    rw[e2] at hK
    (try simp only[↓M1,M1,Mb,reduceIte])
    refine ld hs2 hq2 rfl ?_;refine Q7 f32 ?_;simp only[d32,↓M1,M1,Mb,reduceIte]
    simpa using hK)
theorem X18 {α:Type} {xs:List α} {p:α->Bool} {n:Nat} (h: ¬n<xs.length):(xs.take n).all p=xs.all p:=by rw[List.take_of_length_le Q5]
set_option maxHeartbeats 4000000 in
theorem Q3b {m:Hm.Met} {pv cv hv:Value} {w1:World} {σ1:Q2} {q:Addr} {z:Bool} (hs:X7 w σ) (ag:Stp w σ w1 σ1) (hq:J7 σ1 q [S m.name,pv,S m.result, .bool m.abs,I m.locals,cv,hv]) (g1:Sl 1 M7 σ1 pv m.params) (g2:Sl 3 Ze σ1 cv m.code) (g3:Sl 4 Wq σ1 hv m.catches)
 (h: ∀w' U,Stp w σ w' U->K (.bool ((z&&m.params.all right)&&if m.abs then decide (m.locals=0)&&decide (m.code=[])&&decide (m.catches=[])
  else decide (m.code≠[])&&decide ((m.params.length:Int)<m.locals)&&m.code.all (fun i=>decide (F7 i=0))&&m.catches.all (Qw m.code.length))) w'):
 lp (α:=Value×Value) (Value.bool z,(.int .i64 0)) w1 fun V C d_ w=>
  fieldAddr P T.e (.pointer (some q)) 1 w fun bp w=>
  Q6 P T.h bp w fun bq w=>
  V0 P .len [T.h] T.f [false] [bq] w fun br w=>
  Z9 P .lss T.f (.tmp 21) (.tmp 24) C.2 br w fun bs w=>
  X1 bs (
   Q1 C.1 true w (fieldAddr P T.e (.pointer (some q)) 1) fun bv w=>
   Q1 C.1 true w (Q6 P T.h bv) fun bw w=>
   Q1 C.1 true w (fun w J=>J C.2 w) fun bx w=>
   Q1 C.1 true w (indexAddr P T.h bw bx) fun bz w=>
   Q1 C.1 true w (Q6 P T.b bz) fun b0 w=>
   Q1 C.1 true w (Q0 P F.f [b0]) fun b1 w=>
   pick P C.1 b1 (.bool false) w fun b2 w=>
   Z9 P .add T.f (.tmp 26) (.const (.int .i64 1)) C.2 (.int .i64 1) w fun bu w=>
   V (b2,bu) w) (
   fieldAddr P T.e (.pointer (some q)) 3 w fun b3 w=>
   Q6 P T.r b3 w fun b4 w=>
   X1 b4 (
    Q1 C.1 true w (fieldAddr P T.e (.pointer (some q)) 4) fun b5 w=>
    Q1 C.1 true w (Q6 P T.f b5) fun b6 w=>
    Q1 C.1 true w (Z9 P .eql T.f (.tmp 42) (.const (.int .i64 0)) b6 (.int .i64 0)) fun b7 w=>
    pick P C.1 b7 (.bool false) w fun N w=>
    Q1 N true w (fieldAddr P T.e (.pointer (some q)) 5) fun b8 w=>
    Q1 N true w (Q6 P T.s b8) fun b9 w=>
    Q1 N true w (V0 P .len [T.s] T.f [false] [b9]) fun ca w=>
    Q1 N true w (Z9 P .eql T.f (.tmp 48) (.const (.int .i64 0)) ca (.int .i64 0)) fun cb w=>
    pick P N cb (.bool false) w fun O w=>
    Q1 O true w (fieldAddr P T.e (.pointer (some q)) 6) fun cc w=>
    Q1 O true w (Q6 P T.u cc) fun cd w=>
    Q1 O true w (V0 P .len [T.u] T.f [false] [cd]) fun ce w=>
    Q1 O true w (Z9 P .eql T.f (.tmp 54) (.const (.int .i64 0)) ce (.int .i64 0)) fun cf w=>
    pick P O cf (.bool false) w fun cg w=>
    K cg w) (
    fieldAddr P T.e (.pointer (some q)) 5 w fun ch w=>
    Q6 P T.s ch w fun ci w=>
    V0 P .len [T.s] T.f [false] [ci] w fun ah w=>
    lp (α:=Value×Value) (C.1,(.int .i64 0)) w fun L j d_ w=>
     fieldAddr P T.e (.pointer (some q)) 6 w fun cj w=>
     Q6 P T.u cj w fun ck w=>
     V0 P .len [T.u] T.f [false] [ck] w fun cl w=>
     Z9 P .lss T.f (.tmp 60) (.tmp 63) j.2 cl w fun cm w=>
     X1 cm (
      fieldAddr P T.e (.pointer (some q)) 6 w fun co w=>
      Q6 P T.u co w fun cp w=>
      indexAddr P T.u cp j.2 w fun cq w=>
      Q6 P T.w cq w fun cr w=>
      G9 P T.w w fun t7 w=>
      J9 P T.w t7 cr w fun _u w=>
      Q1 j.1 true w (fieldAddr P T.w t7 0) fun cs w=>
      Q1 j.1 true w (Q6 P T.f cs) fun ct w=>
      Q1 j.1 true w (Z9 P .geq T.f (.tmp 75) (.const (.int .i64 0)) ct (.int .i64 0)) fun cu w=>
      pick P j.1 cu (.bool false) w fun H w=>
      Q1 H true w (fieldAddr P T.w t7 0) fun cw w=>
      Q1 H true w (Q6 P T.f cw) fun cx w=>
      Q1 H true w (fieldAddr P T.w t7 1) fun cy w=>
      Q1 H true w (Q6 P T.f cy) fun cz w=>
      Q1 H true w (Z9 P .lss T.f (.tmp 80) (.tmp 82) cx cz) fun c3 w=>
      pick P H c3 (.bool false) w fun Q w=>
      Q1 Q true w (fieldAddr P T.w t7 1) fun c4 w=>
      Q1 Q true w (Q6 P T.f c4) fun c5 w=>
      Q1 Q true w (fun w J=>J ah w) fun c6 w=>
      Q1 Q true w (Z9 P .leq T.f (.tmp 87) (.tmp 88) c5 c6) fun c7 w=>
      pick P Q c7 (.bool false) w fun aa w=>
      Q1 aa true w (fieldAddr P T.w t7 2) fun c8 w=>
      Q1 aa true w (Q6 P T.f c8) fun c9 w=>
      Q1 aa true w (Z9 P .geq T.f (.tmp 93) (.const (.int .i64 0)) c9 (.int .i64 0)) fun da w=>
      pick P aa da (.bool false) w fun R w=>
      Q1 R true w (fieldAddr P T.w t7 2) fun db w=>
      Q1 R true w (Q6 P T.f db) fun dc w=>
      Q1 R true w (fun w J=>J ah w) fun dd w=>
      Q1 R true w (Z9 P .lss T.f (.tmp 98) (.tmp 99) dc dd) fun av w=>
      pick P R av (.bool false) w fun D w=>
      Q1 D true w (fieldAddr P T.w t7 3) fun aw w=>
      Q1 D true w (Q6 P T.b aw) fun ax w=>
      Q1 D true w (Q0 P F.e [ax]) fun ay w=>
      pick P D ay (.bool false) w fun az w=>
      Z9 P .add T.f (.tmp 65) (.const (.int .i64 1)) j.2 (.int .i64 1) w fun cn w=>
      L (az,cn) w) (
      Q1 j.1 true w (fun w J=>J ah w) fun a0 w=>
      Q1 j.1 true w (Z9 P .gtr T.f (.tmp 109) (.const (.int .i64 0)) a0 (.int .i64 0)) fun a1 w=>
      pick P j.1 a1 (.bool false) w fun g w=>
      Q1 g true w (fieldAddr P T.e (.pointer (some q)) 4) fun a2 w=>
      Q1 g true w (Q6 P T.f a2) fun a3 w=>
      Q1 g true w (fieldAddr P T.e (.pointer (some q)) 1) fun a4 w=>
      Q1 g true w (Q6 P T.h a4) fun a5 w=>
      Q1 g true w (V0 P .len [T.h] T.f [false] [a5]) fun a6 w=>
      Q1 g true w (Z9 P .gtr T.f (.tmp 114) (.tmp 117) a3 a6) fun a7 w=>
      pick P g a7 (.bool false) w fun A w=>
      Q1 A true w (fieldAddr P T.e (.pointer (some q)) 5) fun a8 w=>
      Q1 A true w (Q6 P T.s a8) fun a9 w=>
      Q1 A true w (Q0 P F.b2 [a9]) fun ba w=>
      Q1 A true w (Z9 P .eql T.v (.tmp 123) (.const (.int .i64 0)) ba (.int .i64 0)) fun bb w=>
      pick P A bb (.bool false) w fun bc w=>
      K bc w))):=by
 have bn:=ag.sat;have c0:decide ((m.code.length:Int)=0)=decide (m.code=[]):=by cases m.code<;>simp;omega
 have c1:decide ((m.catches.length:Int)=0)=decide (m.catches=[]):=by cases m.catches<;>simp;omega
 have c2:decide ((0:Int)<m.code.length)=decide (m.code≠[]):=by cases m.code<;>simp
 refine C4 (a:=Value.bool z) m.params.length (fun n x w'=> ∃U,Stp w1 σ1 w' U/\x=Value.bool (z&&(m.params.take n).all right)) ⟨σ1,Stp.refl bn,by simp⟩ fun n x w2 d hn M=>?_
 obtain ⟨σ2,k,rfl⟩:=M;have l:=hq.up k;have W:=g1.up k;have o:=k.sat
 (try simp only[↓M1,M1,Mb,reduceIte])
 refine ld o l rfl ?_;refine Q7 W ?_;refine J0 ?_;refine Q4 (fun hc=>?_) (fun hc=>?_)
 .have c:n<m.params.length:=by simpa using hc
  have s:(z&&(m.params.take (n+1)).all right)=((z&&(m.params.take n).all right)&&right m.params[n]):=by rw[Ma c,Bool.and_assoc]
  generalize (z&&(m.params.take n).all right)=f at s⊢;cases f with
  | false=>(try simp only[↓M1,M1,Mb,reduceIte]);exact V2 g1.max c ⟨σ2,k,by rw[s];rfl⟩
  | true=>
   (try simp only[↓M1,M1,Mb,reduceIte])
   refine ld o l rfl ?_
   (try simp only[↓M1,M1,Mb,reduceIte])
   refine Z1 W c ?_;obtain ⟨p1,p2⟩:=W.elS c;refine Y6 o p1 rfl ?_;refine Lw _ (by simp only[W6] at p2;omega) ?_
   (try simp only[↓M1,M1,Mb,reduceIte])
   exact V2 g1.max c ⟨σ2,k,by rw[s];rfl⟩
 .have c: ¬n<m.params.length:=by simpa using hc
  rw[X18 c];have ak:=ag.trans k;have af:=g2.up k;have X:=g3.up k;clear ag k hq g1 g2 g3 hn hc;generalize (z&&m.params.all right)=f at h⊢;refine ld o l rfl ?_;cases al:m.abs with
  | true=>
   simp only[al,if_true] at h;have hK:=h _ _ ak;clear h
   (try simp only[↓M1,M1,Mb,reduceIte])
   cases f with
   | false=>(try simp only[↓M1,M1,Mb,reduceIte]);simpa using hK
   | true=>
    (try simp only[↓M1,M1,Mb,reduceIte])
    refine ld o l rfl ?_
    (try simp only[↓M1,M1,Mb,reduceIte])
    cases aq:decide (m.locals=0) with
    | false=>rw[aq] at hK;(try simp only[↓M1,M1,Mb,reduceIte]);simpa using hK
    | true=>
     rw[aq] at hK
     (try simp only[↓M1,M1,Mb,reduceIte])
     refine ld o l rfl ?_;refine Q7 af ?_;simp only[c0,↓M1,M1,Mb,reduceIte];cases am:decide (m.code=[]) with
     | false=>rw[am] at hK;(try simp only[↓M1,M1,Mb,reduceIte]);simpa using hK
     | true=>
      rw[am] at hK
      (try simp only[↓M1,M1,Mb,reduceIte])
      refine ld o l rfl ?_;refine Q7 X ?_;simp only[c1,↓M1,M1,Mb,reduceIte]
      simpa using hK
  | false=>
   simp only[al,Bool.false_eq_true,if_false] at h
   (try simp only[↓M1,M1,Mb,reduceIte])
   refine ld o l rfl ?_;refine Q7 af ?_;refine C4 (a:=Value.bool f) m.catches.length (fun n x w'=> ∃U,Stp w2 σ2 w' U/\x=Value.bool (f&&(m.catches.take n).all (Qw m.code.length))) ⟨σ2,Stp.refl o,by simp⟩ fun n x w4 d hn M=>?_
   obtain ⟨σ4,r,rfl⟩:=M;have E:=l.up r;have Y:=X.up r;have y:=r.sat
   (try simp only[↓M1,M1,Mb,reduceIte])
   refine ld y E rfl ?_;refine Q7 Y ?_;refine J0 ?_;refine Q4 (fun hc=>?_) (fun hc=>?_)
   .have c:n<m.catches.length:=by simpa using hc
    have s:(f&&(m.catches.take (n+1)).all (Qw m.code.length))=((f&&(m.catches.take n).all (Qw m.code.length))&&Qw m.code.length m.catches[n]):=by rw[Ma c,Bool.and_assoc]
    generalize (f&&(m.catches.take n).all (Qw m.code.length))=bh at s⊢
    (try simp only[↓M1,M1,Mb,reduceIte])
    refine ld y E rfl ?_;refine Z1 Y c ?_;obtain ⟨p1,r1⟩:=Y.elK c;have an:m.catches[n].cls.length<=140737488355328:=by have:=r1.2.2.2.2;simp only[W6] at this;omega
    refine Y7 y p1 rfl ?_;refine J6 y (by rfl) rfl (Rep.one r1) fun q5 w5 σ5 ap t=>?_
    have B:=ap.sat;have ad:=r.trans ap;cases bh with
    | false=>(try simp only[↓M1,M1,Mb,reduceIte]);exact V2 X.max c ⟨σ5,ad,by rw[s];rfl⟩
    | true=>
     have p: ∀b,Qw m.code.length m.catches[n]=b->Py m.catches.length (fun n x w'=> ∃U,Stp w2 σ2 w' U/\x=Value.bool (f&&(m.catches.take n).all (Qw m.code.length))) (Value.bool b, .int .i64 (IntKind.i64.wrap (n+1))) w5/\Dv m.catches.length (Value.bool b, .int .i64 (IntKind.i64.wrap (n+1)))<Dv m.catches.length (Value.bool true,I n):=fun b e=>V2 X.max c ⟨σ5,ad,by rw[s,e];rfl⟩
     unfold Qw at p;generalize m.catches[n]=x at t p an;clear s p1 r1 E l Y h
     (try simp only[↓M1,M1,Mb,reduceIte])
     refine ld B t rfl ?_
     (try simp only[↓M1,M1,Mb,reduceIte])
     cases d1:decide (0<=x.frm) with
     | false=>(try simp only[↓M1,M1,Mb,reduceIte]);exact p _ (by simp[d1])
     | true=>
     (try simp only[↓M1,M1,Mb,reduceIte])
     refine ld B t rfl ?_
     (try simp only[↓M1,M1,Mb,reduceIte])
     refine ld B t rfl ?_
     (try simp only[↓M1,M1,Mb,reduceIte])
     cases d2:decide (x.frm<x.to) with
     | false=>(try simp only[↓M1,M1,Mb,reduceIte]);exact p _ (by simp[d1,d2])
     | true=>
     (try simp only[↓M1,M1,Mb,reduceIte])
     refine ld B t rfl ?_
     (try simp only[↓M1,M1,Mb,reduceIte])
     cases d3:decide (x.to<=(m.code.length:Int)) with
     | false=>(try simp only[↓M1,M1,Mb,reduceIte]);exact p _ (by simp[d1,d2,d3])
     | true=>
     (try simp only[↓M1,M1,Mb,reduceIte])
     refine ld B t rfl ?_
     (try simp only[↓M1,M1,Mb,reduceIte])
     cases d4:decide (0<=x.at_) with
     | false=>(try simp only[↓M1,M1,Mb,reduceIte]);exact p _ (by simp[d1,d2,d3,d4])
     | true=>
     (try simp only[↓M1,M1,Mb,reduceIte])
     refine ld B t rfl ?_
     (try simp only[↓M1,M1,Mb,reduceIte])
     cases d5:decide (x.at_<(m.code.length:Int)) with
     | false=>(try simp only[↓M1,M1,Mb,reduceIte]);exact p _ (by simp[d1,d2,d3,d4,d5])
     | true=>
     (try simp only[↓M1,M1,Mb,reduceIte])
     refine ld B t rfl ?_;refine Ui x.cls an ?_
     (try simp only[↓M1,M1,Mb,reduceIte])
     exact p _ (by simp[d1,d2,d3,d4,d5])
   .have c: ¬n<m.catches.length:=by simpa using hc
    rw[X18 c];have Z:=ak.trans r;have bl:=af.up r;have bk:=W.up r
    have hh: ∀w' U,Stp w σ w' U->K (.bool ((f&&m.catches.all (Qw m.code.length))&&(decide (m.code≠[])&&decide ((m.params.length:Int)<m.locals)&&m.code.all (fun i=>decide (F7 i=0))))) w':=by
     intro w' U hk;have:=h w' U hk;refine Eq.subst (motive:=fun b=>K (.bool b) w') ?_ this;cases f<;>cases m.catches.all (Qw m.code.length)<;>simp
    clear h r;generalize (f&&m.catches.all (Qw m.code.length))=bi at hh⊢;cases bi with
    | false=>(try simp only[↓M1,M1,Mb,reduceIte]);simpa using hh _ _ Z
    | true=>
     (try simp only[↓M1,M1,Mb,reduceIte])
     simp only[c2,↓M1,M1,Mb,reduceIte];cases ao:decide (m.code≠[]) with
     | false=>rw[ao] at hh;(try simp only[↓M1,M1,Mb,reduceIte]);simpa using hh _ _ Z
     | true=>
      rw[ao] at hh
      (try simp only[↓M1,M1,Mb,reduceIte])
      refine ld y E rfl ?_
      (try simp only[↓M1,M1,Mb,reduceIte])
      refine ld y E rfl ?_;refine Q7 bk ?_
      (try simp only[↓M1,M1,Mb,reduceIte])
      cases ar:decide ((m.params.length:Int)<m.locals) with
      | false=>rw[ar] at hh;(try simp only[↓M1,M1,Mb,reduceIte]);simpa using hh _ _ Z
      | true=>
       rw[ar] at hh
       (try simp only[↓M1,M1,Mb,reduceIte])
       refine ld y E rfl ?_;refine X7e y bl fun e w6 σ6 bm he=>?_;simp only[he,↓M1,M1,Mb,reduceIte]
       simpa using hh _ _ (Z.trans bm)
set_option maxRecDepth 9999 in
set_option maxHeartbeats 2000000 in
theorem X2Q {m:Hm.Met} {cs:List Value} (n:X7 w σ) (D:F5 σ m cs) (h: ∀w' E,Stp w σ w' E->K (.bool (Xu m)) w'):Q0 P F.a9 [.agg cs.toArray] w K:=Q01 (by
 unfold Dj;simp only[N0];unfold Z8 zhi Y1 V1 X6 Y0 X4 V5 X5;obtain ⟨pv,H,L,rfl,y,z,A,B,C,J⟩:=D;have o:m.name.length<=140737488355328:=by simp only[W6] at B;omega
 have p:m.result.length<=140737488355328:=by simp only[W6] at C;omega
 refine Z4 n fun q w1 σ1 a g=>?_;have r:=y.up a;have s:=z.up a;have t:=A.up a;have f:=a.sat;obtain ⟨d,c⟩: ∃b,b=(B3 m.name&&(decide (m.result=[])||right m.result)):=⟨_,rfl⟩
 have k:Xu m=((d&&m.params.all right)&&if m.abs then decide (m.locals=0)&&decide (m.code=[])&&decide (m.catches=[])
  else decide (m.code≠[])&&decide ((m.params.length:Int)<m.locals)&&m.code.all (fun i=>decide (F7 i=0))&&m.catches.all (Qw m.code.length)):=by
  rw[c];unfold Xu;cases B3 m.name<;>cases m.params.all right<;>cases decide (m.result=[])<;>cases right m.result<;>rfl
 rw[k] at h;clear k
 (repeat refine Hd.h ?_)
 refine ld f g rfl ?_;refine Q1x m.name o ?_;cases e:B3 m.name with
 | false=>
  have j:d=false:=by rw[c,e];rfl
  (repeat refine Hd.h ?_)
  refine Eq.subst (motive:=fun b=>lp (α:=Value×Value) (Value.bool b, .int .i64 0) w1 _) j ?_;exact Q3b n a g r s t h
 | true=>
  (repeat refine Hd.h ?_)
  refine ld f g rfl ?_
  (repeat refine Hd.h ?_)
  refine Qu ?_;cases l:decide (m.result=[]) with
  | true=>
   have j:d=true:=by rw[c,e,l];rfl
   (repeat refine Hd.h ?_)
   refine Eq.subst (motive:=fun b=>lp (α:=Value×Value) (Value.bool b, .int .i64 0) w1 _) j ?_;exact Q3b n a g r s t h
  | false=>
   (repeat refine Hd.h ?_)
   refine ld f g rfl ?_
   (repeat refine Hd.h ?_)
   refine Lw m.result p ?_;have j:d=right m.result:=by rw[c,e,l];rfl
   (repeat refine Hd.h ?_)
   refine Eq.subst (motive:=fun b=>lp (α:=Value×Value) (Value.bool b, .int .i64 0) w1 _) j ?_;exact Q3b n a g r s t h)
end Go.Proofs.Y
namespace Go.Emb
theorem X29 {P:Program} {f:Value} {a:List Value} {w:World} {K b:Value->World->Prop} (h:U7 P f a w K) (c: ∀v w,K v w->b v w):U7 P f a w b:=Sv c h
end Go.Emb
namespace Go.Hm
open Go.Kd
variable {l : List Cla} {cs : List Cel} {r : Int}
def Yk (cs:List Cel) (r:Int):Nat:=(Lx cs r).toNat
def N1 (l:List Cla) (cs:List Cel) (r:Int):List Nat:=(List.range (Yk cs r)).filter (K6 l (L5 cs r))
theorem X4s:Lx cs r=(Yk cs r:Int):=by
 unfold Yk Lx
 split<;>simp
theorem Q3K {i:Nat} (h:i<cs.length):N1 l cs i=Pv l (My cs i):=by
 have a:M5 cs (i:Int)=true:=W9.2 ⟨i,rfl,h⟩;have e:My cs i=cs[i]:=by unfold My;rw[List.getD_eq_getElem?_getD,List.getElem?_eq_getElem h];rfl
 unfold N1 Pv Yk Lx L5;rw[if_pos a,if_pos a,L4 h,e,Int.toNat_natCast]
def I9 (l:List Cla) (cs:List Cel) (r:Int):List Val:=(N1 l cs r).map fun (i:Nat)=>Na cs r (i:Int)
theorem Iq {i:Nat} (h:i<cs.length):I9 l cs i=Y9 l cs i:=by
 unfold I9 Y9;rw[Q3K h];refine List.map_congr_left fun j a=>?_;have e:My cs i=cs[i]:=by unfold My;rw[List.getD_eq_getElem?_getD,List.getElem?_eq_getElem h];rfl
 have b:j<cs[i].vals.length:=by
  rw[e] at a;unfold Pv at a;exact List.mem_range.1 (List.mem_filter.1 a).1
 have hp:C7 cs (i:Int) (j:Int)=0:=by
  unfold C7;rw[if_pos (W9.2 ⟨i,rfl,h⟩),L4 h,if_pos (by omega)]
 unfold Na;rw[if_pos hp,L4 h,e,Int.toNat_natCast]
theorem Q6q {ok:X2->Bool} (a: ∀c∈cs,GoodC ok l cs c) {i:Nat} (b:i<Yk cs r) (e:elem (L5 cs r)=[]):i<(U6 l (L5 cs r)).length:=by
 unfold Yk Lx at b
 split at b
 .rename_i f
  obtain ⟨j,rfl,d⟩:=W9.1 f;rw[L4 d] at b;rw[Qn d] at e⊢
  rcases (a _ (List.getElem_mem d)).is with h | h
  .exact absurd e h
  .rw[<-h.2];omega
 .simp at b
theorem Fg (p:Nat->Bool) (i:Nat):(List.range (i+1)).filter p=(List.range i).filter p++(if p i=true then [i] else []):=by
 rw[List.range_succ,List.filter_append]
 congr 1
 cases h:p i<;>simp[List.filter,h]
end Go.Hm
namespace Go.Proofs.Y
open Go.Emb Go.RowKit Go.Kd Go.Hm
variable {w w' : World} {K : Value -> World -> Prop} {σ σ' : Q2} {room : Int} {cs : List Cel} {hp tv : Value} {l : List Cla} {v u : Value}
theorem X5d (hh:O7 σ hp tv room cs) {r:Int}:(L5 cs r).length<=W6:=by
 obtain ⟨a,f,rfl,e,d⟩:=hh;unfold L5
 split
 .rename_i c
  obtain ⟨i,rfl,b⟩:=W9.1 c;rw[L4 b];obtain ⟨_,_,_,h⟩:=Sl.elO d b;exact h
 .exact Nat.zero_le _
set_option maxHeartbeats 1000000 in
theorem X3g {r:Int} (D:X7 w σ) (hh:O7 σ hp tv room cs) (ht:Tab σ tv l) (ok:Ok l) (j: ∀c∈cs,GoodC W4 l cs c) (hN:Yk cs r<=1000000000000)
 (h: ∀V w' σ',Stp w σ w' σ'->Sl 1 H6 σ' V (ints (N1 l cs r))->K V w'):Q0 P F.cp [hp,I r] w K:=Q9G (by
 unfold Q2V Z8 X6 X4 V5 X5;have C:=X5d hh (r:=r);have E:=fun i (O:i<Yk cs r) f=>Q6q (ok:=W4) j O f;unfold N1 at h;refine Ac D hh ?_;refine X4Q D hh ?_;refine Q0j D ht ok.acy ok.len ok.sm fun fv w1 σ1 s hf=>?_;refine X6u s.sat (hh.lift ⟨s.le⟩) ?_;rw[X4s];generalize Yk cs r=n at*;generalize L5 cs r=k at*;refine C4 n (fun i x w'=> ∃σ',Stp w1 σ1 w' σ'/\W7 w1.heap.size T.f 1 H6 σ' w' x (ints ((List.range i).filter (K6 l k)))) ⟨σ1,Stp.refl s.sat,W7.nil⟩ fun i x w2 d O o=>?_;obtain ⟨σ2,y,N⟩:=o;refine J0 ?_;refine Q4 (fun B=>?_) (fun B=>?_)
 .have m:i<n:=by simpa using B
  have ac:((List.range i).filter (K6 l k)).length<=i:=Nat.le_trans (List.length_filter_le _ _) U5
  have Z:ints ((List.range (i+1)).filter (K6 l k))=ints ((List.range i).filter (K6 l k))++(if K6 l k i=true then [(i:Int)] else []):=by
   rw[Fg];unfold ints;rw[List.map_append]
   congr 1
   split<;>rfl
  refine Yu (fun z w'=> ∃σ',Stp w1 σ1 w' σ'/\W7 w1.heap.size T.f 1 H6 σ' w' z (ints ((List.range (i+1)).filter (K6 l k)))) ?_ (fun z dd t hz=>?_)
  .refine Q9h k (by unfold W6 at C;omega) fun t Y=>?_
   have Q:=Stp.of_below y.sat Y;have b:=y.trans Q;have p:=N.up Q;refine Jn (u:=[]) ?_
   have g: ∀q,K6 l k i=q->X1 (.bool q) (buildSlice P T.q 1 [(0,I i)] t fun L w=>V0 P .append [T.q,T.q] T.q [false,false] [x,L] w fun z w'=> ∃σ',Stp w1 σ1 w' σ'/\W7 w1.heap.size T.f 1 H6 σ' w' z (ints ((List.range (i+1)).filter (K6 l k)))) (∃σ',Stp w1 σ1 t σ'/\W7 w1.heap.size T.f 1 H6 σ' t x (ints ((List.range (i+1)).filter (K6 l k)))):=fun q A=>by
    rw[Z,A];cases q with
    | false=>exact Z7 ⟨σ2,b,by simpa using p⟩
    | true=>
     refine Z3 ?_;refine P4 (R:=H6) (sz:=1) b.sat [I i] [(i:Int)] rfl rfl (by simp;rfl) rfl ⟨⟨rfl,by omega,by omega⟩,trivial⟩ fun v4 w4 σ4 U J=>?_
     refine Jm (b.trans U) (p.up U) J (by rfl) (by simp[ints];omega) (by simp[ints];omega) fun v5 w5 _ X W _=>?_
     exact ⟨σ4,X,by simpa using W⟩
   by_cases f:elem k=[]
   .rw[decide_eq_true f,Bool.not_true]
    have e:=E i m f
    (repeat refine Hd.h ?_)
    refine Q5W (hf.up b) e fun a ha _=>?_
    (repeat refine Hd.h ?_)
    refine ld (i:=2) b.sat ha rfl ?_
    (repeat refine Hd.h ?_)
    have A:K6 l k i= !((U6 l k)[i].tr):=by
     unfold K6;rw[decide_eq_true f,Bool.not_true,Bool.false_or,List.getD_eq_getElem?_getD,List.getElem?_eq_getElem e];rfl
    exact g _ A
   .rw[decide_eq_false f,Bool.not_false]
    (repeat refine Hd.h ?_)
    exact g true (by unfold K6;rw[decide_eq_false f];rfl)
  .obtain ⟨M,b,p⟩:=hz
   (try simp only[↓M1,M1,Mb,reduceIte])
   exact V2 Q5 m ⟨M,b,p⟩
 .have:i=n:=by simp at B;omega
  subst this;obtain ⟨M,b,H,_⟩:=N.keep y;exact h x w2 M (s.trans b) H)
theorem X4R {v:Val} (k:X7 w σ) (hh:O7 σ hp tv room cs) (b: ∀c∈cs,GoodC W4 l cs c) (h: ∀w' σ',Stp w σ w' σ'->K (.bool (W1 cs v).isSome) w'):Q0 P F.cq [hp, .agg [I v.sort,I v.n,S v.s,I v.ref].toArray] w K:=X2H (by
 unfold Q5N Z8 Y1 X6 X4 V5;refine Z4 k fun q w1 σ1 a g=>?_;refine J4 ?_;refine ld (i:=0) a.sat g rfl ?_;refine B1 ?_;unfold W1 at h
 by_cases d:v.sort=4
 .rw[decide_eq_true d]
  (repeat refine Hd.h ?_)
  refine ld (i:=3) a.sat g rfl ?_
  (repeat refine Hd.h ?_)
  refine Ac a.sat (hh.lift ⟨a.le⟩) ?_
  (repeat refine Hd.h ?_)
  refine Jn (u:=[]) ?_
  (repeat refine Hd.h ?_)
  have e:(!decide (L5 cs v.ref=[]))=(if v.sort=4/\M5 cs v.ref=true then some v.ref.toNat else none).isSome:=by
   cases j:M5 cs v.ref with
   | false=>
    rw[if_neg U5];unfold L5;rw[j];rfl
   | true=>
    rw[if_pos ⟨d,rfl⟩];obtain ⟨i,e,f⟩:=W9.1 j;rw[e,Qn f];have:=(b _ (List.getElem_mem f)).kd
    rw[decide_eq_false (by
     intro e;rw[e] at this;exact absurd this (by unfold H8;simp;exact ⟨by decide,fun h=>absurd h W3⟩))]
    rfl
  rw[e];exact h _ _ a
 .rw[decide_eq_false d]
  (repeat refine Hd.h ?_)
  rw[if_neg (fun e=>d e.1)] at h;exact h _ _ a)
theorem Q0k {L:Value} {r:Int} (e:Nat->World->Q2->Prop) (f: ∀i w σ,e i w σ->X7 w σ) (k: ∀i w σ w' σ',e i w σ->Stp w σ w' σ'->e i w' σ')
 (hh:O7 σ hp tv room cs) (ht:Tab σ tv l) (ok:Ok l) (m: ∀c∈cs,GoodC W4 l cs c) (Z:Yk cs r<=1000000000000) (M:e 0 w σ)
 (j: ∀i (hi:i<(I9 l cs r).length) w1 σ1,SLe σ σ1->e i w1 σ1->U7 P L [.agg [I (I9 l cs r)[i].sort,I (I9 l cs r)[i].n,S (I9 l cs r)[i].s,I (I9 l cs r)[i].ref].toArray] w1 fun _ O=> ∃J,SLe σ1 J/\e (i+1) O J)
 (h: ∀w' σ',SLe σ σ'->e (I9 l cs r).length w' σ'->K (.tuple #[]) w'):Q0 P F.aK [hp,I r,L] w K:=Q78 (by
 unfold Ah;simp only[N0,D9];unfold V1 V3 Y0 X5;refine X3g (f _ _ _ M) hh ht ok m Z fun sv w1 σ1 t C=>?_;refine Q7 C ?_;have V:(ints (N1 l cs r)).length=(I9 l cs r).length:=by simp[ints,I9]
 rw[V];have ac:=C.max;refine V7 (I9 l cs r).length (fun i w'=> ∃σ',SLe σ1 σ'/\e i w' σ') ⟨σ1,SLe.refl _,k _ _ _ _ _ M t⟩ fun i O d hi o=>?_;obtain ⟨J,b,y⟩:=o;have N:=f _ _ _ y;refine J0 ?_;refine Q4 (fun z=>?_) (fun z=>?_)
 .have g:i<(I9 l cs r).length:=by simpa using z
  have B:i<(ints (N1 l cs r)).length:=by omega
  have ab:i<(N1 l cs r).length:=by simpa [I9] using g
  refine E5 (C.lift b) B fun a ds X _ Y=>?_;obtain ⟨rfl,_⟩:=Y;refine Y6 N X rfl ?_;have A:=hh.lift ((⟨t.le⟩:SLe σ σ1).more b);refine X3k N A fun w3 σ3 D=>?_;refine J8 (vs:=[_,_]) rfl ?_;refine J8 (vs:=[_,_]) rfl ?_;have W:Na cs r (ints (N1 l cs r))[i]=(I9 l cs r)[i]:=by simp[I9,ints]
  rw[W];refine J6 (sz:=4) D.sat rfl rfl (by simp;exact ⟨rfl,rfl,rfl,rfl⟩) fun q w4 Q E hq=>?_
  refine Y7 E.sat hq rfl ?_;have R:=k _ _ _ _ _ (k _ _ _ _ _ y D) E;have p:SLe σ1 Q:=(b.more ⟨D.le⟩).more ⟨E.le⟩;refine X29 (j i g w4 Q ((⟨t.le⟩:SLe σ σ1).more p) R) ?_;rintro _ w5 ⟨σ5,H,U⟩
  (try simp only[↓M1,M1,Mb,reduceIte])
  exact Z5 Q5 g ⟨σ5,p.more H,U⟩
 .have:i=(I9 l cs r).length:=by simp at z;omega
  subst this;exact h _ _ ((⟨t.le⟩:SLe σ σ1).more b) y)
end Go.Proofs.Y
namespace Go.Emb
variable {w w' : World} {σ : Q2} {r : Nat}
theorem T7.kp {D:Nat->Prop} {m:List (Int×Value)} (h:T7 σ w r m) (b:Kpt D w w') (a: ¬D r):T7 σ w' r m:=
 ⟨h.1,(b.block r h.lt a).symm▸h.2⟩
theorem T7.upd {b:Nat} {m:List (Int×Value)} (h:T7 σ w r m) (u:Upd w b w') (a:r≠b):T7 σ w' r m:=T7.kp (D:=fun j=>j=b) h (Kpt.of_upd u rfl) a
theorem V6.updG [Rep H6] {B b:Nat} {e:TypeId} {v:Value} {xs:List Int} (h:V6 B e 1 H6 σ w v xs) (u:Upd w b w') (a:v.ownBlock≠some b):V6 B e 1 H6 σ w' v xs:=
 h.kp (D:=fun j=>j=b) (Kpt.of_upd u rfl) fun k c e=>a (e▸c)
end Go.Emb
namespace Go.Proofs.Y
open Go.Emb Go.RowKit Go.Kd Go.Hm
variable {w w' w0 : World} {K : Value -> World -> Prop} {σ σ' σ0 : Q2} {room : Int} {cs : List Cel} {hp tv : Value} {l : List Cla} {v : Value} {bl r : Nat} {xs : List Nat}
structure RSt (w0 : World) (σ0 : Q2) (bl r : Nat) (w : World) (σ : Q2) (xs : List Nat) : Prop where
  stp : Stp w0 σ0 w σ
  gl : w0.heap.size <= bl
  gr : w0.heap.size <= r
  ne : bl ≠ r
  ex : ∃ lv m, Y8 σ w bl [lv] /\ V6 w0.heap.size T.f 1 H6 σ w lv (ints xs) /\ (∀ k, lv.ownBlock = some k -> k ≠ bl /\ k ≠ r) /\ T7 σ w r m /\ ∀ n : Int, (C3 m n).isSome = decide (n ∈ ints xs)
theorem RSt.up (R:RSt w0 σ0 bl r w σ xs) (k:Stp w σ w' σ'):RSt w0 σ0 bl r w' σ' xs:=by
 obtain ⟨f,m,a,b,c,d,e⟩:=R.ex;exact ⟨R.stp.trans k,R.gl,R.gr,R.ne,f,m,a.up k,b.up k,c,d.up k,e⟩
theorem X2v {m:List (Int×Value)} {k n:Int} {v:Value}:C3 (Uv m k v) n=if k=n then some v else C3 m n:=by
 induction m with
 | nil=>simp[Uv,C3]
 | cons p q d=>
  simp only[Uv]
  split
  .rename_i e
   simp only[C3]
   split
   .rfl
   .rename_i b
    rw[if_neg (fun a:p.1=n=>b (e.symm.trans a))]
  .rename_i e
   simp only[C3]
   split
   .rename_i a
    rw[if_neg (fun c=>e (a.trans c.symm))]
   .exact d
set_option maxHeartbeats 1000000 in
theorem X3j {qs qh:Addr} {v:Val} (R:RSt w0 σ0 bl r w σ xs) (ao:J7 σ qs [.map (some r)]) (an:J7 σ qh [hp]) (hh:O7 σ hp tv room cs) (D: ∀c∈cs,GoodC W4 l cs c) (hc:cs.length<=1048576) (hx:xs.length<=1048576)
 (h: ∀w' σ',SLe σ σ'->RSt w0 σ0 bl r w' σ' (Ux xs (W1 cs v))->K (.tuple #[]) w'):
 Q0 P F.cA [.agg [I v.sort,I v.n,S v.s,I v.ref].toArray, .pointer (some qs), .pointer (some qh), .pointer (some ⟨bl,0,none⟩)] w K:=Q6f (by
 unfold Pr;simp only[D9];unfold Y1 X6;refine Z4 R.stp.sat fun q w1 σ1 d hq=>?_;have R1:=R.up d;have o:=ao.up d;have V:=an.up d;obtain ⟨Z,m,h1,h2,M,Y,h5⟩:=R1.ex;refine Y6 d.sat o rfl ?_;refine J4 ?_;refine ld (i:=3) d.sat hq rfl ?_;rw[Q7J (tz:=inferInstance) Rb Y.2 v.ref]
 have hb: ∃x0,(match C3 m v.ref with | some v=>Value.tuple #[v, .bool true] | none=> .tuple #[I 0, .bool false])= .tuple #[x0, .bool (decide (v.ref∈ints xs))]:=by
  have:=h5 v.ref;cases e:C3 m v.ref with
  | none=>rw[e] at this;exact ⟨I 0,by rw[<-this];rfl⟩
  | some x=>rw[e] at this;exact ⟨x,by rw[<-this];rfl⟩
 obtain ⟨x0,ex⟩:=hb;refine Eq.mpr (congrArg (fun z=>ext P z 0 w1 _) ex) ?_;refine J8 (vs:=[_,_]) rfl ?_;refine Eq.mpr (congrArg (fun z=>ext P z 1 w1 _) ex) ?_;refine J8 (vs:=[_,_]) rfl ?_;refine Y6 d.sat V rfl ?_;refine Y7 d.sat hq rfl ?_;refine X4R d.sat (hh.lift ⟨d.le⟩) D fun w2 σ2 C=>?_;have B:=d.trans C;have b:=R1.up C;cases et:W1 cs v with
 | none=>
  rw[et] at h;simp only[Option.isSome_none]
  (repeat refine Hd.h ?_)
  refine Z7 ?_;exact h _ _ ⟨B.le⟩ b
 | some n=>
  rw[et] at h;obtain ⟨W,g,be⟩:=Cb et;simp only[Option.isSome_some]
  (repeat refine Hd.h ?_)
  by_cases f:n∈xs
  .rw[decide_eq_true (show v.ref∈ints xs by rw[g];exact List.mem_map.2 ⟨n,f,rfl⟩)]
   (repeat refine Hd.h ?_)
   refine Z7 ?_;rw[Q48 f] at h;exact h _ _ ⟨B.le⟩ b
  .have al: ¬v.ref∈ints xs:=by
    rw[g];intro e;obtain ⟨y,hy,ey⟩:=List.mem_map.1 e;have:y=n:=by omega
    exact f (this▸hy)
   rw[decide_eq_false al]
   (repeat refine Hd.h ?_)
   refine Z3 ?_;rw[Sy f] at h;have U:=hq.up C;obtain ⟨Z,m,h1,h2,M,Y,h5⟩:=b.ex;refine Y6 C.sat (o.up C) rfl ?_;refine J4 ?_;refine ld (i:=3) C.sat U rfl ?_;refine X0G Rb Y v.ref (I 1) fun w3 u3 ag=>?_;have S3:Stp w0 σ0 w3 σ2:=u3.stp b.stp b.gr Y.1;have E:=h1.upd u3 b.ne;have af:=h2.updG u3 fun e=>(M r e).2 rfl;refine Ou E rfl ?_;refine J4 ?_;refine ld (i:=3) S3.sat U rfl ?_;rw[g];refine P4 (R:=H6) (sz:=1) S3.sat [I n] [(n:Int)] rfl rfl (by simp;rfl) rfl ⟨⟨rfl,by omega,by omega⟩,trivial⟩ fun v4 w4 σ4 X W=>?_
   have S4:=S3.trans X;have H:=E.up X;have L:=af.up X;have N:=ag.up X;refine Q66 S4.sat S4.bel.size L W (by rfl) (by simp;omega) (by simp;omega) fun v5 w5 ak ap A aj=>?_
   have t:Kpt (fun k=>Z.ownBlock=some k) w4 w5:=ak.mono fun k _ e=>e.1
   have O: ∀k,v5.ownBlock=some k->Z.ownBlock=some k\/w4.heap.size<=k:=fun k p=>by
    rcases aj with ⟨a,a9,ea,eb⟩ | ⟨_,Q⟩
    .left;rw[ea];rw[eb] at p;cases a<;>exact p
    .exact .inr (Q k p)
   have N5:Nxt (fun k=>Z.ownBlock=some k) w4 σ4 w5 σ4:=⟨t,SLe.refl _,fun _ _=>rfl,ap⟩;have S5:Stp w0 σ0 w5 σ4:=S4.nx N5 fun k p=>(L.mem p).1;have ae:=H.kp t fun e=>(M bl e).1 rfl;have ah:=T7.kp N t fun e=>(M r e).2 rfl;have a2:=H.lt;have a3:=N.lt;refine Yj (i:=0) ae U5 (by obtain ⟨a,c,rfl,_⟩:=A;rfl) (by obtain ⟨a,c,rfl,_⟩:=A;rfl) fun w6 u6 J=>?_
   have j: ∀k,v5.ownBlock=some k->k≠bl/\k≠r:=fun k p=>by
    rcases O k p with e | e
    .exact M k e
    .exact ⟨by omega,by omega⟩
   refine h w6 σ4 ((⟨B.le⟩:SLe σ σ2).more ⟨X.le⟩) ⟨u6.stp S5 b.gl J.1,b.gl,b.gr,b.ne,v5,Uv m v.ref (I 1),J,?_,j,ah.upd u6 fun e=>b.ne e.symm,fun z=>?_⟩
   .have:=A.updG u6 fun e=>(j bl e).1 rfl
    simpa using this
   .rw[X2v,g]
    have:=h5 z
    by_cases e:(n:Int)=z
    .rw[if_pos e];simp[<-e]
    .rw[if_neg e,this]
     refine decide_eq_decide.2 ?_;simp only[List.map_append,List.map_cons,List.map_nil,List.mem_append,List.mem_singleton];exact ⟨.inl,fun h=>h.resolve_right fun e2=>e e2.symm⟩)
end Go.Proofs.Y
namespace Go.Hm
open Go.Kd
variable {tq : Val -> Option Nat} {xs : List Nat} {vs : List Val}
theorem Q4U {j:Nat} (a:j<vs.length):G3 tq xs (vs.take (j+1))=Ux (G3 tq xs (vs.take j)) (tq vs[j]):=by
 unfold G3;rw[List.take_add_one,List.getElem?_eq_getElem a,Option.toList_some,List.foldl_append];rfl
theorem Q65 {n:Nat} (c: ∀p x,tq p=some x->x<n) (a:xs.Nodup) (b: ∀x∈xs,x<n):(G3 tq xs vs).length<=n:=
 Q5j (Is vs a) fun x d=>by
  rcases (Fu vs).1 d with h | ⟨p,_,h⟩
  .exact b x h
  .exact c p x h
end Go.Hm
namespace Go.Proofs.Y
open Go.Emb Go.RowKit Go.Kd Go.Hm
variable {w w' : World} {K : Value -> World -> Prop} {σ σ' : Q2} {room : Int} {cs : List Cel} {hp tv : Value} {l : List Cla} {v : Value} {bl r : Nat}
set_option maxHeartbeats 2000000 in
theorem Q6H {v:Val} (hs:X7 w σ) (hh:O7 σ hp tv room cs) (ht:Tab σ tv l) (ok:Ok l) (f: ∀c∈cs,GoodC W4 l cs c) (hc:cs.length<=1048576) (hN: ∀r,Yk cs r<=1000000000000)
 (h: ∀v' w' σ',Stp w σ w' σ'->Sl 1 H6 σ' v' (ints (L6 l cs v))->K v' w'):Q0 P F.bp [hp, .agg [I v.sort,I v.n,S v.s,I v.ref].toArray] w K:=Q8e (by
 unfold Q1K;simp only[Y3,X3,N0];unfold V3 Y0 X5;obtain ⟨ah,eh⟩: ∃a,hp= .pointer (some a):=by obtain ⟨a,_,e,_⟩:=hh;exact ⟨a,e⟩
 refine L8 hs (by rw[eh];rfl) fun qh w1 σ1 k1 O=>?_
 refine Z4 k1.sat fun qv w2 σ2 k2 W=>?_;refine D3 k2.sat fun bl w3 σ3 an Z A=>?_;refine Q6Y Z.sat fun r w4 hr E N=>?_;refine L1 E.sat rfl rfl rfl fun qs w5 σ5 C U=>?_;refine Q6w ?_;have B:=k1.trans k2;have S3:=B.trans Z;have S5:=(S3.trans E).trans C;refine Y7 C.sat (((W.up Z).up E).up C) rfl ?_;have br:=A.lt;have R0:RSt w σ bl r w5 σ5 []:=⟨S5,Nat.le_trans B.bel.size an,Nat.le_trans S3.bel.size hr,by omega,_,[],(A.up E).up C,V6.of_acc W7.nil,nofun,N.up C,fun n=>rfl⟩
 have g:=(((O.up k2).up Z).up E).up C;have y:=hh.lift ⟨S5.le⟩;have aw:=ht.lift ⟨S5.le⟩;clear k1 k2 Z E C B S3 W A N O;refine U3 (first:=[]) (caps:=[.pointer (some qs), .pointer (some qh), .pointer (some ⟨bl,0,none⟩)]) ?_
 refine X3j R0 U g y f hc U5 fun w6 σ6 a0 R6=>?_;refine V7 cs.length (fun i w'=> ∃σ',SLe σ6 σ'/\RSt w σ bl r w' σ' (Z6 (Y9 l cs) (W1 cs) v i)) ⟨σ6,SLe.refl _,R6⟩ fun i w7 d hi L=>?_;obtain ⟨σ7,aa,R7⟩:=L;have b:=a0.more aa;have s7:=R7.stp.sat;obtain ⟨lv,m,h1,h2,h3,h4,h5⟩:=R7.ex;refine Ou h1 rfl ?_;refine Fx h2 ?_;refine J0 ?_;have a4:=Ra (out:=Y9 l cs) (tq:=W1 cs) (v:=v) Yt i;have M:=Ps (out:=Y9 l cs) (tq:=W1 cs) (v:=v) Yt i;refine Q4 (fun q=>?_) (fun q=>?_)
 .have z:i<(Z6 (Y9 l cs) (W1 cs) v i).length:=by simpa [ints] using q
  have ay:=M _ (List.getElem_mem z)
  have av:Z6 (Y9 l cs) (W1 cs) v (i+1)=G3 (W1 cs) (Z6 (Y9 l cs) (W1 cs) v i) (Y9 l cs (Z6 (Y9 l cs) (W1 cs) v i)[i]):=by
   rw[Z6,List.getElem?_eq_getElem z]
  obtain ⟨σf,sf,a2,Y,ar⟩:=h2.freeze s7;have J:i<(ints (Z6 (Y9 l cs) (W1 cs) v i)).length:=by simpa [ints] using z
  obtain ⟨ds,e1,e2,e3⟩:=Y.el J;obtain ⟨rfl,_⟩:=e3;have ex:(ints (Z6 (Y9 l cs) (W1 cs) v i))[i]=(((Z6 (Y9 l cs) (W1 cs) v i)[i]:Nat):Int):=by simp[ints]
  rw[ex] at e1;have Q:=(g.lift b).lift a2;have ak:Y8 σf w7 bl [lv]:=⟨(ar bl fun e=>(h3 bl e.symm).1 rfl).trans h1.1,h1.2⟩;refine U8 sf ?_;refine X0 (V:=hp) (fun w p=>Y6 p.sat (Q.up p.stp) rfl (Q8 rfl)) ?_;refine X0 (V:=lv) (fun w p=>Ou (ak.up p.stp) rfl (Q8 rfl)) ?_;refine X0 (V:= .pointer (some (K9 1 lv i))) (fun t w p e=>by subst e;exact Z1 (Y.up p.stp) J (Q8 rfl)) ?_
  refine X0 (V:=I ((Z6 (Y9 l cs) (W1 cs) v i)[i]:Nat)) (fun t w p e=>by subst e;exact Y6 p.sat (e1.up p.stp) rfl (Q8 rfl)) ?_
  rintro _ _ _ _ w8 am rfl rfl rfl rfl;have k8:=Stp.of_below s7 am.stp.bel;have R8:=R7.up k8;generalize hX:Z6 (Y9 l cs) (W1 cs) v i=X at*;have eo:I9 l cs ((X[i]:Nat):Int)=Y9 l cs X[i]:=Iq ay;have aq:X.Nodup:=by rw[<-hX];exact P2 i
  refine Q0k (l:=l) (cs:=cs) (tv:=tv) (room:=room) (σ:=σ7) (fun j w' σ'=>SLe σ7 σ'/\RSt w σ bl r w' σ' (G3 (W1 cs) X ((Y9 l cs X[i]).take j))) (fun _ _ _ R=>R.2.stp.sat) (fun _ _ _ _ _ R k=>⟨R.1.more ⟨k.le⟩,R.2.up k⟩) (y.lift b) (aw.lift b) ok f (hN _) ⟨SLe.refl _,R8⟩ (fun j hj w9 σ9 a1 D=>?_) (fun w9 σ9 a1 D=>?_)
  .have ap:j<(Y9 l cs X[i]).length:=by rw[<-eo];exact hj
   have ev:(I9 l cs ((X[i]:Nat):Int))[j]=(Y9 l cs X[i])[j]:=by simp only[eo]
   rw[ev];refine U3 (first:=[]) (caps:=[.pointer (some qs), .pointer (some qh), .pointer (some ⟨bl,0,none⟩)]) ?_
   have o:=b.more D.1;refine X3j D.2 (U.lift o) (g.lift o) (y.lift o) f hc (Nat.le_trans (Q65 Yt aq M) hc) fun wA σA ab RA=>⟨σA,ab,D.1.more ab,?_⟩;rw[Q4U ap];exact RA
  ·(try simp only[↓M1,M1,Mb,reduceIte])
   refine Z5 Q5 Q5 ⟨σ9,aa.more D.1,?_⟩;rw[av];have:=D.2
   rwa [eo,List.take_length] at this
 .have H:(Z6 (Y9 l cs) (W1 cs) v i).length<=i:=by simp[ints] at q;omega
  refine Ou h1 rfl ?_;obtain ⟨σ8,S8,ax,_⟩:=h2.keep R7.stp;refine h lv w7 σ8 S8 ?_;unfold L6;rw[Zq H hi];exact ax)
variable {w0 : World} {σ0 : Q2} {xs : List Nat}
theorem X0Y {i:Nat} {xs:List Nat} {x:Value} (s:X7 w σ) (m:Sl 1 H6 σ x (ints xs)) (h:K (.bool (decide (i∈xs))) w):Q0 P F.a0 [x,I i] w K:=Uh (by
 unfold Xn X4;have j:xs.length<=9223372036854775807:=by have:=m.max;simpa using this
 refine Lv ?_;unfold Yp V1 V3 Y0 X5;refine Q7 m ?_;have g:(ints xs).length=xs.length:=by simp
 refine V7 xs.length (fun n w'=>w'=w/\i∉xs.take n) ⟨rfl,by simp⟩ fun n w' d y f=>?_
 obtain ⟨rfl,f⟩:=f;rw[g];refine J0 ?_;refine Q4 (fun hh=>?_) (fun hh=>?_)
 .have b:n<xs.length:=by simpa using hh
  refine E5 m (by rw[g];exact b) fun a cs p t q=>?_
  obtain ⟨rfl,_⟩:=q;refine Y6 s p rfl ?_;simp only[List.getElem_map];refine B1 ?_;refine Q4 (fun c=>?_) (fun c=>?_)
  .have e:(i:Int)=xs[n]:=by simpa using c
   have:i=xs[n]:=by omega
   have k:decide (i∈xs)=true:=decide_eq_true (by rw[this];exact List.getElem_mem b)
   rw[k] at h;refine A0 ?_;rw[decide_eq_true (by omega:(0:Int)<=n)]
   exact h
  .have e: ¬(i:Int)=xs[n]:=by simpa using c
   refine R5 ?_;refine Z5 j b ⟨rfl,?_⟩;rw[List.take_add_one,List.getElem?_eq_getElem b];simp only[Option.toList_some,List.mem_append,List.mem_singleton,not_or];exact ⟨f,fun o=>e (by rw[o])⟩
 .have b: ¬n<xs.length:=by simpa using hh
  rw[List.take_of_length_le Q5] at f;rw[decide_eq_false f] at h;refine A0 ?_;rw[show decide ((0:Int)<= -1)=false from rfl]
  exact h)
def Q5b (l:List Cla) (cs:List Cel) (x:Nat) (p:Val):Bool:=(L6 l cs p).contains x
set_option maxHeartbeats 1000000 in
theorem X4L {Q R:Addr} {z x:Nat} {p:Val} {b:Bool} (S0:Stp w0 σ0 w σ) (a:w0.heap.size<=z) (Y:Y8 σ w z [.bool b]) (B:J7 σ Q [hp]) (C:J7 σ R [I x]) (hh:O7 σ hp tv room cs) (ht:Tab σ tv l) (ok:Ok l) (k: ∀c∈cs,GoodC W4 l cs c) (W:cs.length<=1048576) (U: ∀r,Yk cs r<=1000000000000)
 (h: ∀w' σ',SLe σ σ'->Stp w0 σ0 w' σ'->Y8 σ' w' z [.bool (b||Q5b l cs x p)]->K (.tuple #[]) w'):
 Q0 P F.cz [.agg [I p.sort,I p.n,S p.s,I p.ref].toArray, .pointer (some ⟨z,0,none⟩), .pointer (some Q), .pointer (some R)] w K:=Q6e (by
 unfold Pq;simp only[Y3,X3,Xq];unfold Wn;refine Z4 S0.sat fun q w1 σ1 f Z=>?_;have g:=Y.up f;have o:=B.up f;have y:=C.up f;have A:=hh.lift ⟨f.le⟩;have D:=ht.lift ⟨f.le⟩;have M:=S0.trans f;refine U8 f.sat ?_;refine X0 (V:= .bool b) (fun w a=>Ou (g.up a.stp) rfl (Q8 rfl)) ?_;cases b with
 | true=>
  refine X0 (V:=undef) (fun t w a e=>by subst e;simp only[G1];exact Q8 rfl) ?_
  refine X0 (V:=undef) (fun t w a e=>by subst e;simp only[G1];exact Q8 rfl) ?_
  refine X0 (V:=undef) (fun t t2 t3 w a e N O=>by subst e;simp only[G1];exact Q8 rfl) ?_
  refine X0 (V:=undef) (fun t w a e=>by subst e;simp only[G1];exact Q8 rfl) ?_
  rintro _ _ _ _ _ w2 m rfl rfl rfl rfl rfl;simp only[G1,F2,H3];have j:=m.stp;refine Yj (i:=0) (g.up j) U5 rfl rfl fun L J d=>?_;exact h L σ1 ⟨f.le⟩ (J.stp (M.trans j) a d.1) (by simpa using d)
 | false=>
  refine X0 (V:=hp) (fun t w a e=>by subst e;simp only[D2];exact Y6 a.sat (o.up a.stp) rfl (Q8 rfl)) ?_
  refine X0 (V:= .agg [I p.sort,I p.n,S p.s,I p.ref].toArray) (fun t w a e=>by subst e;simp only[D2];exact Y7 a.sat (Z.up a.stp) rfl (Q8 rfl)) ?_
  refine Um (w:=w1) (σ:=σ1) (Φ:=fun σ' v=>Sl 1 H6 σ' v (ints (L6 l cs p))) (fun t t2 t3 w a e N O=>?_) ?_
  .subst e;subst N;subst O
   simp only[D2];exact Q6H a.sat (A.lift ⟨a.stp.le⟩) (D.lift ⟨a.stp.le⟩) ok k W U fun v' w' σ' X E=>Eb a X E
  refine X0 (V:=I x) (fun t w a e=>by subst e;simp only[D2];exact Y6 a.sat (y.up a.stp) rfl (Q8 rfl)) ?_
  rintro _ _ _ _ _ w2 m rfl rfl rfl ⟨σ2,j,H⟩ rfl;simp only[D2];refine X0Y j.sat H ?_;simp only[E3];refine Yj (i:=0) (g.up j) U5 rfl rfl fun L J d=>?_;refine h L σ2 ((⟨f.le⟩:SLe σ σ1).more ⟨j.le⟩) (J.stp (M.trans j) a d.1) ?_
  have e:(false||Q5b l cs x p)=decide (x∈L6 l cs p):=by
   unfold Q5b;rw[Bool.false_or,Bool.eq_iff_iff];simp
  rw[e]
  simpa using d)
set_option maxHeartbeats 1000000 in
theorem X6o {v:Val} (hs:X7 w σ) (hh:O7 σ hp tv room cs) (ht:Tab σ tv l) (ok:Ok l) (b: ∀c∈cs,GoodC W4 l cs c) (hc:cs.length<=1048576) (hN: ∀r,Yk cs r<=1000000000000)
 (h: ∀w' σ',Stp w σ w' σ'->K (.bool (Q8T l cs v)) w'):Q0 P F.cI [hp, .agg [I v.sort,I v.n,S v.s,I v.ref].toArray] w K:=Q8d (by
 unfold Q1J;simp only[N0];unfold V1 V3 Y0 X5;obtain ⟨ah,eh⟩: ∃a,hp= .pointer (some a):=by obtain ⟨a,_,e,_⟩:=hh;exact ⟨a,e⟩
 refine L8 hs (by rw[eh];rfl) fun qh w1 σ1 k1 A=>?_
 refine Z4 k1.sat fun qv w2 σ2 C V=>?_;have o:=k1.trans C;refine Y6 C.sat (A.up C) rfl ?_;refine Y7 C.sat V rfl ?_;refine Q6H C.sat (hh.lift ⟨o.le⟩) (ht.lift ⟨o.le⟩) ok b hc hN fun rv w3 σ3 k3 B=>?_;have H:=o.trans k3;have U:=(A.up C).up k3;have aj:=hh.lift ⟨H.le⟩;have ap:=ht.lift ⟨H.le⟩;have al: ∀x∈L6 l cs v,x<cs.length:=fun x hx=>Q5n hx;unfold Q8T at h;have N:=B.max;refine Q7 B ?_;clear k1 C k3 o V A;generalize L6 l cs v=X at*;have el:(ints X).length=X.length:=by simp
 rw[el] at N⊢;refine V7 X.length (fun i w'=> ∃σ',Stp w3 σ3 w' σ'/\ ∀j (z:j<X.length),j<i->((Y9 l cs X[j]).any (Q5b l cs X[j]))=false) ⟨σ3,Stp.refl H.sat,fun _ _ h=>absurd h (Nat.not_lt_zero _)⟩ fun i w4 d hi M=>?_;obtain ⟨σ4,E,Q⟩:=M;refine J0 ?_;refine Q4 (fun y=>?_) (fun y=>?_)
 .have f:i<X.length:=by simpa using y
  have ar:=al _ (List.getElem_mem f);refine E5 (B.up E) (by rw[el];exact f) fun a ds h1 _ h3=>?_
  obtain ⟨rfl,_⟩:=h3;refine Y6 E.sat h1 rfl ?_;have ex:(ints X)[i]'(by rw[el];exact f)=((X[i]:Nat):Int):=by simp
  rw[ex];refine L1 E.sat rfl rfl rfl fun qr w5 σ5 k5 ao=>?_;refine D3 k5.sat fun Z w6 σ6 ai k6 am=>?_;refine Yj (i:=0) am W3 rfl rfl fun w7 u7 m=>?_;have m:Y8 σ6 w7 Z [.bool false]:=m;have ad:=(E.trans k5).trans k6;have J:w3.heap.size<=Z:=Nat.le_trans (E.trans k5).bel.size ai;have D:Stp w3 σ3 w7 σ6:=u7.stp ad J m.1;have q:=(U.lift ⟨D.le⟩);have t:=ao.up k6;refine Y6 D.sat q rfl ?_;refine Y6 D.sat t rfl ?_;refine Q6w ?_;have L:=aj.lift ⟨D.le⟩;have W:=ap.lift ⟨D.le⟩;have eo:I9 l cs ((X[i]:Nat):Int)=Y9 l cs X[i]:=Iq ar;refine Q0k (l:=l) (cs:=cs) (tv:=tv) (room:=room) (σ:=σ6) (fun j w' σ'=>SLe σ6 σ'/\Stp w3 σ3 w' σ'/\Y8 σ' w' Z [.bool (((Y9 l cs X[i]).take j).any (Q5b l cs X[i]))]) (fun _ _ _ R=>R.2.1.sat) (fun _ _ _ _ _ R k=>⟨R.1.more ⟨k.le⟩,R.2.1.trans k,R.2.2.up k⟩) L W ok b (hN _) ⟨SLe.refl _,D,m⟩ (fun j z w8 σ8 ay g=>?_) (fun w8 σ8 ay g=>?_)
  .have ak:j<(Y9 l cs X[i]).length:=by rw[<-eo];exact z
   have ev:(I9 l cs ((X[i]:Nat):Int))[j]=(Y9 l cs X[i])[j]:=by simp only[eo]
   rw[ev];refine U3 (first:=[]) (caps:=[.pointer (some ⟨Z,0,none⟩), .pointer (some qh), .pointer (some qr)]) ?_
   refine X4L g.2.1 J g.2.2 (q.lift g.1) (t.lift g.1) (L.lift g.1) (W.lift g.1) ok b hc hN fun w9 σ9 Y S9 an=>⟨σ9,Y,g.1.more Y,S9,?_⟩;rw[List.take_add_one,List.getElem?_eq_getElem ak,Option.toList_some,List.any_append]
   simpa using an
  .obtain ⟨_,S8,O⟩:=g
   rw[eo,List.take_length] at O;refine Ou O rfl ?_;cases hb:(Y9 l cs X[i]).any (Q5b l cs X[i]) with
   | true=>
    refine Z3 ?_;have:(X.any fun r=>(Y9 l cs r).any fun p=>(L6 l cs p).contains r)=true:=List.any_eq_true.2 ⟨X[i],List.getElem_mem f,hb⟩;rw[this] at h;exact h _ _ (H.trans S8)
   | false=>
    refine Z7 ?_
    (try simp only[↓M1,M1,Mb,reduceIte])
    exact Z5 Q5 f ⟨σ8,S8,fun j z bc=>by
     by_cases e:j=i
     .subst e;exact hb
     .exact Q j z Q5⟩
 .have:i=X.length:=by simp at y;omega
  subst this
  have:(X.any fun r=>(Y9 l cs r).any fun p=>(L6 l cs p).contains r)=false:=by
   rw[List.any_eq_false];intro x hx;obtain ⟨j,z,rfl⟩:=List.mem_iff_getElem.1 hx;have:=Q j z z
   simpa [Q5b] using this
  rw[this] at h;exact h _ _ (H.trans E))
end Go.Proofs.Y
namespace Go.Emb
open Go.RowKit Go.Hm
def RPr (_:Q2) (p:Nat×Nat) (cs:List Value):Prop:=cs=[I p.1,I p.2]/\p.1<=1048576/\p.2<=1048576
instance:Rep RPr:=⟨fun _ h=>h,fun h u hu=>by
 rw[h.1] at hu
 simp at hu
 rcases hu with rfl | rfl<;>rfl⟩
end Go.Emb
namespace Go.Hm
open Go.Emb Go.RowKit
def Oa (a:List (Nat×Nat)) (n:Int):Option Value:=(a.find? fun p=>decide ((p.1:Int)=n)).map fun p=>I p.2
def Ml (a:List (Nat×Nat)) (n:Int):Option Value:=(a.find? fun p=>decide ((p.2:Int)=n)).map fun p=>I p.1
def UqP (a:List (Nat×Nat)):Prop:=(∀p∈a,∀q∈a,p.1=q.1->p=q)/\ ∀p∈a,∀q∈a,p.2=q.2->p=q
theorem X0a {d:List (Nat×Nat)} {n:Nat} {v:Value} (h:Oa d n=some v): ∃b:Nat,v=I b/\(n,b)∈d:=by
 unfold Oa at h;cases c:d.find? fun p=>decide ((p.1:Int)=(n:Int)) with
 | none=>rw[c] at h;cases h
 | some p=>
  rw[c] at h;cases h;have e:=List.find?_some c;have f:=List.mem_of_find?_eq_some c;obtain ⟨a,b⟩:=p;have:a=n:=by have g:((a:Int)=(n:Int)):=of_decide_eq_true e;omega
  subst this;exact ⟨b,rfl,f⟩
theorem Q1z {a:List (Nat×Nat)} {n:Nat} (h:Oa a n=none): ∀p∈a,p.1≠n:=fun p b e=>by
 unfold Oa at h;rw[Option.map_eq_none_iff,List.find?_eq_none] at h;have:=h p b
 simp[e] at this
theorem Q99 {d:List (Nat×Nat)} {n:Nat} {v:Value} (h:Ml d n=some v): ∃a:Nat,v=I a/\(a,n)∈d:=by
 unfold Ml at h;cases c:d.find? fun p=>decide ((p.2:Int)=(n:Int)) with
 | none=>rw[c] at h;cases h
 | some p=>
  rw[c] at h;cases h;have e:=List.find?_some c;have f:=List.mem_of_find?_eq_some c;obtain ⟨a,b⟩:=p;have:b=n:=by have g:((b:Int)=(n:Int)):=of_decide_eq_true e;omega
  subst this;exact ⟨a,rfl,f⟩
theorem Q0t {a:List (Nat×Nat)} {n:Nat} (h:Ml a n=none): ∀p∈a,p.2≠n:=fun p b e=>by
 unfold Ml at h;rw[Option.map_eq_none_iff,List.find?_eq_none] at h;have:=h p b
 simp[e] at this
theorem X6i {c:List (Nat×Nat)} {x y:Nat}:(c.any fun p=>decide (p.1=x)||decide (p.2=y))=((Oa c x).isSome||(Ml c y).isSome):=by
 rw[Bool.eq_iff_iff,List.any_eq_true];constructor
 .rintro ⟨p,d,h⟩
  simp only[Bool.or_eq_true,decide_eq_true_eq] at h⊢
  rcases h with h | h
  .left
   cases e:Oa c x with
   | some z=>rfl
   | none=>exact absurd h (Q1z e p d)
  .right
   cases e:Ml c y with
   | some z=>rfl
   | none=>exact absurd h (Q0t e p d)
 .intro h
  simp only[Bool.or_eq_true] at h
  rcases h with h | h
  .cases e:Oa c x with
   | none=>rw[e] at h;cases h
   | some z=>obtain ⟨b,_,hb⟩:=X0a e;exact ⟨_,hb,by simp⟩
  .cases e:Ml c y with
   | none=>rw[e] at h;cases h
   | some z=>obtain ⟨a,_,hb⟩:=Q99 e;exact ⟨_,hb,by simp⟩
end Go.Hm
namespace Go.Proofs.Y
open Go.Emb Go.RowKit Go.Kd Go.Hm
variable {w w' w0 : World} {K : Value -> World -> Prop} {σ σ' σ0 : Q2} {ra rb : Int} {ca cb : List Cel} {ha hb ta tb : Value} {l : List Cla} {v u : Val} {bm rt rf : Nat} {m : Wp} {Q : Nat -> List Value -> Prop}
structure MSt (w0 : World) (σ0 : Q2) (bm rt rf : Nat) (ha hb : Value) (Q : Nat -> List Value -> Prop) (w : World) (σ : Q2) (m : Wp) : Prop where
  stp : Stp w0 σ0 w σ
  gm : w0.heap.size <= bm
  gt : w0.heap.size <= rt
  gf : w0.heap.size <= rf
  n1 : bm ≠ rt
  n2 : bm ≠ rf
  n3 : rt ≠ rf
  uq : UqP m.1
  ex : ∃ lv mt mf, Y8 σ w bm [ha, hb, .map (some rt), .map (some rf), lv, .bool m.2] /\ V6 w0.heap.size T.av 2 RPr σ w lv m.1 /\ (∀ k, lv.ownBlock = some k -> k ≠ bm /\ k ≠ rt /\ k ≠ rf) /\ T7 σ w rt mt /\ T7 σ w rf mf /\ (∀ n, C3 mt n = Oa m.1 n) /\ (∀ n, C3 mf n = Ml m.1 n) /\ ∀ b cs, Q b cs -> Y8 σ w b cs /\ b ≠ bm /\ b ≠ rt /\ b ≠ rf /\ lv.ownBlock ≠ some b
theorem MSt.up (R:MSt w0 σ0 bm rt rf ha hb Q w σ m) (k:Stp w σ w' σ'):MSt w0 σ0 bm rt rf ha hb Q w' σ' m:=by
 obtain ⟨j,o,n,c,d,e,f,g,h,i,a⟩:=R.ex;exact ⟨R.stp.trans k,R.gm,R.gt,R.gf,R.n1,R.n2,R.n3,R.uq,j,o,n,c.up k,d.up k,e,f.up k,g.up k,h,i,fun b cs q=>⟨(a b cs q).1.up k,(a b cs q).2⟩⟩
theorem Cd {b:Bool} (R:MSt w0 σ0 bm rt rf ha hb Q w σ m) (h: ∀w',MSt w0 σ0 bm rt rf ha hb Q w' σ (m.1,b)->K undef w'):J9 P T.r (.pointer (some ((⟨bm,0,none⟩:Addr).add 5))) (.bool b) w K:=by
 obtain ⟨y,A,z,f,n,g,o,p,r,s,d⟩:=R.ex;refine Yj (i:=5) f U5 rfl rfl fun w1 a c=>?_;exact h w1 ⟨a.stp R.stp R.gm f.1,R.gm,R.gt,R.gf,R.n1,R.n2,R.n3,R.uq,y,A,z,c,n.kp (D:=fun j=>j=bm) (Kpt.of_upd a rfl) fun k t e=>(g k t).1 e,g,o.upd a fun e=>R.n1 e.symm,p.upd a fun e=>R.n2 e.symm,r,s,fun b cs q=>⟨(d b cs q).1.upd a (d b cs q).2.1,(d b cs q).2⟩⟩
def lkV (o:Option Value):Value:=match o with
 | some z=> .tuple #[z, .bool true]
 | none=> .tuple #[I 0, .bool false]
theorem X1u {o:Option Value}: ∃z,lkV o= .tuple #[z, .bool o.isSome]/\ ∀x,o=some x->z=x:=by
 cases o with
 | none=>exact ⟨I 0,rfl,nofun⟩
 | some x=>exact ⟨x,rfl,fun y e=>by cases e;rfl⟩
instance (priority:=2000):Hd (W0 P .not (.bool true) w K) (K (.bool false) w):=⟨fun h=>Zv h⟩
instance (priority:=2000):Hd (W0 P .not (.bool false) w K) (K (.bool true) w):=⟨fun h=>Zv h⟩
theorem X8z {r:Nat} {a:List (Int×Value)} {k:Int} {o:Option Value} (b:T7 σ w r a) (e:C3 a k=o) (h:K (lkV o) w):lookup P T.a2 (.map (some r)) (I k) true w K:=by
 rw[Q7J (tz:=inferInstance) Rb b.2 k,e];cases o<;>exact h
abbrev X5N:Prop:= ∀{w w0:World} {K:Value->World->Prop} {σ σ0:Q2} {bm rt rf:Nat} {ha hb:Value} {Q:Nat->List Value->Prop} {m:Wp} {q1 q2:Addr} {v u:Val} {x y:Nat},MSt w0 σ0 bm rt rf ha hb Q w σ m->J7 σ q1 [I v.sort,I v.n,S v.s,I v.ref]->J7 σ q2 [I u.sort,I u.n,S u.s,I u.ref]->v.ref=x->u.ref=y->x<=1048576->y<=1048576->m.1.length<=1048576->Oa m.1 x=none->Ml m.1 y=none->
 (∀w' σ',SLe σ σ'->MSt w0 σ0 bm rt rf ha hb Q w' σ' (m.1++[(x,y)],m.2)->K (.tuple #[]) w')->(
  dr w fun Tr Br=>
  J3 Tr (fun φ105=> ∀w,Br w->nilCheck P (.pointer (some ⟨bm,0,none⟩)) w (dk Tr φ105 w)) fun φ105=>
  J3 Tr (fun φ106=> ∀t105 w,Br w->φ105 t105 w->fieldAddr P T.p t105 2 w (dk Tr φ106 w)) fun φ106=>
  J3 Tr (fun φ108=> ∀w,Br w->fieldAddr P T.d (.pointer (some q1)) 3 w (dk Tr φ108 w)) fun φ108=>
  J3 Tr (fun φ111=> ∀w,Br w->nilCheck P (.pointer (some ⟨bm,0,none⟩)) w (dk Tr φ111 w)) fun φ111=>
  J3 Tr (fun φ112=> ∀t111 w,Br w->φ111 t111 w->fieldAddr P T.p t111 3 w (dk Tr φ112 w)) fun φ112=>
  J3 Tr (fun φ114=> ∀w,Br w->fieldAddr P T.d (.pointer (some q2)) 3 w (dk Tr φ114 w)) fun φ114=>
  J3 Tr (fun φ116=> ∀w,Br w->fieldAddr P T.d (.pointer (some q2)) 3 w (dk Tr φ116 w)) fun φ116=>
  J3 Tr (fun φ118=> ∀w,Br w->fieldAddr P T.d (.pointer (some q1)) 3 w (dk Tr φ118 w)) fun φ118=>
  J3 Tr (fun φ107=> ∀t106 w,Br w->φ106 t106 w->Q6 P T.a2 t106 w (dk Tr φ107 w)) fun φ107=>
  J3 Tr (fun φ109=> ∀t108 w,Br w->φ108 t108 w->Q6 P T.f t108 w (dk Tr φ109 w)) fun φ109=>
  J3 Tr (fun φ113=> ∀t112 w,Br w->φ112 t112 w->Q6 P T.a2 t112 w (dk Tr φ113 w)) fun φ113=>
  J3 Tr (fun φ115=> ∀t114 w,Br w->φ114 t114 w->Q6 P T.f t114 w (dk Tr φ115 w)) fun φ115=>
  J3 Tr (fun φ117=> ∀t116 w,Br w->φ116 t116 w->Q6 P T.f t116 w (dk Tr φ117 w)) fun φ117=>
  J3 Tr (fun φ119=> ∀t118 w,Br w->φ118 t118 w->Q6 P T.f t118 w (dk Tr φ119 w)) fun φ119=>
  J3 Tr (fun φ120=> ∀t107 t109 w,Br w->φ107 t107 w->φ109 t109 w->mapEntry P T.a2 t107 t109 w (dk Tr φ120 w)) fun φ120=>
  J3 Tr (fun φ121=> ∀t120 w,Br w->φ120 t120 w->ext P t120 1 w (dk Tr φ121 w)) fun φ121=>
  J3 Tr (fun φ_18=> ∀t107 t121 t117 w,Br w->φ107 t107 w->φ121 t121 w->φ117 t117 w->entryStore P T.a2 t107 t121 t117 w (dk Tr φ_18 w)) fun φ_18=>
  J3 Tr (fun φ122=> ∀t113 t115 w,Br w->φ113 t113 w->φ115 t115 w->mapEntry P T.a2 t113 t115 w (dk Tr φ122 w)) fun φ122=>
  J3 Tr (fun φ123=> ∀t122 w,Br w->φ122 t122 w->ext P t122 1 w (dk Tr φ123 w)) fun φ123=>
  ∀t105 t106 t108 t111 t112 t114 t116 t118 t107 t109 t113 t115 t117 t119 t120 t121 u18 t122 t123 w,Br w->φ105 t105 w->φ106 t106 w->φ108 t108 w->φ111 t111 w->φ112 t112 w->φ114 t114 w->φ116 t116 w->φ118 t118 w->φ107 t107 w->φ109 t109 w->φ113 t113 w->φ115 t115 w->φ117 t117 w->φ119 t119 w->φ120 t120 w->φ121 t121 w->φ_18 u18 w->φ122 t122 w->φ123 t123 w->
  entryStore P T.a2 t113 t123 t119 w fun _u w=>
  dr w fun Tr Br=>
  J3 Tr (fun φ126=> ∀w,Br w->nilCheck P (.pointer (some ⟨bm,0,none⟩)) w (dk Tr φ126 w)) fun φ126=>
  J3 Tr (fun φ127=> ∀t126 w,Br w->φ126 t126 w->fieldAddr P T.p t126 4 w (dk Tr φ127 w)) fun φ127=>
  J3 Tr (fun φ129=> ∀w,Br w->fieldAddr P T.d (.pointer (some q1)) 3 w (dk Tr φ129 w)) fun φ129=>
  J3 Tr (fun φ131=> ∀w,Br w->fieldAddr P T.d (.pointer (some q2)) 3 w (dk Tr φ131 w)) fun φ131=>
  J3 Tr (fun φ128=> ∀t127 w,Br w->φ127 t127 w->Q6 P T.aa t127 w (dk Tr φ128 w)) fun φ128=>
  J3 Tr (fun φ130=> ∀t129 w,Br w->φ129 t129 w->Q6 P T.f t129 w (dk Tr φ130 w)) fun φ130=>
  J3 Tr (fun φ132=> ∀t131 w,Br w->φ131 t131 w->Q6 P T.f t131 w (dk Tr φ132 w)) fun φ132=>
  J3 Tr (fun φ133=> ∀t130 t132 w,Br w->φ130 t130 w->φ132 t132 w->B7 P T.av [(0,t130),(1,t132)] w (dk Tr φ133 w)) fun φ133=>
  J3 Tr (fun φ134=> ∀t133 w,Br w->φ133 t133 w->buildSlice P T.aa 1 [(0,t133)] w (dk Tr φ134 w)) fun φ134=>
  ∀t126 t127 t129 t131 t128 t130 t132 t133 t134 w,Br w->φ126 t126 w->φ127 t127 w->φ129 t129 w->φ131 t131 w->φ128 t128 w->φ130 t130 w->φ132 t132 w->φ133 t133 w->φ134 t134 w->
  V0 P .append [T.aa,T.aa] T.aa [false,false] [t128,t134] w fun t135 w=>
  nilCheck P (.pointer (some ⟨bm,0,none⟩)) w fun t136 w=>
  fieldAddr P T.p t136 4 w fun t137 w=>
  J9 P T.aa t137 t135 w fun _u w=>
  K (.tuple #[]) w)
set_option maxRecDepth 9999 in
set_option maxHeartbeats 2000000 in
theorem X1b (a3:X5N) (R:MSt w0 σ0 bm rt rf ha hb Q w σ m) (ay:O7 σ ha ta ra ca) (az:O7 σ hb tb rb cb) (ga: ∀c∈ca,GoodC W4 l ca c) (gb: ∀c∈cb,GoodC W4 l cb c) (la:ca.length<=1048576) (lb:cb.length<=1048576) (hl:m.1.length<=1048576)
 (h: ∀w' σ',SLe σ σ'->MSt w0 σ0 bm rt rf ha hb Q w' σ' (P1 (W1 ca) (W1 cb) m v u)->K (.tuple #[]) w'):
 Q0 P F.av [.pointer (some ⟨bm,0,none⟩), .agg [I v.sort,I v.n,S v.s,I v.ref].toArray, .agg [I u.sort,I u.n,S u.s,I u.ref].toArray] w K:=Kr (by
 unfold Mn;simp only[Y3,X3,L9,Xq];unfold Z8 Y1 X6 X4 X5;refine Z4 R.stp.sat fun q1 w1 σ1 k1 f=>?_;refine Z4 k1.sat fun q2 w2 σ2 k2 g=>?_;have f:=f.up k2;have R2:=(R.up k1).up k2;have J:SLe σ σ2:=(⟨k1.le⟩:SLe σ σ1).more ⟨k2.le⟩;have ab:=ay.lift J;have ac:=az.lift J;obtain ⟨lv,mt,mf,p,h2,h3,h4,O,h6,h7,h8⟩:=R2.ex;refine U8 k2.sat ?_;refine X0 (fun w hb=>G5 (Q8 rfl)) ?_;refine X0 (fun t w hb e=>by subst e;exact J4 (Q8 rfl)) ?_
 refine X0 (fun w hb=>G5 (Q8 rfl)) ?_;refine X0 (fun t w hb e=>by subst e;exact J4 (Q8 rfl)) ?_
 refine X0 (V:=ha) (fun t w hb e=>by subst e;exact I1 (i:=0) (p.up hb.stp) rfl (Q8 rfl)) ?_
 refine X0 (V:= .agg [I v.sort,I v.n,S v.s,I v.ref].toArray) (fun w hb=>Y7 hb.sat (f.up hb.stp) rfl (Q8 rfl)) ?_;refine X0 (V:= .bool (W1 ca v).isSome) (fun t t2 w hb e B=>by subst e;subst B;exact X4R hb.sat (ab.lift ⟨hb.stp.le⟩) ga fun w' σ' hk=>B5 hk.bel rfl) ?_
 refine X0 (V:=hb) (fun t w hb e=>by subst e;exact I1 (i:=1) (p.up hb.stp) rfl (Q8 rfl)) ?_
 refine X0 (V:= .agg [I u.sort,I u.n,S u.s,I u.ref].toArray) (fun w hb=>Y7 hb.sat (g.up hb.stp) rfl (Q8 rfl)) ?_;rintro _ _ _ _ _ _ _ _ _ w3 ax rfl rfl rfl rfl rfl rfl rfl rfl rfl;have k3:=ax.stp;refine X4R k3.sat (ac.lift ⟨k3.le⟩) gb fun w4 M k4=>?_;have C:=k3.trans k4;have D:=R2.up C;have f:=f.up C;have g:=g.up C;have q:SLe σ M:=J.more ⟨C.le⟩;clear p h2 h3 h4 O h6 h7 h8;obtain ⟨lv,mt,mf,p,h2,h3,h4,O,h6,h7,h8⟩:=D.ex;have s4:=D.stp.sat;unfold P1 at h;cases X:W1 ca v with
 | none=>
  cases N:W1 cb u with
  | none=>
   rw[X,N] at h;simp only[Option.isSome_none];refine Zv ?_;rw[Bool.not_false]
   (repeat refine Hd.h ?_)
   refine Z3 ?_;refine G5 ?_;refine J4 ?_;refine I1 (i:=5) p rfl ?_
   have d: ∀b,(m.2&&(!decide (v.sort=4)&&decide (v=u)))=b->nilCheck P (.pointer (some ⟨bm,0,none⟩)) w4 fun a4 w=>fieldAddr P T.p a4 5 w fun a5 w=>J9 P T.r a5 (.bool b) w fun _u w=>K (.tuple #[]) w:=fun b e=>by
    subst e;refine G5 ?_;refine J4 ?_;exact Cd D fun A z=>h A M q z
   cases r:m.2 with
   | false=>
    (repeat refine Hd.h ?_)
    exact d false (by rw[r];rfl)
   | true=>
    (repeat refine Hd.h ?_)
    refine ld (i:=0) s4 f rfl ?_
    (repeat refine Hd.h ?_)
    refine P8 ?_
    (repeat refine Hd.h ?_)
    cases e4:decide (v.sort=4) with
    | true=>
     rw[Bool.not_true]
     (repeat refine Hd.h ?_)
     exact d false (by rw[e4];simp)
    | false=>
     rw[Bool.not_false]
     (repeat refine Hd.h ?_)
     refine Y7 s4 f rfl ?_
     (repeat refine Hd.h ?_)
     refine Y7 s4 g rfl ?_
     (repeat refine Hd.h ?_)
     refine Mi ?_
     (repeat refine Hd.h ?_)
     exact d _ (by rw[r,e4];rfl)
  | some y=>
   rw[X,N] at h;simp only[Option.isSome_none,Option.isSome_some];refine Zv ?_;rw[Bool.not_false]
   (repeat refine Hd.h ?_)
   refine Z3 ?_;refine G5 ?_;refine J4 ?_;refine I1 (i:=5) p rfl ?_;cases r:m.2 with
   | false=>
    (repeat refine Hd.h ?_)
    refine G5 ?_;refine J4 ?_;exact Cd D fun A z=>h A M q z
   | true=>
    (repeat refine Hd.h ?_)
    refine G5 ?_;refine J4 ?_;exact Cd D fun A z=>h A M q z
 | some x=>
  cases N:W1 cb u with
  | none=>
   rw[X,N] at h;simp only[Option.isSome_none,Option.isSome_some];refine Zv ?_;rw[Bool.not_true]
   (repeat refine Hd.h ?_)
   refine Z3 ?_;refine G5 ?_;refine J4 ?_;refine I1 (i:=5) p rfl ?_;cases r:m.2 with
   | false=>
    (repeat refine Hd.h ?_)
    refine G5 ?_;refine J4 ?_;exact Cd D fun A z=>h A M q z
   | true=>
    (repeat refine Hd.h ?_)
    refine G5 ?_;refine J4 ?_;exact Cd D fun A z=>h A M q z
  | some y=>
   obtain ⟨bx,H,bz⟩:=Cb X;obtain ⟨bw,E,b0⟩:=Cb N;rw[X,N] at h;simp only at h;rw[X6i] at h;simp only[Option.isSome_some];refine Zv ?_;rw[Bool.not_true]
   (repeat refine Hd.h ?_)
   refine Z7 ?_;have gt:C3 mt v.ref=Oa m.1 x:=by rw[h6,H]
   have gf:C3 mf u.ref=Ml m.1 y:=by rw[h7,E]
   obtain ⟨zt,et,ht⟩:=X1u (o:=Oa m.1 x);obtain ⟨zf,ef,hf⟩:=X1u (o:=Ml m.1 y);refine U8 s4 ?_;refine X0 (fun w hb=>G5 (Q8 rfl)) ?_;refine X0 (fun t w hb e=>by subst e;exact J4 (Q8 rfl)) ?_
   refine X0 (fun w hb=>J4 (Q8 rfl)) ?_;refine X0 (V:= .map (some rt)) (fun t w hb e=>by subst e;exact I1 (i:=2) (p.up hb.stp) rfl (Q8 rfl)) ?_
   refine X0 (V:=I v.ref) (fun t w hb e=>by subst e;exact ld (i:=3) hb.sat (f.up hb.stp) rfl (Q8 rfl)) ?_
   refine X0 (V:= .tuple #[zt, .bool (Oa m.1 x).isSome]) (fun t t2 w hb e B=>by subst e;subst B;exact X8z (h4.up hb.stp) gt (by rw[et];exact Q8 rfl)) ?_
   refine X0 (V:=zt) (fun t w hb e=>by subst e;exact J8 (vs:=[_,_]) rfl (Q8 rfl)) ?_
   refine X0 (V:= .bool (Oa m.1 x).isSome) (fun t w hb e=>by subst e;exact J8 (vs:=[_,_]) rfl (Q8 rfl)) ?_
   rintro _ _ _ _ _ _ _ _ A Z rfl rfl rfl rfl rfl rfl rfl rfl;have W:=Z.stp;have p:=p.up W;have O:=O.up W;have f:=f.up W;have g:=g.up W;have z:=D.up W;clear h2 h4 h6 h8 Z;refine U8 W.sat ?_;refine X0 (fun w hb=>G5 (Q8 rfl)) ?_;refine X0 (fun t w hb e=>by subst e;exact J4 (Q8 rfl)) ?_
   refine X0 (fun w hb=>J4 (Q8 rfl)) ?_;refine X0 (V:= .map (some rf)) (fun t w hb e=>by subst e;exact I1 (i:=3) (p.up hb.stp) rfl (Q8 rfl)) ?_
   refine X0 (V:=I u.ref) (fun t w hb e=>by subst e;exact ld (i:=3) hb.sat (g.up hb.stp) rfl (Q8 rfl)) ?_
   refine X0 (V:= .tuple #[zf, .bool (Ml m.1 y).isSome]) (fun t t2 w hb e B=>by subst e;subst B;exact X8z (O.up hb.stp) gf (by rw[ef];exact Q8 rfl)) ?_
   refine X0 (V:=zf) (fun t w hb e=>by subst e;exact J8 (vs:=[_,_]) rfl (Q8 rfl)) ?_
   refine X0 (V:= .bool (Ml m.1 y).isSome) (fun t w hb e=>by subst e;exact J8 (vs:=[_,_]) rfl (Q8 rfl)) ?_
   rintro _ _ _ _ _ _ _ _ w6 aa rfl rfl rfl rfl rfl rfl rfl rfl;have k6:=aa.stp;have p:=p.up k6;have f:=f.up k6;have g:=g.up k6;have R6:=z.up k6;have s6:=k6.sat;clear O h7 aa
   have d: ∀b,(m.2&&decide ((x,y)∈m.1))=b->((Oa m.1 x).isSome||(Ml m.1 y).isSome)=true->nilCheck P (.pointer (some ⟨bm,0,none⟩)) w6 fun ae w=>fieldAddr P T.p ae 5 w fun af w=>J9 P T.r af (.bool b) w fun _u w=>K (.tuple #[]) w:=fun b e B=>by
    subst e;rw[if_pos B] at h;refine G5 ?_;refine J4 ?_;exact Cd R6 fun w7 R7=>h w7 M q R7
   cases k:Oa m.1 x with
   | none=>
    have L:decide ((x,y)∈m.1)=false:=decide_eq_false fun U=>Q1z k _ U rfl;cases j:Ml m.1 y with
    | none=>
     rw[k,j,if_neg U5] at h;simp only[Option.isSome_none]
     (repeat refine Hd.h ?_)
     refine Z7 ?_;exact a3 R6 f g H E Q5 Q5 hl k j fun w7 σ7 a2 R7=>h w7 σ7 (q.more a2) R7
    | some z2=>
     rw[k,j,L] at d;simp only[Option.isSome_none,Option.isSome_some]
     (repeat refine Hd.h ?_)
     refine Z3 ?_;refine G5 ?_;refine J4 ?_;refine I1 (i:=5) p rfl ?_;cases r:m.2 with
     | false=>
      (repeat refine Hd.h ?_)
      exact d false (by rw[r];rfl) rfl
     | true=>
      (repeat refine Hd.h ?_)
      exact d false (by rw[r];rfl) rfl
   | some z1=>
    have e1:=ht z1 k;subst e1;obtain ⟨b,ap,Y⟩:=X0a k;subst ap;cases j:Ml m.1 y with
    | none=>
     have L:decide ((x,y)∈m.1)=false:=decide_eq_false fun U=>Q0t j _ U rfl;rw[k,j,L] at d;simp only[Option.isSome_none,Option.isSome_some]
     (repeat refine Hd.h ?_)
     refine Z3 ?_;refine G5 ?_;refine J4 ?_;refine I1 (i:=5) p rfl ?_;cases r:m.2 with
     | false=>
      (repeat refine Hd.h ?_)
      exact d false (by rw[r];rfl) rfl
     | true=>
      (repeat refine Hd.h ?_)
      exact d false (by rw[r];rfl) rfl
    | some z2=>
     have B:=hf z2 j;subst B;obtain ⟨a,ao,aw⟩:=Q99 j;subst ao
     have an:decide ((x,y)∈m.1)=(decide ((b:Int)=u.ref)&&decide ((a:Int)=v.ref)):=by
      rw[E,H,Bool.eq_iff_iff];simp only[Bool.and_eq_true,decide_eq_true_eq];constructor
      .intro U
       have g1:=R6.uq.1 _ Y _ U rfl;have g2:=R6.uq.2 _ aw _ U rfl
       injection g1 with _ g1
       injection g2 with g2 _
       omega
      .rintro ⟨g1,_⟩
       have:b=y:=by omega
       exact this▸Y
     rw[k,j,an] at d;simp only[Option.isSome_some]
     (repeat refine Hd.h ?_)
     refine Z3 ?_;refine G5 ?_;refine J4 ?_;refine I1 (i:=5) p rfl ?_;cases r:m.2 with
     | false=>
      (repeat refine Hd.h ?_)
      exact d false (by rw[r];rfl) rfl
     | true=>
      (repeat refine Hd.h ?_)
      refine ld (i:=3) s6 g rfl ?_
      (repeat refine Hd.h ?_)
      refine B1 ?_
      (repeat refine Hd.h ?_)
      cases ec:decide ((b:Int)=u.ref) with
      | false=>
       (repeat refine Hd.h ?_)
       exact d false (by rw[r,ec];rfl) rfl
      | true=>
       (repeat refine Hd.h ?_)
       refine ld (i:=3) s6 f rfl ?_
       (repeat refine Hd.h ?_)
       refine B1 ?_
       (repeat refine Hd.h ?_)
       exact d _ (by rw[r,ec];rfl) rfl)
end Go.Proofs.Y
namespace Go.Emb
open Go.RowKit
variable {P : Program} {w w' : World} {K : Value -> World -> Prop} {r : Nat} {m : List (Int × Value)} {k : Int} {c : Nat} {v : Value}
def E1 (r:Nat) (m:List (Int×Value)) (k:Int) (c:Nat) (w:World):Prop:= ∃z,Q2A (w.heap[r]?) (m++[(k,z)]) k c
def E2 (r:Nat) (m:List (Int×Value)) (k:Int) (c:Nat) (v:Value) (w:World):Prop:=Q2A (w.heap[r]?) (m++[(k,v)]) k c
def E0 (r:Nat) (m:List (Int×Value)) (k:Int) (c:Nat) (w:World):Prop:=X4D (w.heap[r]?) m c\/E1 r m k c w
theorem X48 {z:Value} (h:C3 m k=none):Uv (m++[(k,z)]) k v=m++[(k,v)]:=by
 induction m with
 | nil=>simp[Uv]
 | cons p q a=>
  simp only[C3] at h
  split at h
  .cases h
  .rename_i e
   simp only[List.cons_append,Uv,if_neg e,a h]
theorem X1l {t j g:TypeId} {sz b:Nat} {z:Value} [tm:TM P t j g] [tz:TZ P g sz b z] (i:P.underlying j=some (.int .i64)) (n:C3 m k=none) (l:E0 r m k c w)
 (h: ∀z w',(w'=w\/Upd w r w')->E1 r m k c w'->(E2 r m k c v w->E2 r m k c v w')->K (.tuple #[z,I c]) w'):mapEntry P t (.map (some r)) (I k) w K:=by
 by_cases f:E1 r m k c w
 .obtain ⟨x,a⟩:=f
  exact X3G i a fun z=>h z w (.inl rfl) ⟨x,a⟩ id
 .exact X3F i (l.resolve_right f) n fun w' u a=>h _ w' (.inr u) ⟨_,a⟩ fun e=>absurd ⟨_,e⟩ f
theorem X1L {t:TypeId} (e:C3 m k=none) (b:E1 r m k c w) (h: ∀w',Upd w r w'->E2 r m k c v w'->K undef w'):entryStore P t (.map (some r)) (I c) v w K:=by
 obtain ⟨x,f⟩:=b;refine X4Z f v fun w' u a=>h w' u ?_;unfold E2;rw[X48 e] at a;exact a
variable {w0 : World} {σ : Q2} {rt rf : Nat} {mt mf : List (Int × Value)} {x y : Int} {d : Nat}
structure TwoB (w0 : World) (σ : Q2) (rt rf : Nat) (mt mf : List (Int × Value)) (x y : Int) (c d : Nat) (w : World) : Prop where
  kp : Kpt (fun j => j = rt \/ j = rf) w0 w
  sat : X7 w σ
  a : E0 rt mt x c w
  b : E0 rf mf y d w
structure TwoT (w0 : World) (σ : Q2) (rt rf : Nat) (mt mf : List (Int × Value)) (x y : Int) (c d : Nat) (v : Value) (w w' : World) : Prop where
  t : TwoB w0 σ rt rf mt mf x y c d w -> TwoB w0 σ rt rf mt mf x y c d w'
  a1 : E1 rt mt x c w -> E1 rt mt x c w'
  a2 : E2 rt mt x c v w -> E2 rt mt x c v w'
  b1 : E1 rf mf y d w -> E1 rf mf y d w'
theorem TwoT.refl:TwoT w0 σ rt rf mt mf x y c d v w w:=⟨id,id,id,id⟩
theorem TwoT.turnA (n:σ rt=none) (l:σ rf=none) (i:rt≠rf) (u:w'=w\/Upd w rt w') (e:E1 rt mt x c w') (g:E2 rt mt x c v w->E2 rt mt x c v w'):TwoT w0 σ rt rf mt mf x y c d v w w':=by
 rcases u with rfl | u
 .exact .refl
 .have a:w'.heap[rf]? =w.heap[rf]? :=u.block rf i.symm
  have f:Kpt (fun j=>j=rt\/j=rf) w w':=Kpt.of_upd u (.inl rfl);refine ⟨fun B=>⟨B.kp.trans f,f.sat B.sat (by rintro k (rfl | rfl)<;>assumption), .inr e,?_⟩,fun _=>e,g,fun h=>?_⟩
  .have:=B.b;unfold E0 E1 at this⊢;rw[a];exact this
  .unfold E1 at h⊢;rw[a];exact h
theorem TwoT.turnB (l:σ rt=none) (i:σ rf=none) (g:rt≠rf) (u:w'=w\/Upd w rf w') (e:E1 rf mf y d w'):TwoT w0 σ rt rf mt mf x y c d v w w':=by
 rcases u with rfl | u
 .exact .refl
 .have b:w'.heap[rt]? =w.heap[rt]? :=u.block rt g
  have f:Kpt (fun j=>j=rt\/j=rf) w w':=Kpt.of_upd u (.inr rfl);refine ⟨fun B=>⟨B.kp.trans f,f.sat B.sat (by rintro k (rfl | rfl)<;>assumption),?_, .inr e⟩,fun h=>?_,fun h=>?_,fun _=>e⟩
  .have:=B.a;unfold E0 E1 at this⊢;rw[b];exact this
  .unfold E1 at h⊢;rw[b];exact h
  .unfold E2 at h⊢;rw[b];exact h
theorem TwoB.lies (B:TwoB w0 σ rt rf mt mf x y c d w) {b:Nat} {cs:List Value} (h:Y8 σ w0 b cs) (a:b≠rt) (f:b≠rf):Y8 σ w b cs:=
 h.kp B.kp (by rintro (e | e);exact a e;exact f e)
end Go.Emb
namespace Go.Hm
open Go.Emb Go.RowKit
theorem Q5Y {m:List (Int×Value)} {k n:Int} {v:Value} (h:C3 m k=none):C3 (m++[(k,v)]) n=if k=n then some v else C3 m n:=by
 rw[<-X49 h]
 induction m with
 | nil=>simp[Uv,C3]
 | cons p q f=>
  simp only[C3] at h
  split at h
  .cases h
  .rename_i e
   simp only[Uv,if_neg e,C3]
   split
   .rename_i a
    rw[if_neg (fun b=>e (a.trans b.symm))]
   .exact f h
theorem X7q {a:List (Nat×Nat)} {x y:Nat} (h:Oa a x=none) (n:Int):Oa (a++[(x,y)]) n=if (x:Int)=n then some (I y) else Oa a n:=by
 unfold Oa at*;rw[List.find?_append]
 by_cases e:(x:Int)=n
 .rw[if_pos e,<-e]
  rw[Option.map_eq_none_iff] at h;rw[h]
  simp
 .rw[if_neg e]
  simp[e]
theorem X6O {a:List (Nat×Nat)} {x y:Nat} (h:Ml a y=none) (n:Int):Ml (a++[(x,y)]) n=if (y:Int)=n then some (I x) else Ml a n:=by
 unfold Ml at*;rw[List.find?_append]
 by_cases e:(y:Int)=n
 .rw[if_pos e,<-e]
  rw[Option.map_eq_none_iff] at h;rw[h]
  simp
 .rw[if_neg e]
  simp[e]
theorem UqP.app {f:List (Nat×Nat)} {x y:Nat} (h:UqP f) (g:Oa f x=none) (i:Ml f y=none):UqP (f++[(x,y)]):=by
 constructor
 .intro p a q b e
  rw[List.mem_append,List.mem_singleton] at a b
  rcases a with a | rfl<;>rcases b with b | rfl
  .exact h.1 p a q b e
  .exact absurd e (Q1z g p a)
  .exact absurd e.symm (Q1z g q b)
  .rfl
 .intro p a q b e
  rw[List.mem_append,List.mem_singleton] at a b
  rcases a with a | rfl<;>rcases b with b | rfl
  .exact h.2 p a q b e
  .exact absurd e (Q0t i p a)
  .exact absurd e.symm (Q0t i q b)
  .rfl
end Go.Hm
namespace Go.Proofs.Y
open Go.Emb Go.RowKit Go.Kd Go.Hm
set_option maxHeartbeats 2000000 in
theorem X41:X5N:=fun {w w0 K σ σ0 s rt rf ha f Q m q1 q2 v u x y} R N O hv hu hx hy hl nt nf h=>by
 obtain ⟨lv,mt,mf,h1,h2,Y,A,C,h6,h7,h8⟩:=R.ex;have n1:=R.n1;have n2:=R.n2;have n3:=R.n3;have lt:C3 mt x=none:=by rw[h6,nt]
 have lf:C3 mf y=none:=by rw[h7,nf]
 obtain ⟨c,hc⟩:=A.2.clock;obtain ⟨d,hd⟩:=C.2.clock;have kd:Kpt (fun j=>j=rt\/j=rf) w w.drew:=Kpt.of_below (Below.refl _ _).drew;refine Pe (TwoT w σ rt rf mt mf x y c d (I y)) (TwoB w σ rt rf mt mf x y c d) ⟨kd,kd.sat R.stp.sat (by rintro k (rfl | rfl);exact A.1;exact C.1), .inl hc, .inl hd⟩ (fun _ _ B z=>z.t B) ?_
 refine X0 (V:= .pointer (some ⟨s,0,none⟩)) (fun w B=>G5 ⟨.refl,rfl⟩) ?_;refine X0 (V:= .pointer (some ((⟨s,0,none⟩:Addr).add 2))) (fun t w B e=>by subst e;exact J4 ⟨.refl,rfl⟩) ?_
 refine X0 (V:= .pointer (some (q1.add 3))) (fun w B=>J4 ⟨.refl,rfl⟩) ?_;refine X0 (V:= .pointer (some ⟨s,0,none⟩)) (fun w B=>G5 ⟨.refl,rfl⟩) ?_;refine X0 (V:= .pointer (some ((⟨s,0,none⟩:Addr).add 3))) (fun t w B e=>by subst e;exact J4 ⟨.refl,rfl⟩) ?_
 refine X0 (V:= .pointer (some (q2.add 3))) (fun w B=>J4 ⟨.refl,rfl⟩) ?_;refine X0 (V:= .pointer (some (q2.add 3))) (fun w B=>J4 ⟨.refl,rfl⟩) ?_;refine X0 (V:= .pointer (some (q1.add 3))) (fun w B=>J4 ⟨.refl,rfl⟩) ?_;refine X0 (V:= .map (some rt)) (fun t w B e=>by subst e;exact I1 (i:=2) (B.lies h1 n1 n2) rfl ⟨.refl,rfl⟩) ?_
 refine X0 (V:=I v.ref) (fun t w B e=>by subst e;exact ld (i:=3) B.sat N rfl ⟨.refl,rfl⟩) ?_
 refine X0 (V:= .map (some rf)) (fun t w B e=>by subst e;exact I1 (i:=3) (B.lies h1 n1 n2) rfl ⟨.refl,rfl⟩) ?_
 refine X0 (V:=I u.ref) (fun t w B e=>by subst e;exact ld (i:=3) B.sat O rfl ⟨.refl,rfl⟩) ?_
 refine X0 (V:=I u.ref) (fun t w B e=>by subst e;exact ld (i:=3) B.sat O rfl ⟨.refl,rfl⟩) ?_
 refine X0 (V:=I v.ref) (fun t w B e=>by subst e;exact ld (i:=3) B.sat N rfl ⟨.refl,rfl⟩) ?_
 rw[hv,hu]
 refine R3 (fun z w=>(∃a,z= .tuple #[a,I c])/\E1 rt mt x c w) (fun _ _ _ h z=>⟨h.1,z.a1 h.2⟩) (fun t1 t2 w B e1 l=>by
  subst e1;subst l;exact X1l (v:=I y) (tz:=inferInstance) Rb lt B.a fun z w' u e i=>⟨.turnA A.1 C.1 n3 u e i,⟨z,rfl⟩,e⟩) ?_
 refine R3 (fun z w=>z=I c/\E1 rt mt x c w) (fun _ _ _ h z=>⟨h.1,z.a1 h.2⟩) (fun t w B e=>by
  obtain ⟨⟨a,rfl⟩,e⟩:=e;exact J8 (vs:=[_,_]) rfl ⟨.refl,rfl,e⟩) ?_
 refine R3 (fun _ w=>E2 rt mt x c (I y) w) (fun _ _ _ h z=>z.a2 h) (fun t1 t2 t3 w B e1 l e3=>by
  subst e1;subst e3;obtain ⟨rfl,e⟩:=l;exact X1L lt e fun w' u l=>⟨.turnA A.1 C.1 n3 (.inr u) ⟨_,l⟩ fun _=>l,l⟩) ?_
 refine R3 (fun z w=>(∃a,z= .tuple #[a,I d])/\E1 rf mf y d w) (fun _ _ _ h z=>⟨h.1,z.b1 h.2⟩) (fun t1 t2 w B e1 l=>by
  subst e1;subst l;exact X1l (v:=I y) (tz:=inferInstance) Rb lf B.b fun z w' u e _=>⟨.turnB A.1 C.1 n3 u e,⟨z,rfl⟩,e⟩) ?_
 refine R3 (fun z w=>z=I d/\E1 rf mf y d w) (fun _ _ _ h z=>⟨h.1,z.b1 h.2⟩) (fun t w B e=>by
  obtain ⟨⟨a,rfl⟩,e⟩:=e;exact J8 (vs:=[_,_]) rfl ⟨.refl,rfl,e⟩) ?_
 rintro _ _ _ _ _ _ _ _ _ _ _ _ _ _ bk bl ca bn bo w1 B rfl rfl rfl rfl rfl rfl rfl rfl rfl rfl rfl rfl rfl rfl- -M-⟨rfl,eb⟩;refine X1L (v:=I x) lf eb fun L u2 ec=>?_;have J:Kpt (fun j=>j=rt\/j=rf) w L:=B.kp.trans (Kpt.of_upd u2 (.inr rfl));have s2:X7 L σ:=J.sat R.stp.sat (by rintro k (rfl | rfl);exact A.1;exact C.1)
 have S2:Stp w0 σ0 L σ:=R.stp.nx ⟨J,SLe.refl _,fun _ _=>rfl,s2⟩ (by rintro k (rfl | rfl);exact R.gt;exact R.gf)
 have M:E2 rt mt x c (I y) L:=by unfold E2 at M⊢;rw[u2.block rt n3];exact M
 have m4:T7 σ L rt (mt++[((x:Int),I y)]):=⟨A.1,M.is⟩;have m5:T7 σ L rf (mf++[((y:Int),I x)]):=⟨C.1,ec.is⟩;have Z:=h1.kp J (by rintro (e | e);exact n1 e;exact n2 e)
 have m2:=h2.kp J (by rintro k g (e | e);exact (Y k g).2.1 e;exact (Y k g).2.2 e)
 have m8: ∀b cs,Q b cs->Y8 σ L b cs/\b≠s/\b≠rt/\b≠rf/\lv.ownBlock≠some b:=fun b cs q=>by
  obtain ⟨W,X⟩:=h8 b cs q;exact ⟨W.kp J (by rintro (e | e);exact X.2.1 e;exact X.2.2.1 e),X⟩
 clear h1 h2 A C h8 M ec eb B hc hd;have g6: ∀n,C3 (mt++[((x:Int),I y)]) n=Oa (m.1++[(x,y)]) n:=fun n=>by rw[Q5Y lt,X7q nt,h6]
 have g7: ∀n,C3 (mf++[((y:Int),I x)]) n=Ml (m.1++[(x,y)]) n:=fun n=>by rw[Q5Y lf,X6O nf,h7]
 refine U8 s2 ?_;refine X0 (fun w f=>G5 (Q8 rfl)) ?_;refine X0 (fun t w f e=>by subst e;exact J4 (Q8 rfl)) ?_
 refine X0 (fun w f=>J4 (Q8 rfl)) ?_;refine X0 (fun w f=>J4 (Q8 rfl)) ?_;refine X0 (V:=lv) (fun t w f e=>by subst e;exact I1 (i:=4) (Z.up f.stp) rfl (Q8 rfl)) ?_
 refine X0 (V:=I v.ref) (fun t w f e=>by subst e;exact ld (i:=3) f.sat (N.up f.stp) rfl (Q8 rfl)) ?_
 refine X0 (V:=I u.ref) (fun t w f e=>by subst e;exact ld (i:=3) f.sat (O.up f.stp) rfl (Q8 rfl)) ?_
 rw[hv,hu];refine X0 (V:= .agg #[I x,I y]) (fun t t2 w f e l=>by subst e;subst l;exact N3 X8 (Q8 rfl)) ?_
 refine Um (w:=L) (σ:=σ) (Φ:=fun σ' v=>Sl 2 RPr σ' v [(x,y)]) (fun t w f e=>by
  subst e;exact P4 (R:=RPr) (sz:=2) f.sat [.agg #[I x,I y]] [(x,y)] rfl rfl (by simp;rfl) rfl ⟨⟨rfl,hx,hy⟩,trivial⟩ fun v' w' σ' g av=>Eb f g av) ?_
 rintro _ _ _ _ _ _ _ _ _ w3 b4 rfl rfl rfl rfl rfl rfl rfl rfl ⟨σ3,p,aw⟩;have S3:=S2.trans p;have Z:=Z.up p;have m2:=m2.up p;have m4:=m4.up p;have m5:=m5.up p;refine Q66 S3.sat S3.bel.size m2 aw (by rfl) (by simp;omega) (by simp;omega) fun v4 w4 aq ar U ap=>?_
 have o:Kpt (fun k=>lv.ownBlock=some k) w3 w4:=aq.mono fun k _ e=>e.1
 have E: ∀k,v4.ownBlock=some k->lv.ownBlock=some k\/w3.heap.size<=k:=fun k g=>by
  rcases ap with ⟨a,bw,M,eb⟩ | ⟨_,ab⟩
  .left;rw[M];rw[eb] at g;cases a<;>exact g
  .exact .inr (ab k g)
 have S4:Stp w0 σ0 w4 σ3:=S3.nx ⟨o,SLe.refl _,fun _ _=>rfl,ar⟩ fun k g=>(m2.mem g).1;have Z:=Z.kp o fun e=>(Y s e).1 rfl;have m4:=T7.kp m4 o fun e=>(Y rt e).2.1 rfl;have m5:=T7.kp m5 o fun e=>(Y rf e).2.2 rfl;have l1:s<w3.heap.size:=by have:=R.ex;obtain ⟨_,_,_,z,_⟩:=this;have:=z.lt;have:=J.size;have:=p.bel.size;omega
 have b8:rt<w3.heap.size:=by have:=R.ex;obtain ⟨_,_,_,_,_,_,z,_⟩:=this;have:=z.lt;have:=J.size;have:=p.bel.size;omega
 have b7:rf<w3.heap.size:=by have:=R.ex;obtain ⟨_,_,_,_,_,_,_,z,_⟩:=this;have:=z.lt;have:=J.size;have:=p.bel.size;omega
 have H: ∀k,v4.ownBlock=some k->k≠s/\k≠rt/\k≠rf:=fun k g=>by
  rcases E k g with e | e
  .exact Y k e
  .exact ⟨by omega,by omega,by omega⟩
 refine G5 ?_;refine J4 ?_;refine Yj (i:=4) Z U5 (by obtain ⟨a,c,rfl,_⟩:=U;rfl) (by obtain ⟨a,c,rfl,_⟩:=U;rfl) fun w5 u5 ac=>?_
 refine h w5 σ3 ⟨p.le⟩ ⟨u5.stp S4 R.gm ac.1,R.gm,R.gt,R.gf,n1,n2,n3,R.uq.app nt nf,v4,_,_,ac,U.kp (D:=fun j=>j=s) (Kpt.of_upd u5 rfl) fun k g e=>(H k g).1 e,H,m4.upd u5 fun e=>n1 e.symm,m5.upd u5 fun e=>n2 e.symm,g6,g7,fun b cs q=>?_⟩;obtain ⟨W,X,g3,g4,g5⟩:=m8 b cs q;have W:=W.up p;refine ⟨(W.kp o fun e=>g5 e).upd u5 X,X,g3,g4,fun e=>?_⟩
 rcases E b e with e | e
 .exact g5 e
 .have:=W.lt;omega
end Go.Proofs.Y
namespace Go.Hm
open Go.Kd Go.Emb
variable {l : List Cla} {ca cb : List Cel} {v u : Val} {m : Wp}
structure PrsOk (ca cb : List Cel) (m : Wp) : Prop where
  nd : (m.1.map (·.1)).Nodup
  la : ∀ p ∈ m.1, p.1 < ca.length
  lb : ∀ p ∈ m.1, p.2 < cb.length
theorem PrsOk.len (h:PrsOk ca cb m):m.1.length<=ca.length:=by
 have:=Q5j h.nd (n:=ca.length) (fun x b=>by obtain ⟨p,a,rfl⟩:=List.mem_map.1 b;exact h.la p a)
 simpa using this
theorem PrsOk.nil {b:Bool}:PrsOk ca cb ([],b):=⟨List.nodup_nil,by simp,by simp⟩
theorem PrsOk.mat (h:PrsOk ca cb m):PrsOk ca cb (P1 (W1 ca) (W1 cb) m v u):=by
 unfold P1;cases f:W1 ca v with
 | none=>cases d:W1 cb u<;>exact ⟨h.nd,h.la,h.lb⟩
 | some x=>
  cases d:W1 cb u with
  | none=>exact ⟨h.nd,h.la,h.lb⟩
  | some y=>
   simp only
   split
   .exact ⟨h.nd,h.la,h.lb⟩
   .rename_i g
    have c:x∉m.1.map (·.1):=fun c=>g (by
     obtain ⟨p,hp,e⟩:=List.mem_map.1 c;exact List.any_eq_true.2 ⟨p,hp,by simp[e]⟩)
    refine ⟨?_,fun p hp=>?_,fun p hp=>?_⟩
    .rw[List.map_append,List.nodup_append]
     exact ⟨h.nd,by simp,fun a ha b hb e=>by simp at hb;subst hb;exact c (e▸ha)⟩
    .rcases List.mem_append.1 hp with hp | hp
     .exact h.la p hp
     .simp at hp;subst hp;exact Yt _ _ f
    .rcases List.mem_append.1 hp with hp | hp
     .exact h.lb p hp
     .simp at hp;subst hp;exact Yt _ _ d
theorem PrsOk.all: ∀(a:List (Val×Val)) {m:Wp},PrsOk ca cb m->PrsOk ca cb (I2 (W1 ca) (W1 cb) m a)
 | [],_,h=>h
 | z::a,_,h=>PrsOk.all a h.mat
theorem PrsOk.step {a b:Nat->X2} {x y:Nat} (h:PrsOk ca cb m):PrsOk ca cb (Cg (Y9 l ca) (Y9 l cb) a b (W1 ca) (W1 cb) m x y):=by
 have:=PrsOk.all ((Y9 l ca x).zip (Y9 l cb y)) h;exact ⟨this.nd,this.la,this.lb⟩
theorem PrsOk.ali: ∀i,PrsOk ca cb (Qa l ca cb v u i)
 | 0=>PrsOk.nil.mat
 | i+1=>by
  rw[Q2D]
  split
  .exact (PrsOk.ali i).step
  .exact PrsOk.ali i
def Aj (ta tb:Val->Option Nat) (xs:List Val) (m:Wp) (j:Nat) (u:Val):Wp:=match xs[j]? with
 | some v=>P1 ta tb m v u
 | none=>m
theorem Q84 {ta tb:Val->Option Nat} {xs ys:List Val} {j:Nat} (c:j<ys.length):I2 ta tb m ((xs.zip ys).take (j+1))=Aj ta tb xs (I2 ta tb m ((xs.zip ys).take j)) j ys[j]:=by
 unfold Aj
 by_cases a:j<xs.length
 .have b:j<(xs.zip ys).length:=by simp;omega
  rw[List.take_add_one,List.getElem?_eq_getElem b,Option.toList_some,List.getElem?_eq_getElem a];unfold I2;rw[List.foldl_append]
  simp
 .rw[List.take_of_length_le (by simp;omega),List.take_of_length_le (by simp;omega),List.getElem?_eq_none Q5]
end Go.Hm
namespace Go.Proofs.Y
open Go.Emb Go.RowKit Go.Kd Go.Hm
variable {w w' w0 : World} {K : Value -> World -> Prop} {σ σ' σ0 : Q2} {ra rb : Int} {ca cb : List Cel} {ha hb ta tb : Value} {l : List Cla} {v u : Val} {bm rt rf : Nat} {m : Wp} {Q : Nat -> List Value -> Prop}
def QN (b:Nat) (i:Int):Nat->List Value->Prop:=fun k cs=>k=b/\cs=[I i]
theorem MSt.add {b:Nat} {i:Int} (R:MSt w0 σ0 bm rt rf ha hb (fun _ _=>False) w σ m) (k:Stp w σ w' σ') (n:w.heap.size<=b) (o:Y8 σ' w' b [I i]):MSt w0 σ0 bm rt rf ha hb (QN b i) w' σ' m:=by
 have R':=R.up k;obtain ⟨p,r,q,a,c,g,d,f,h,j,_⟩:=R.ex;have t:=a.lt;have y:=d.lt;have z:=f.lt;refine ⟨R'.stp,R.gm,R.gt,R.gf,R.n1,R.n2,R.n3,R.uq,p,r,q,a.up k,c.up k,g,d.up k,f.up k,h,j,?_⟩;rintro s cs ⟨rfl,rfl⟩;exact ⟨o,by omega,by omega,by omega,fun e=>by have:=c.mem e;omega⟩
theorem MSt.drop (R:MSt w0 σ0 bm rt rf ha hb Q w σ m):MSt w0 σ0 bm rt rf ha hb (fun _ _=>False) w σ m:=by
 obtain ⟨h,j,i,a,b,c,d,e,f,g,_⟩:=R.ex;exact ⟨R.stp,R.gm,R.gt,R.gf,R.n1,R.n2,R.n3,R.uq,h,j,i,a,b,c,d,e,f,g,nofun⟩
theorem MSt.num {b:Nat} {i:Int} (R:MSt w0 σ0 bm rt rf ha hb (QN b i) w σ m):Y8 σ w b [I i]:=by
 obtain ⟨k,o,n,c,d,e,f,g,h,j,a⟩:=R.ex;exact (a b _ ⟨rfl,rfl⟩).1
theorem MSt.turn {b:Nat} {i j:Int} (R:MSt w0 σ0 bm rt rf ha hb (QN b i) w σ m) (y:w0.heap.size<=b) (u:Upd w b w') (A:Y8 σ w' b [I j]):MSt w0 σ0 bm rt rf ha hb (QN b j) w' σ m:=by
 obtain ⟨B,E,C,h,n,o,p,q,r,s,t⟩:=R.ex;obtain ⟨g,a,c,d,f⟩:=t b _ ⟨rfl,rfl⟩;refine ⟨u.stp R.stp y g.1,R.gm,R.gt,R.gf,R.n1,R.n2,R.n3,R.uq,B,E,C,h.upd u fun e=>a e.symm,n.kp (D:=fun j=>j=b) (Kpt.of_upd u rfl) fun k z e=>f (e▸z),o,p.upd u fun e=>c e.symm,q.upd u fun e=>d e.symm,r,s,?_⟩;rintro H cs ⟨rfl,rfl⟩;exact ⟨A,a,c,d,f⟩
structure LSt (w0 : World) (σ0 : Q2) (b : Nat) (w : World) (σ : Q2) (xs : List Val) : Prop where
  stp : Stp w0 σ0 w σ
  gb : w0.heap.size <= b
  ex : ∃ lv, Y8 σ w b [lv] /\ W7 w0.heap.size T.d 4 E4 σ w lv xs /\ lv.ownBlock ≠ some b
theorem LSt.up {b:Nat} {xs:List Val} (R:LSt w0 σ0 b w σ xs) (k:Stp w σ w' σ'):LSt w0 σ0 b w' σ' xs:=by
 obtain ⟨e,a,c,d⟩:=R.ex;exact ⟨R.stp.trans k,R.gb,e,a.up k,c.up k,d⟩
theorem LSt.keep {b:Nat} {xs:List Val} (R:LSt w0 σ0 b w σ xs): ∃a σ',Stp w0 σ0 w σ'/\SLe σ σ'/\J7 σ' ⟨b,0,none⟩ [a]/\Sl 4 E4 σ' a xs:=by
 obtain ⟨a,d,i,j⟩:=R.ex;obtain ⟨σ1,g,p,n,o1⟩:=i.keep R.stp;have c:Y8 σ1 w b [a]:=⟨(o1 b fun e=>j e.symm).trans d.1,d.2⟩;obtain ⟨r,h,q,f,_⟩:=c.keep g R.gb;exact ⟨a,r,h,⟨fun k o e=>f k o (n k o e)⟩,q,p.lift ⟨f⟩⟩
def VB (v:Val):Prop:=Xv v.sort/\Xv v.n/\v.s.length<=W6/\Xv v.ref
theorem X7G {b:Nat} {xs:List Val} (R:LSt w0 σ0 b w σ xs) (U:VB v) (Y:xs.length<=1000000000000)
 (h: ∀w' σ',SLe σ σ'->LSt w0 σ0 b w' σ' (xs++[v])->K (.tuple #[]) w'):Q0 P F.cJ [.agg [I v.sort,I v.n,S v.s,I v.ref].toArray, .pointer (some ⟨b,0,none⟩)] w K:=Q8f (by
 unfold Q1L;refine Z4 R.stp.sat fun q w1 σ1 g O=>?_;obtain ⟨Z,p,L,z⟩:=(R.up g).ex;have E:=R.stp.trans g;refine Ou p rfl ?_;refine Y7 g.sat O rfl ?_;refine P4 (R:=E4) (sz:=4) g.sat [.agg [I v.sort,I v.n,S v.s,I v.ref].toArray] [v] rfl rfl (by simp;rfl) rfl ⟨⟨rfl,U⟩,trivial⟩ fun v2 V X o y=>?_
 have H:=E.trans o;refine Jm H (L.up o) y (by rfl) (by simp;omega) (by simp;omega) fun B w3 C J a t=>?_
 have r:=(p.up o).nx C fun e=>z e;have M:b<V.heap.size:=(p.up o).lt;refine Yj (i:=0) r U5 (by obtain ⟨c,⟨_,e⟩,_⟩:=a;rcases e with ⟨e,_⟩ | ⟨_,_,_,e,_⟩<;>(rw[e];rfl)) (by obtain ⟨c,⟨_,e⟩,_⟩:=a;rcases e with ⟨e,_⟩ | ⟨_,_,_,e,_⟩<;>(rw[e];rfl)) fun W A d=>?_
 have f:B.ownBlock≠some b:=fun e=>by
  rcases t with e2 | e2
  .exact z (e2▸e)
  .have:=e2 b e;omega
 exact h W X ((⟨g.le⟩:SLe σ σ1).more ⟨o.le⟩) ⟨A.stp J R.gb d.1,R.gb,B,d,a.kp (D:=fun j=>j=b) (Kpt.of_upd A rfl) fun k N e=>f (e▸N),f⟩)
set_option maxHeartbeats 1000000 in
theorem X7H {b j:Nat} {W y:Addr} {xs:List Val} {B:Value} (R:MSt w0 σ0 bm rt rf ha hb (QN b j) w σ m) (hg:w0.heap.size<=b) (f:J7 σ y [B]) (a:Sl 4 E4 σ B xs) (C:J7 σ W [.pointer (some ⟨bm,0,none⟩)])
 (H:O7 σ ha ta ra ca) (J:O7 σ hb tb rb cb) (Y: ∀c∈ca,GoodC W4 l ca c) (Z: ∀c∈cb,GoodC W4 l cb c) (la:ca.length<=1048576) (lb:cb.length<=1048576) (hl:m.1.length<=1048576) (p:j<=1000000000000)
 (h: ∀w' σ',SLe σ σ'->MSt w0 σ0 bm rt rf ha hb (QN b (j+1:Nat)) w' σ' (Aj (W1 ca) (W1 cb) xs m j u)->K (.tuple #[]) w'):
 Q0 P F.cK [.agg [I u.sort,I u.n,S u.s,I u.ref].toArray, .pointer (some ⟨b,0,none⟩), .pointer (some y), .pointer (some W)] w K:=Q8g (by
 unfold Q1M;simp only[Y3,X3,L9];unfold Y0 X4 X5;refine Z4 R.stp.sat fun q w1 σ1 k hq=>?_;have A:=R.up k;have f:=f.up k;have a:=a.up k;have C:=C.up k;have U:=A.num;have M:=A.stp.sat;refine Yu (fun _ w'=> ∃σ',SLe σ1 σ'/\MSt w0 σ0 bm rt rf ha hb (QN b j) w' σ' (Aj (W1 ca) (W1 cb) xs m j u)) ?_ (fun z dd w3 hz=>?_)
 .refine Ou U rfl ?_
  refine Y6 M f rfl ?_;refine Q7 a ?_;refine J0 ?_;refine Q4 (fun E=>?_) (fun E=>?_)
  .have p:j<xs.length:=by simpa using E
   obtain ⟨X,O⟩:=Sl.elV a p;obtain ⟨σf,sf,d,L,_⟩:=U.freeze M;refine U8 sf ?_;refine X0 (V:= .pointer (some ⟨bm,0,none⟩)) (fun w hb=>Y6 hb.sat ((C.lift d).up hb.stp) rfl (Q8 rfl)) ?_;refine X0 (V:=B) (fun w hb=>Y6 hb.sat ((f.lift d).up hb.stp) rfl (Q8 rfl)) ?_;refine X0 (V:=I j) (fun w hb=>Y6 hb.sat (L.up hb.stp) rfl (Q8 rfl)) ?_;refine X0 (V:= .pointer (some (K9 4 B j))) (fun t t2 w hb e O=>by subst e;subst O;exact Z1 ((a.lift d).up hb.stp) p (Q8 rfl)) ?_
   refine X0 (V:= .agg [I xs[j].sort,I xs[j].n,S xs[j].s,I xs[j].ref].toArray) (fun t w hb e=>by subst e;exact Y7 hb.sat ((X.lift d).up hb.stp) rfl (Q8 rfl)) ?_
   refine X0 (V:= .agg [I u.sort,I u.n,S u.s,I u.ref].toArray) (fun w hb=>Y7 hb.sat ((hq.lift d).up hb.stp) rfl (Q8 rfl)) ?_;rintro _ _ _ _ _ _ w2 D rfl rfl rfl rfl rfl rfl;have k2:=Stp.of_below M D.stp.bel;have r:SLe σ σ1:=⟨k.le⟩;refine X1b X41 (A.up k2) (H.lift r) (J.lift r) Y Z la lb hl fun w3 N g o=>?_;refine ⟨N,g,?_⟩;unfold Aj;rw[List.getElem?_eq_getElem p];exact o
  .have p: ¬j<xs.length:=by simpa using E
   refine ⟨σ1,SLe.refl _,?_⟩;unfold Aj;rw[List.getElem?_eq_none Q5];exact A
 .obtain ⟨N,g,o⟩:=hz
  refine Ou o.num rfl ?_;refine Zd Q5 ?_;refine Yj (i:=0) o.num U5 rfl rfl fun w4 u4 m4=>?_;exact h w4 N ((⟨k.le⟩:SLe σ σ1).more g) (o.turn hg u4 (by simpa using m4)))
variable {room : Int} {cs : List Cel} {hp tv : Value}
theorem X1Q:VB Val.zero:=⟨by decide,by decide,by decide,by decide⟩
theorem X9e (hh:O7 σ hp tv room cs) {c:Cel} (d:c∈cs) {x:Val} (g:x∈c.vals):VB x:=by
 obtain ⟨a,n,rfl,k,h⟩:=hh;obtain ⟨i,e,rfl⟩:=List.mem_iff_getElem.1 d;obtain ⟨o,_,b,_⟩:=Sl.elO h e;obtain ⟨j,f,rfl⟩:=List.mem_iff_getElem.1 g;exact (Sl.elV b f).2.2
theorem X8r (hh:O7 σ hp tv room cs) {r:Int} {x:Val} (c:x∈I9 l cs r):VB x:=by
 unfold I9 at c;obtain ⟨i,_,rfl⟩:=List.mem_map.1 c;unfold Na
 split
 .rename_i a
  unfold C7 at a
  split at a
  .rename_i d
   obtain ⟨j,rfl,b⟩:=W9.1 d;rw[L4 b] at a⊢;rw[List.getD_eq_getElem?_getD];cases e:cs[j].vals[((i:Nat):Int).toNat]? with
   | none=>exact X1Q
   | some y=>exact X9e hh (List.getElem_mem b) (List.mem_of_getElem? e)
  .exact absurd a W3
 .exact X1Q
theorem X1t {x:Nat} (h:x<cs.length):L5 cs (x:Int)=Uf cs x:=by
 rw[Qn h];unfold Uf My;rw[List.getD_eq_getElem?_getD,List.getElem?_eq_getElem h];rfl
theorem Pw {t e:TypeId} {n sz b:Nat} {z:Value} [ta:TA P t n e] [tz:TZ P e sz b z] {a:Addr} {k:Nat} (c:k<n) (h:K (.pointer (some (a.add (k*sz)))) w):indexAddr P t (.pointer (some a)) (I k) w K:=by
 rw[Q9f Q5 Q5]
 simpa using h
set_option maxRecDepth 9999 in
set_option maxHeartbeats 4000000 in
theorem X8I (hs:X7 w σ) (bv:O7 σ ha ta ra ca) (bw:O7 σ hb tb rb cb) (da:Tab σ ta l) (db:Tab σ tb l) (ok:Ok l) (ga: ∀c∈ca,GoodC W4 l ca c) (gb: ∀c∈cb,GoodC W4 l cb c) (la:ca.length<=1048576) (lb:cb.length<=1048576) (na: ∀r,Yk ca r<=1000000000000) (nb: ∀r,Yk cb r<=1000000000000)
 (h: ∀bm rt rf w' σ',MSt w σ bm rt rf ha hb (fun _ _=>False) w' σ' (Qa l ca cb v u ca.length)->K (.pointer (some ⟨bm,0,none⟩)) w'):
 Q0 P F.cY [ha, .agg [I v.sort,I v.n,S v.s,I v.ref].toArray,hb, .agg [I u.sort,I u.n,S u.s,I u.ref].toArray] w K:=X0P (by
 unfold Q4N;simp only[Y3,X3,L9,Xq,N0];unfold Z8 Y1 V3 V8 Y0 X5;obtain ⟨aa,ea⟩: ∃a,ha= .pointer (some a):=by obtain ⟨a,_,e,_⟩:=bv;exact ⟨a,e⟩
 obtain ⟨ab,eb⟩: ∃a,hb= .pointer (some a):=by obtain ⟨a,_,e,_⟩:=bw;exact ⟨a,e⟩
 refine Z4 hs fun q5 w1 σ1 k1 h5=>?_;refine Z4 k1.sat fun q7 w2 σ2 k2 h7=>?_;refine Q6Y k2.sat fun rt w3 c9 k3 mt=>?_;refine Q6Y k3.sat fun rf w4 c8 k4 mf=>?_;refine N3 (cells:= #[ha,hb, .map (some rt), .map (some rf), .slice none 0 0, .bool true]) (by subst ea;subst eb;kernel_rfl) ?_
 refine Rd (cs:=[ha,hb, .map (some rt), .map (some rf), .slice none 0 0, .bool true]) k4.sat fun bm w5 σ5 c5 k5 mm=>?_;refine L1 k5.sat rfl rfl rfl fun q9 w6 σ6 k6 h9=>?_;have S2:=k1.trans k2;have S3:=S2.trans k3;have S4:=S3.trans k4;have S6:=(S4.trans k5).trans k6;have es:rt<w4.heap.size:=(mt.up k4).lt;have er:rf<w4.heap.size:=mf.lt;have et:rt<w3.heap.size:=mt.lt;have bn:=((((h5.up k2).up k3).up k4).up k5).up k6;have bo:=(((h7.up k3).up k4).up k5).up k6;have R6:MSt w σ bm rt rf ha hb (fun _ _=>False) w6 σ6 ([],true):=⟨S6,Nat.le_trans S4.bel.size c5,Nat.le_trans S2.bel.size c9,Nat.le_trans S3.bel.size c8,by omega,by omega,by omega,⟨by simp,by simp⟩, .slice none 0 0,[],[],mm.up k6,V6.of_acc W7.nil,nofun,((mt.up k4).up k5).up k6,(mf.up k5).up k6,fun _=>rfl,fun _=>rfl,nofun⟩
 refine Y6 k6.sat h9 rfl ?_;refine Y7 k6.sat bn rfl ?_;refine Y7 k6.sat bo rfl ?_;have ai:=bv.lift ⟨S6.le⟩;have a3:=bw.lift ⟨S6.le⟩;have b1:=da.lift ⟨S6.le⟩;have b3:=db.lift ⟨S6.le⟩;clear k1 k2 k3 k4 k5 k6 S2 S3 S4 S6 mm mt mf bn bo h5 h7;refine X1b X41 R6 ai a3 ga gb la lb U5 fun w7 σ7 df R7=>?_;refine V7 ca.length (fun i w'=> ∃σ',SLe σ7 σ'/\MSt w σ bm rt rf ha hb (fun _ _=>False) w' σ' (Qa l ca cb v u i)) ⟨σ7,SLe.refl _,R7⟩ fun i w8 d hi bx=>?_;obtain ⟨σ8,b8,R8⟩:=bx;have X:=df.more b8;have s8:=R8.stp.sat;have aw:=h9.lift X;have az:PrsOk ca cb (Qa l ca cb v u i):=PrsOk.ali i;have B:=Q2D (l:=l) (ca:=ca) (cb:=cb) (v:=v) (w:=u) i;have bs:=fun hc=>X4F (l:=l) (ca:=ca) (cb:=cb) (v:=v) (w:=u) (i:=i) hc hi;generalize Qa l ca cb v u i=m at*;have ep:=az.len;obtain ⟨lv,mt,mf,h1,h2,h3,h4,h5,h6,h7,_⟩:=R8.ex
 have bl:m.2=false\/m.1.length<=i->Q6 P T.a5 (.pointer (some q9)) w8 K:=fun hc=>by
  refine Y6 s8 aw rfl ?_;refine h bm rt rf w8 σ8 ?_;rw[bs hc];exact R8
 refine Y6 s8 aw rfl ?_;refine G5 ?_;refine J4 ?_;refine I1 (i:=4) h1 rfl ?_;refine Fx h2 ?_;refine J0 ?_;cases br:decide ((i:Int)<(m.1.length:Int)) with
 | false=>
  (repeat refine Hd.h ?_)
  refine Z7 ?_;exact bl (.inr (by simp at br;omega))
 | true=>
  have aj:i<m.1.length:=by simpa using br
  (repeat refine Hd.h ?_)
  refine Y6 s8 aw rfl ?_
  (repeat refine Hd.h ?_)
  refine G5 ?_
  (repeat refine Hd.h ?_)
  refine I1 (i:=5) h1 rfl ?_
  (repeat refine Hd.h ?_)
  cases em:m.2 with
  | false=>
   refine Z7 ?_;exact bl (.inl em)
  | true=>
   refine Z3 ?_;obtain ⟨σf,sf,b9,ay,bz⟩:=h2.freeze s8;obtain ⟨ds,q,z,e3,p1,p2⟩:=ay.el aj;have b0:m.1[i]∈m.1:=List.getElem_mem aj;have b4:=az.la _ b0;have b5:=az.lb _ b0;rw[em,List.getElem?_eq_getElem aj] at B;have B:Qa l ca cb v u (i+1)=Cg (Y9 l ca) (Y9 l cb) (Uf ca) (Uf cb) (W1 ca) (W1 cb) m m.1[i].1 m.1[i].2:=B;generalize m.1[i]=p at*;obtain ⟨x,y⟩:=p;subst e3;have a9:=aw.lift b9;have a8:Y8 σf w8 bm [ha,hb, .map (some rt), .map (some rf),lv, .bool m.2]:=⟨(bz bm fun e=>(h3 bm e.symm).1 rfl).trans h1.1,h1.2⟩;refine U8 sf ?_;refine X0 (V:= .pointer (some ⟨bm,0,none⟩)) (fun w hb=>Y6 hb.sat (a9.up hb.stp) rfl (Q8 rfl)) ?_;refine X0 (fun t w hb e=>by subst e;exact G5 (Q8 rfl)) ?_
   refine X0 (fun t w hb e=>by subst e;exact J4 (Q8 rfl)) ?_
   refine X0 (V:=lv) (fun t w hb e=>by subst e;exact I1 (i:=4) (a8.up hb.stp) rfl (Q8 rfl)) ?_
   refine X0 (V:= .pointer (some (K9 2 lv i))) (fun t w hb e=>by subst e;exact Z1 (ay.up hb.stp) aj (Q8 rfl)) ?_
   refine X0 (V:= .pointer (some ((K9 2 lv i).add 0))) (fun t w hb e=>by subst e;exact Pw (k:=0) W3 (Q8 rfl)) ?_
   refine X0 (V:=I x) (fun t w hb e=>by subst e;exact ld (i:=0) hb.sat (q.up hb.stp) rfl (Q8 rfl)) ?_
   refine X0 (V:= .pointer (some ⟨bm,0,none⟩)) (fun w hb=>Y6 hb.sat (a9.up hb.stp) rfl (Q8 rfl)) ?_;refine X0 (fun t w hb e=>by subst e;exact G5 (Q8 rfl)) ?_
   refine X0 (fun t w hb e=>by subst e;exact J4 (Q8 rfl)) ?_
   refine X0 (V:=lv) (fun t w hb e=>by subst e;exact I1 (i:=4) (a8.up hb.stp) rfl (Q8 rfl)) ?_
   refine X0 (V:= .pointer (some (K9 2 lv i))) (fun t w hb e=>by subst e;exact Z1 (ay.up hb.stp) aj (Q8 rfl)) ?_
   refine X0 (V:= .pointer (some ((K9 2 lv i).add 1))) (fun t w hb e=>by subst e;exact Pw (k:=1) W3 (Q8 rfl)) ?_
   refine X0 (V:=I y) (fun t w hb e=>by subst e;exact ld (i:=1) hb.sat (q.up hb.stp) rfl (Q8 rfl)) ?_
   rintro _ _ _ _ _ _ _ _ _ _ _ _ _ _ w9 bq rfl rfl rfl rfl rfl rfl rfl rfl rfl rfl rfl rfl rfl rfl;have k9:=Stp.of_below s8 bq.stp.bel;have R9:=R8.up k9;clear h1 h2 h3 h4 h5 h6 h7 ay bz a8 bq a9 q z sf b9;have c0:I9 l ca (x:Int)=Y9 l ca x:=Iq b4;have a7:I9 l cb (y:Int)=Y9 l cb y:=Iq b5;have s9:=k9.sat;refine D3 s9 fun aq dl ci bp bd dg=>?_;refine Q6w ?_;have cq:LSt w9 σ8 aq dl ci []:=⟨bd,bp,_,dg,W7.nil,nofun⟩;have b2:=b1.lift X;have a2:=ai.lift X
   have dy:(I9 l ca (x:Int)).length<=1000000000000:=by
    have:(I9 l ca (x:Int)).length<=Yk ca x:=by
     unfold I9 N1;rw[List.length_map];exact Nat.le_trans (List.length_filter_le _ _) U5
    exact Nat.le_trans this (na _)
   refine Q0k (l:=l) (cs:=ca) (tv:=ta) (room:=ra) (σ:=ci) (fun j w' σ'=>LSt w9 σ8 aq w' σ' ((I9 l ca (x:Int)).take j)) (fun _ _ _ R=>R.stp.sat) (fun _ _ _ _ _ R k=>R.up k) (a2.lift ⟨bd.le⟩) (b2.lift ⟨bd.le⟩) ok ga (na _) cq (fun j hj cg dn b7 ap=>?_) (fun cg dn b7 ap=>?_)
   .refine U3 (first:=[]) (caps:=[.pointer (some ⟨aq,0,none⟩)]) ?_
    refine X7G ap (X8r (r:=(x:Int)) (l:=l) a2 (List.getElem_mem hj)) (by simp;omega) fun e5 a0 a4 cr=>⟨a0,a4,?_⟩
    rw[List.take_add_one,List.getElem?_eq_getElem hj];exact cr
   rw[List.take_length,c0] at ap;obtain ⟨lw,a0,a6,a4,av,ax⟩:=ap.keep;have bk:=R9.up a6;have al:SLe σ8 a0:=⟨a6.le⟩;refine D3 a6.sat fun ac e6 Y ag dd cc=>?_;refine Yj (i:=0) cc W3 rfl rfl fun bi dj am=>?_;have am:Y8 Y bi ac [I (0:Nat)]:=am;have Z:Stp cg a0 bi Y:=dj.stp dd ag cc.1;have ct:MSt w σ bm rt rf ha hb (QN ac (0:Nat)) bi Y m:=bk.add Z ag am;have bu:w.heap.size<=ac:=Nat.le_trans bk.stp.bel.size ag;have E:SLe σ6 Y:=(X.more al).more ⟨Z.le⟩;refine Q6w ?_;have av:=av.up Z;have ax:=ax.up Z;have a1:=h9.lift E;have ah:=ai.lift E;have N:=a3.lift E;have bc:=b3.lift E
   have dz:(I9 l cb (y:Int)).length<=1000000000000:=by
    have:(I9 l cb (y:Int)).length<=Yk cb y:=by
     unfold I9 N1;rw[List.length_map];exact Nat.le_trans (List.length_filter_le _ _) U5
    exact Nat.le_trans this (nb _)
   refine Q0k (l:=l) (cs:=cb) (tv:=tb) (room:=rb) (σ:=Y) (fun j w' σ'=>SLe Y σ'/\MSt w σ bm rt rf ha hb (QN ac j) w' σ' (I2 (W1 ca) (W1 cb) m (((Y9 l ca x).zip (Y9 l cb y)).take j))) (fun _ _ _ R=>R.2.stp.sat) (fun _ _ _ _ _ R k=>⟨R.1.more ⟨k.le⟩,R.2.up k⟩) N bc ok gb (nb _) ⟨SLe.refl _,ct⟩ (fun j hj ch L g A=>?_) (fun ch L g A=>?_)
   .have c7:j<(Y9 l cb y).length:=by rw[<-a7];exact hj
    have ev:(I9 l cb (y:Int))[j]=(Y9 l cb y)[j]:=by simp only[a7]
    rw[ev];refine U3 (first:=[]) (caps:=[.pointer (some ⟨ac,0,none⟩), .pointer (some ⟨aq,0,none⟩), .pointer (some q9)]) ?_
    obtain ⟨g,A⟩:=A;have pk:=PrsOk.all (((Y9 l ca x).zip (Y9 l cb y)).take j) az;refine X7H A bu (av.lift g) (ax.lift g) (a1.lift g) (ah.lift g) (N.lift g) ga gb la lb (by have:=pk.len;omega) Q5 fun U dp a5 cu=>⟨dp,a5,g.more a5,?_⟩
    rw[Q84 c7];exact cu
   obtain ⟨g,A⟩:=A;rw[a7,List.take_of_length_le (by simp;omega)] at A
   unfold Cg at B;have ce:=A.num;have bh:=A.stp.sat;obtain ⟨eu,ey,ew,h1,_⟩:=A.ex;generalize I2 (W1 ca) (W1 cb) m ((Y9 l ca x).zip (Y9 l cb y))=m2 at*;have C:=a1.lift g;have af:=av.lift g;have ak:=ax.lift g;have ba:=ah.lift g;have bb:=N.lift g;have O:SLe σ7 L:=((b8.more al).more ⟨Z.le⟩).more g
   have ad: ∀{J:World->Prop} {b:Bool} {U:World},Stp ch L U L->(m2.2&&(decide ((Y9 l ca x).length=(Y9 l cb y).length)&&decide (Uf ca x=Uf cb y)))=b->(∀W,MSt w σ bm rt rf ha hb (fun _ _=>False) W L (Qa l ca cb v u (i+1))->J W)->nilCheck P (.pointer (some ⟨bm,0,none⟩)) U fun dh w=>fieldAddr P T.p dh 5 w fun di w=>J9 P T.r di (.bool b) w fun _u w=>J w:=fun {J b U} de e hJ=>by
    subst e;refine G5 ?_;refine J4 ?_;refine Cd (A.up de) fun W M=>hJ W ?_;rw[B];exact M.drop
   have cy:L5 ca (x:Int)=Uf ca x:=X1t b4;have cz:L5 cb (y:Int)=Uf cb y:=X1t b5;cases ar:m2.2 with
   | false=>
    rw[ar] at h1;refine U8 bh ?_;refine X0 (V:= .pointer (some ⟨bm,0,none⟩)) (fun w hb=>Y6 hb.sat (C.up hb.stp) rfl (Q8 rfl)) ?_;refine X0 (V:= .pointer (some ⟨bm,0,none⟩)) (fun w hb=>Y6 hb.sat (C.up hb.stp) rfl (Q8 rfl)) ?_;refine X0 (V:= .pointer (some ⟨bm,0,none⟩)) (fun o w hb f=>by subst f;exact G5 (Q8 rfl)) ?_
    refine X0 (V:= .pointer (some ((⟨bm,0,none⟩:Addr).add 5))) (fun o w hb f=>by subst f;exact J4 (Q8 rfl)) ?_
    refine X0 (V:= .bool false) (fun o w hb f=>by subst f;exact I1 (i:=5) (h1.up hb.stp) rfl (Q8 rfl)) ?_
    refine X0 (V:=undef) (fun o w hb f=>by subst f;simp only[O3];exact Q8 rfl) ?_
    refine X0 (V:=undef) (fun o w hb f=>by subst f;simp only[O3];exact Q8 rfl) ?_
    refine X0 (V:=undef) (fun o D w hb f q=>by subst f;subst q;simp only[O3];exact Q8 rfl) ?_
    refine X0 (V:=undef) (fun o D t2 w hb f q z=>by subst f;subst q;subst z;simp only[O3];exact Q8 rfl) ?_
    refine X0 (V:= .bool false) (fun o D w hb f q=>by subst f;subst q;simp only[E3];exact Q8 rfl) ?_
    refine X0 (V:=undef) (fun o w hb f=>by subst f;simp only[O3];exact Q8 rfl) ?_
    refine X0 (V:=undef) (fun o w hb f=>by subst f;simp only[O3];exact Q8 rfl) ?_
    refine X0 (V:=undef) (fun o w hb f=>by subst f;simp only[O3];exact Q8 rfl) ?_
    refine X0 (V:=undef) (fun o w hb f=>by subst f;simp only[O3];exact Q8 rfl) ?_
    refine X0 (V:=undef) (fun o D t2 w hb f q z=>by subst f;subst q;subst z;simp only[O3];exact Q8 rfl) ?_
    refine X0 (V:=undef) (fun o D t2 w hb f q z=>by subst f;subst q;subst z;simp only[O3];exact Q8 rfl) ?_
    refine X0 (V:=undef) (fun o D t2 w hb f q z=>by subst f;subst q;subst z;simp only[O3];exact Q8 rfl) ?_
    refine X0 (V:= .bool false) (fun o D w hb f q=>by subst f;subst q;simp only[E3];exact Q8 rfl) ?_
    rintro _ _ _ _ _ _ _ _ _ _ _ _ _ _ _ _ _ _ U H rfl rfl rfl rfl rfl rfl rfl rfl rfl rfl rfl rfl rfl rfl rfl rfl rfl rfl;refine ad H.stp (by rw[ar];rfl) fun W M=>?_
    (try simp only[↓M1,M1,Mb,reduceIte])
    exact Z5 Q5 Q5 ⟨L,O,M⟩
   | true=>
    rw[ar] at h1;cases en:decide ((((Y9 l cb y).length:Nat):Int)=(((Y9 l ca x).length:Nat):Int)) with
    | false=>
     refine U8 bh ?_;refine X0 (V:= .pointer (some ⟨bm,0,none⟩)) (fun w hb=>Y6 hb.sat (C.up hb.stp) rfl (Q8 rfl)) ?_;refine X0 (V:= .pointer (some ⟨bm,0,none⟩)) (fun w hb=>Y6 hb.sat (C.up hb.stp) rfl (Q8 rfl)) ?_;refine X0 (V:= .pointer (some ⟨bm,0,none⟩)) (fun o w hb f=>by subst f;exact G5 (Q8 rfl)) ?_
     refine X0 (V:= .pointer (some ((⟨bm,0,none⟩:Addr).add 5))) (fun o w hb f=>by subst f;exact J4 (Q8 rfl)) ?_
     refine X0 (V:= .bool true) (fun o w hb f=>by subst f;exact I1 (i:=5) (h1.up hb.stp) rfl (Q8 rfl)) ?_
     refine X0 (V:=I (Y9 l cb y).length) (fun o w hb f=>by subst f;simp only[V9];exact Ou (ce.up hb.stp) rfl (Q8 rfl)) ?_
     refine X0 (V:=lw) (fun o w hb f=>by subst f;simp only[V9];exact Y6 hb.sat (af.up hb.stp) rfl (Q8 rfl)) ?_
     refine X0 (V:=I (Y9 l ca x).length) (fun o D w hb f q=>by subst f;subst q;simp only[V9];exact Q7 (ak.up hb.stp) (Q8 rfl)) ?_
     refine X0 (V:= .bool false) (fun o D t2 w hb f q z=>by subst f;subst q;subst z;simp only[V9];exact B1 (Q8 (by rw[en]))) ?_
     refine X0 (V:= .bool false) (fun o D w hb f q=>by subst f;subst q;simp only[H3];exact Q8 rfl) ?_
     refine X0 (V:=undef) (fun o w hb f=>by subst f;simp only[O3];exact Q8 rfl) ?_
     refine X0 (V:=undef) (fun o w hb f=>by subst f;simp only[O3];exact Q8 rfl) ?_
     refine X0 (V:=undef) (fun o w hb f=>by subst f;simp only[O3];exact Q8 rfl) ?_
     refine X0 (V:=undef) (fun o w hb f=>by subst f;simp only[O3];exact Q8 rfl) ?_
     refine X0 (V:=undef) (fun o D t2 w hb f q z=>by subst f;subst q;subst z;simp only[O3];exact Q8 rfl) ?_
     refine X0 (V:=undef) (fun o D t2 w hb f q z=>by subst f;subst q;subst z;simp only[O3];exact Q8 rfl) ?_
     refine X0 (V:=undef) (fun o D t2 w hb f q z=>by subst f;subst q;subst z;simp only[O3];exact Q8 rfl) ?_
     refine X0 (V:= .bool false) (fun o D w hb f q=>by subst f;subst q;simp only[E3];exact Q8 rfl) ?_
     rintro _ _ _ _ _ _ _ _ _ _ _ _ _ _ _ _ _ _ U H rfl rfl rfl rfl rfl rfl rfl rfl rfl rfl rfl rfl rfl rfl rfl rfl rfl rfl
     refine ad H.stp (by
      have: ¬(Y9 l ca x).length=(Y9 l cb y).length:=fun e=>by rw[e] at en;simp at en
      rw[decide_eq_false this];simp) fun W M=>?_
     (try simp only[↓M1,M1,Mb,reduceIte])
     exact Z5 Q5 Q5 ⟨L,O,M⟩
    | true=>
     refine U8 bh ?_;refine X0 (V:= .pointer (some ⟨bm,0,none⟩)) (fun w hb=>Y6 hb.sat (C.up hb.stp) rfl (Q8 rfl)) ?_;refine X0 (V:= .pointer (some ⟨bm,0,none⟩)) (fun w hb=>Y6 hb.sat (C.up hb.stp) rfl (Q8 rfl)) ?_;refine X0 (V:= .pointer (some ⟨bm,0,none⟩)) (fun o w hb f=>by subst f;exact G5 (Q8 rfl)) ?_
     refine X0 (V:= .pointer (some ((⟨bm,0,none⟩:Addr).add 5))) (fun o w hb f=>by subst f;exact J4 (Q8 rfl)) ?_
     refine X0 (V:= .bool true) (fun o w hb f=>by subst f;exact I1 (i:=5) (h1.up hb.stp) rfl (Q8 rfl)) ?_
     refine X0 (V:=I (Y9 l cb y).length) (fun o w hb f=>by subst f;simp only[V9];exact Ou (ce.up hb.stp) rfl (Q8 rfl)) ?_
     refine X0 (V:=lw) (fun o w hb f=>by subst f;simp only[V9];exact Y6 hb.sat (af.up hb.stp) rfl (Q8 rfl)) ?_
     refine X0 (V:=I (Y9 l ca x).length) (fun o D w hb f q=>by subst f;subst q;simp only[V9];exact Q7 (ak.up hb.stp) (Q8 rfl)) ?_
     refine X0 (V:= .bool true) (fun o D t2 w hb f q z=>by subst f;subst q;subst z;simp only[V9];exact B1 (Q8 (by rw[en]))) ?_
     refine X0 (V:= .bool true) (fun o D w hb f q=>by subst f;subst q;simp only[H3];exact Q8 rfl) ?_
     refine X0 (V:=ha) (fun o w hb f=>by subst f;simp only[V9];exact Q8 rfl) ?_
     refine X0 (V:=I x) (fun o w hb f=>by subst f;simp only[V9];exact Q8 rfl) ?_
     refine X0 (V:=hb) (fun o w hb f=>by subst f;simp only[V9];exact Q8 rfl) ?_
     refine X0 (V:=I y) (fun o w hb f=>by subst f;simp only[V9];exact Q8 rfl) ?_
     refine X0 (V:=S (L5 ca x)) (fun o D t2 w hb f q z=>by subst f;subst q;subst z;simp only[V9];exact Ac hb.sat (ba.lift ⟨hb.stp.le⟩) (Q8 rfl)) ?_
     refine X0 (V:=S (L5 cb y)) (fun o D t2 w hb f q z=>by subst f;subst q;subst z;simp only[V9];exact Ac hb.sat (bb.lift ⟨hb.stp.le⟩) (Q8 rfl)) ?_
     refine X0 (V:= .bool (decide (L5 ca x=L5 cb y))) (fun o D t2 w hb f q z=>by subst f;subst q;subst z;simp only[V9];exact Qu (Q8 rfl)) ?_
     refine X0 (V:= .bool (decide (L5 ca x=L5 cb y))) (fun o D w hb f q=>by subst f;subst q;simp only[H3];exact Q8 rfl) ?_
     rintro _ _ _ _ _ _ _ _ _ _ _ _ _ _ _ _ _ _ U H rfl rfl rfl rfl rfl rfl rfl rfl rfl rfl rfl rfl rfl rfl rfl rfl rfl rfl
     refine ad H.stp (by
      have:(Y9 l ca x).length=(Y9 l cb y).length:=by simp at en;omega
      rw[decide_eq_true this,ar,cy,cz];rfl) fun W M=>?_
     (try simp only[↓M1,M1,Mb,reduceIte])
     exact Z5 Q5 Q5 ⟨L,O,M⟩)
theorem Q6F (y:X7 w σ) (d:O7 σ ha ta ra ca) (e:O7 σ hb tb rb cb) (f:Tab σ ta l) (g:Tab σ tb l) (ok:Ok l) (k: ∀c∈ca,GoodC W4 l ca c) (o: ∀c∈cb,GoodC W4 l cb c) (z:ca.length<=1048576) (A:cb.length<=1048576) (B: ∀r,Yk ca r<=1000000000000) (C: ∀r,Yk cb r<=1000000000000)
 (h: ∀w' σ',Stp w σ w' σ'->K (.bool (Xz l ca cb v u)) w'):
 Q0 P F.aG [ha, .agg [I v.sort,I v.n,S v.s,I v.ref].toArray,hb, .agg [I u.sort,I u.n,S u.s,I u.ref].toArray] w K:=Q8c (by
 unfold Q1I Y1;refine Z4 y fun M w1 σ1 j q=>?_;refine Z4 j.sat fun N O U b t=>?_;have a:=j.trans b;refine Y7 b.sat (q.up b) rfl ?_;refine Y7 b.sat t rfl ?_;refine X8I b.sat (d.lift ⟨a.le⟩) (e.lift ⟨a.le⟩) (f.lift ⟨a.le⟩) (g.lift ⟨a.le⟩) ok k o z A B C fun bm rt rf D E R=>?_;obtain ⟨H,L,J,p,_⟩:=R.ex;refine G5 ?_;refine J4 ?_;refine I1 (i:=5) p rfl ?_;exact h D E (a.trans R.stp))
variable {v : Value}
theorem Q7Q {c:Cla} {n:X2} (h:Ir c n=none):Qb c n=none:=by
 unfold Qb Ir at*;rw[List.findIdx?_eq_none_iff] at h;rw[List.find?_eq_none];intro m a;have:=h m a
 simpa using this
theorem X1y {c:Cla} {n:X2} {i:Nat} (h:Ir c n=some i): ∃a:i<c.methods.length,Qb c n=some c.methods[i]:=by
 unfold Qb Ir at*;obtain ⟨a,e,d⟩:=List.findIdx?_eq_some_iff_getElem.1 h;refine ⟨a,List.find?_eq_some_iff_getElem.2 ⟨e,i,a,rfl,fun j b=>?_⟩⟩;have:=d j b
 simpa using this
theorem find_none {n:X2} (h:lk l n=none):U1 l n=none:=by
 cases b:U1 l n with
 | none=>rfl
 | some i=>obtain ⟨c,a,_⟩:=Vp b;rw[h] at a;cases a
set_option maxHeartbeats 1000000 in
theorem X4m {n:X2} (ok:Ok l): ∀(k:Nat) {c:Cla} {cs:List Value} {w:World} {σ:Q2} {K:Value->World->Prop},Xx l c.name<k->lk l c.name=some c->X7 w σ->Sl 8 M8 σ v l->M8 σ c cs->
 (∀pv cv hv w' Z,Stp w σ w' Z->F5 Z (o2 (O4 l c n)) [S (o2 (O4 l c n)).name,pv,S (o2 (O4 l c n)).result, .bool (o2 (O4 l c n)).abs,I (o2 (O4 l c n)).locals,cv,hv]->
  K (.tuple #[S (o1 (O4 l c n)), .agg [S (o2 (O4 l c n)).name,pv,S (o2 (O4 l c n)).result, .bool (o2 (O4 l c n)).abs,I (o2 (O4 l c n)).locals,cv,hv].toArray, .bool (O4 l c n).isSome]) w')->
 Q0 P F.aN [v, .agg cs.toArray,S n] w K:=by
 intro k
 induction k with
 | zero=>
  intro c cs w σ K hk;omega
 | succ k ih=>
  intro c cs w σ K hk hc hs hv hr h;refine Q1o ?_;obtain ⟨lv,fv,mv,rfl,g1,g2,g3,g4,g5⟩:=hr;have D:=Q7G ok.acy hc n;generalize hf:(fun u=>match lk l u with | none=>none | some d=>match Qb d n with | some m=>some (u,m) | none=>O4 l d n)=f at D
  unfold Hf;simp only[Y3,X3,N0,D9];unfold Y1 V1 V3 Y0 X4 X5;refine Z4 hs fun a w1 σ1 E ap=>?_;refine D3 E.sat fun b w2 σ2 hb O ay=>?_;have M:w.heap.size<=b:=C6 hb E;have aq:=ap.up O;have g1:=(g1.up E).up O;refine V7 c.like.length (fun i w'=> ∃Z,Stp w σ w' Z/\SLe σ2 Z/\Y8 Z w' b [S [], .slice none 0 0,S [], .bool false,I 0, .slice none 0 0, .slice none 0 0]/\(c.like.take i).findSome? f=none) ⟨σ2,E.trans O,SLe.refl _,ay,rfl⟩ fun i w3 d hi ae=>?_;obtain ⟨σ3,e,Y,ah,B⟩:=ae;have X:=hv.up e;have L:=aq.lift Y;have C:=g1.lift Y
  (try simp only[↓M1,M1,Mb,reduceIte])
  refine ld e.sat L rfl ?_;refine Q7 C ?_;refine J0 ?_;refine Q4 (fun hh=>?_) (fun hh=>?_)
  .have g:i<c.like.length:=by simpa using hh
   (try simp only[↓M1,M1,Mb,reduceIte])
   refine ld e.sat L rfl ?_;refine Z1 C g ?_;obtain ⟨p0,_⟩:=C.elS g;refine Y6 e.sat p0 rfl ?_;obtain ⟨d,hd⟩:=ok.full c (O9 hc).2.1 _ (List.getElem_mem g);obtain ⟨N,bl,_⟩:=O9 hd;have p:f c.like[i]=match Qb d n with | some m=>some (c.like[i],m) | none=>O4 l d n:=by rw[<-hf];simp only[hd]
   refine Pt e.sat X hd fun j hj bn=>?_;obtain ⟨af,aw⟩:=List.getElem?_eq_some_iff.1 hj;refine Z1 X af ?_;obtain ⟨bx,bj,bz,p1,r1⟩:=X.elC af;rw[aw] at p1 r1;refine Y7 e.sat p1 rfl ?_;refine J6 e.sat (by rfl) rfl (Rep.one r1) fun q w4 σ4 o R=>?_
   refine Y7 o.sat R rfl ?_;refine X1E o.sat (RCl_lift r1 ⟨o.le⟩) fun w5 σ5 t=>?_;refine A0 ?_;rw[Yl];have z:=(e.trans o).trans t;have H:=(ah.step o).step t;have a2:=R.up t;have r5:=RCl_lift r1 ⟨(o.trans t).le⟩;have W:=t.sat;have a6:SLe σ2 σ5:=Y.more ⟨(o.trans t).le⟩;clear R p1 r1 p0 L C o t;cases ho:Ir d n with
   | some i2=>
    obtain ⟨av,a1⟩:=X1y ho;rw[a1] at p;simp only[Option.isSome_some,H2,↓M1,M1,Mb,reduceIte];obtain ⟨_,_,a0,_,_⟩:=r5.parts;obtain ⟨pv,cv,bu,p2,r2⟩:=a0.elM av;refine U8 W ?_
    (repeat refine X0 Vf ?_)
    (intros;(repeat (rename_i hx;subst hx));(try simp only[↓M2,M2,Mb,reduceIte]))
    rename_i w6 ac;refine Qs (H.step ac.stp) (z.trans ac.stp) M rfl rfl (Rep.one r2) fun w8 ao az=>?_;refine M4 az rfl ?_;have Q:=D.trans (Jq g B p);rw[Q] at h;rw[N];exact h _ _ _ w8 σ5 ao.stp r2
   | none=>
    rw[Q7Q ho] at p;simp only[Option.isSome_none,↓M1,M1,Mb,reduceIte];refine Y7 W a2 rfl ?_;have br:=Vr ok.acy hc (by simp[M6,List.getElem_mem g]:c.like[i]∈M6 c) hd
    refine ih (by rw[N];omega) (by rw[N];exact hd) W (hv.up z) r5 fun pv cv bv w8 σ8 A U=>?_
    refine J8 (vs:=[_,_,_]) rfl ?_;refine J8 (vs:=[_,_,_]) rfl ?_;refine J8 (vs:=[_,_,_]) rfl ?_;refine J6 A.sat (by rfl) rfl (Rep.one U) fun q w9 σ9 y a3=>?_
    have ab:=(z.trans A).trans y;have ai:=(H.step A).step y;have V:=RMe_lift U ⟨y.le⟩;have a7:SLe σ2 σ9:=a6.more ⟨(A.trans y).le⟩;have a4:=y.sat;cases Q:O4 l d n with
    | some r=>
     obtain ⟨s,m⟩:=r;rw[Q] at p V a3;clear U A y;simp only[Q,Option.isSome_some,↓M1,M1,Mb,reduceIte];refine U8 a4 ?_
     (repeat refine X0 Vf ?_)
     (intros;(repeat (rename_i hx;subst hx));(try simp only[↓M2,M2,Mb,reduceIte]))
     rename_i b0 J;refine Qs (ai.step J.stp) (ab.trans J.stp) M rfl rfl (Rep.one V) fun a9 aa ag=>?_;refine M4 ag rfl ?_;have ax:=D.trans (Jq g B p);rw[ax] at h;exact h _ _ _ a9 σ9 aa.stp V
    | none=>
     rw[Q] at p;simp only[Option.isSome_none,↓M1,M1,Mb,reduceIte];refine Z5 (by have:=g1.max;omega) g ⟨σ9,ab,a7,ai,?_⟩
     rw[Jr g B];exact p
  .have g: ¬i<c.like.length:=by simpa using hh
   rw[List.take_of_length_le Q5] at B;refine Ty ?_;refine Qs ah e M rfl rfl (Rep.one (Zy (σ:=σ3))) fun w5 z H=>?_;refine M4 H rfl ?_;have Q:=D.trans B;rw[Q] at h;exact h _ _ _ w5 σ3 z.stp Zy
set_option maxHeartbeats 1000000 in
theorem X2O {k n:X2} (hs:X7 w σ) (hv:Sl 8 M8 σ v l) (ok:Ok l)
 (h: ∀pv cv hv w' O,Stp w σ w' O->F5 O (o2 (N2 l k n)) [S (o2 (N2 l k n)).name,pv,S (o2 (N2 l k n)).result, .bool (o2 (N2 l k n)).abs,I (o2 (N2 l k n)).locals,cv,hv]->
  K (.tuple #[S (o1 (N2 l k n)), .agg [S (o2 (N2 l k n)).name,pv,S (o2 (N2 l k n)).result, .bool (o2 (N2 l k n)).abs,I (o2 (N2 l k n)).locals,cv,hv].toArray, .bool (N2 l k n).isSome]) w'):
 Q0 P F.bk [v,S k,S n] w K:=Q02 (by
 unfold Dk;simp only[Y3,X3,N0,D9];unfold Y1 V1 X4;refine D3 hs fun b w1 σ1 hb V az=>?_;refine Xa V.sat (hv.up V) ?_;unfold N2 at h;generalize hF:(fun c:Cla=>(Qb c n).map (c.name,·))=F1 at h;have ae: ∀c,F1 c=(Qb c n).map (c.name,·):=fun c=>by rw[<-hF]
 refine Q0y (fun m x w'=> ∃s B O,m=(chain l s).length/\x=I (H2 (U1 l s))/\chain l k=B++chain l s/\Stp w σ w' O/\Y8 O w' b [S [], .slice none 0 0,S [], .bool false,I 0, .slice none 0 0, .slice none 0 0]/\B.findSome? F1=none)
  (chain l k).length ⟨k,[],σ1,rfl,rfl,rfl,V,az,rfl⟩ ?_
 rintro Q m x d w2 ⟨s,B,σ2,rfl,rfl,a,C,ak,f⟩ D;have J:=hv.up C;have ab:=C.sat;refine A0 ?_;rw[Yl];cases A:lk l s with
 | some c=>
  obtain ⟨ai,ax,i,R,X⟩:=O9 A;obtain ⟨o,U⟩:=List.getElem?_eq_some_iff.1 X;simp only[R,Option.isSome_some,H2,↓M1,M1,Mb,reduceIte];refine Z1 J o ?_;obtain ⟨lv,fv,mv,z,N⟩:=J.elC o;rw[U] at z N;refine Y7 ab z rfl ?_;refine X1E ab N fun w3 σ3 p=>?_;refine A0 ?_;rw[Yl];have g:=C.trans p;have t:=J.up p;have y:=ak.step p;have u:=p.sat;replace z:=z.up p;replace N:=RCl_lift N ⟨p.le⟩;have j:chain l s=c::chain l c.super:=by rw[Gu ok.acy s,A]
  cases Y:Ir c n with
  | some i2=>
   obtain ⟨ay,a3⟩:=X1y Y;simp only[Option.isSome_some,H2,↓M1,M1,Mb,reduceIte];obtain ⟨_,_,a2,_,_⟩:=N.parts;obtain ⟨pv,cv,bc,p2,r2⟩:=a2.elM ay;clear p;refine U8 u ?_
   (repeat refine X0 Vf ?_)
   (intros;(repeat (rename_i hx;subst hx));(try simp only[↓M2,M2,Mb,reduceIte]))
   rename_i w4 ah;refine Qs (y.step ah.stp) (g.trans ah.stp) hb rfl rfl (Rep.one r2) fun w8 av a1=>?_;refine M4 a1 rfl ?_
   have E:(chain l k).findSome? F1=some (c.name,c.methods[i2]):=by
    rw[a,List.findSome?_append,f,j,List.findSome?_cons,ae,a3];rfl
   rw[E] at h;exact h _ _ _ w8 σ3 av.stp r2
  | none=>
   simp only[Option.isSome_none,↓M1,M1,Mb,reduceIte];refine Z1 t o ?_
   (try simp only[↓M1,M1,Mb,reduceIte])
   refine ld u z rfl ?_;refine Xa u t ?_;refine D (chain l c.super).length _ _ (by rw[j,List.length_cons];omega) ⟨c.super,B++[c],σ3,rfl,rfl,by rw[a,j];simp,g,y,?_⟩
   rw[List.findSome?_append,f]
   simp[ae,Q7Q Y]
 | none=>
  rw[find_none A];simp only[Option.isSome_none,↓M1,M1,Mb,reduceIte];have am:(chain l k).findSome? F1=none:=by rw[a,Dx A,List.append_nil];exact f
  rw[am] at h;clear D f a;refine Xa ab J ?_
  refine Q0y (fun m x w'=> ∃s B O,m=(chain l s).length/\x=I (H2 (U1 l s))/\chain l k=B++chain l s/\Stp w σ w' O/\Y8 O w' b [S [], .slice none 0 0,S [], .bool false,I 0, .slice none 0 0, .slice none 0 0]/\B.findSome? (fun c=>O4 l c n)=none)
   (chain l k).length ⟨k,[],σ2,rfl,rfl,rfl,C,ak,rfl⟩ ?_
  rintro Q m x d w3 ⟨s,B,σ3,rfl,rfl,a,g,y,f⟩ D;have t:=hv.up g;have u:=g.sat;refine A0 ?_;rw[Yl];cases A:lk l s with
  | some c=>
   obtain ⟨ai,ax,i,R,X⟩:=O9 A;obtain ⟨o,U⟩:=List.getElem?_eq_some_iff.1 X;simp only[R,Option.isSome_some,H2,↓M1,M1,Mb,reduceIte];refine Z1 t o ?_;obtain ⟨lv,fv,mv,z,N⟩:=t.elC o;rw[U] at z N;refine Y7 u z rfl ?_;have j:chain l s=c::chain l c.super:=by rw[Gu ok.acy s,A]
   refine X4m ok _ (Nat.lt_succ_self _) (by rw[ai];exact A) u t N fun pv cv bd w8 σ8 W Z=>?_
   refine J8 (vs:=[_,_,_]) rfl ?_;refine J8 (vs:=[_,_,_]) rfl ?_;refine J8 (vs:=[_,_,_]) rfl ?_;refine J6 W.sat (by rfl) rfl (Rep.one Z) fun q w9 σ9 H a4=>?_
   have e:=W.trans H;have ag:=g.trans e;have al:=y.step e;have aa:=RMe_lift Z ⟨H.le⟩;have ac:=H.sat;have an:=t.up e;replace z:=z.up e;cases Y:O4 l c n with
   | some r=>
    obtain ⟨s,m⟩:=r;rw[Y] at aa a4;clear Z W H e;simp only[Y,Option.isSome_some,↓M1,M1,Mb,reduceIte];refine U8 ac ?_
    (repeat refine X0 Vf ?_)
    (intros;(repeat (rename_i hx;subst hx));(try simp only[↓M2,M2,Mb,reduceIte]))
    rename_i bg L;refine Qs (al.step L.stp) (ag.trans L.stp) hb rfl rfl (Rep.one aa) fun a6 af aj=>?_;refine M4 aj rfl ?_
    have E:(chain l k).findSome? (fun c=>O4 l c n)=some (s,m):=by
     rw[a,List.findSome?_append,f,j,List.findSome?_cons,Y];rfl
    unfold O4 at E;rw[E] at h;exact h _ _ _ a6 σ9 af.stp aa
   | none=>
    simp only[Option.isSome_none,↓M1,M1,Mb,reduceIte];refine Z1 an o ?_
    (try simp only[↓M1,M1,Mb,reduceIte])
    refine ld ac z rfl ?_;refine Xa ac an ?_;refine D (chain l c.super).length _ _ (by rw[j,List.length_cons];omega) ⟨c.super,B++[c],σ9,rfl,rfl,by rw[a,j];simp,ag,al,?_⟩
    rw[List.findSome?_append,f]
    simp[Y]
  | none=>
   rw[find_none A];simp only[Option.isSome_none,↓M1,M1,Mb,reduceIte];have M:(chain l k).findSome? (fun c=>O4 l c n)=none:=by rw[a,Dx A,List.append_nil];exact f
   refine Ty ?_;refine Qs y g hb rfl rfl (Rep.one (Zy (σ:=σ3))) fun w7 ar a0=>?_;refine M4 a0 rfl ?_;unfold O4 at M;rw[M] at h;exact h _ _ _ w7 σ3 ar.stp Zy)
end Go.Proofs.Y
namespace Go.Hm
open Go.Kd
theorem Q4G: ∀(xs:List X2) (x:X2),xs≠[]->F9 (xs++[x])=F9 xs++[44]++x
 | [],_,h=>absurd rfl h
 | [a],x,_=>by simp[F9]
 | a::b::r,x,_=>by
  have:=Q4G (b::r) x (by simp)
  simp only[List.cons_append] at this⊢;simp only[F9,this]
  simp
theorem Q4H {xs:List X2} {n:Nat} (h:n<xs.length):F9 (xs.take (n+1))=F9 (xs.take n)++(if 0<n then [44] else [])++xs[n]:=by
 rw[List.take_add_one,List.getElem?_eq_getElem h];simp only[Option.toList_some];cases n with
 | zero=>simp[F9]
 | succ n=>
  rw[Q4G _ _ (by intro e;have:=congrArg List.length e;simp only[List.length_take,List.length_nil] at this;omega)]
  simp
end Go.Hm
namespace Go.Proofs.Y
open Go.Emb Go.RowKit Go.Kd Go.Hm
variable {w : World} {K : Value -> World -> Prop} {σ : Q2}
theorem Q9T {m:Hm.Met} {cs:List Value} (C:X7 w σ) (A:F5 σ m cs) (s:SmM m) (r:NmM m) (h: ∀w' E,Stp w σ w' E->K (S (Zz m)) w'):Q0 P F.aX [.agg cs.toArray] w K:=Q2j (by
 obtain ⟨pv,H,R,rfl,f,J,L,M,N,O⟩:=A;unfold Ru Y1 V1 Y0 X4 V5 X5;refine Z4 C fun q w1 σ1 g j=>?_;have f:=f.up g
 have z: ∀n,(F9 (m.params.take n)).length<=101000000:=fun n=>by
  have:=Fl (m.params.take n) fun x t=>r.2 x (List.mem_of_mem_take t);have y:(m.params.take n).length<=1000000:=by rw[List.length_take];have:=s.1;omega
  have Q:(m.params.take n).length*101<=1000000*101:=Nat.mul_le_mul_right _ y;omega
 have c:=g.sat;refine C4 m.params.length (fun n a w'=>w'=w1/\a=S ([40]++F9 (m.params.take n))) ⟨rfl,by simp[F9]⟩ fun n a U d B i=>?_
 obtain ⟨D,rfl⟩:=i;subst D;have o:=z n
 (try simp only[↓M1,M1,Mb,reduceIte])
 refine ld c j rfl ?_;refine Q7 f ?_;refine J0 ?_;refine Q4 (fun p=>?_) (fun p=>?_)
 .have b:n<m.params.length:=by simpa using p
  have t:=r.2 _ (List.getElem_mem b);refine M9 ?_;obtain ⟨u,_⟩:=f.elS b;refine Q4 (fun k=>?_) (fun k=>?_)
  .have e:0<n:=by have:=of_decide_eq_true k;omega
   refine Gi (by simp only[List.length_append,List.length_cons,List.length_nil];omega) ?_
   intro d
   (try simp only[↓M1,M1,Mb,reduceIte])
   refine ld c j rfl ?_;refine Z1 f b ?_;refine Y6 c u rfl ?_;refine Gi (by simp only[List.length_append,List.length_cons,List.length_nil];omega) ?_
   (try simp only[↓M1,M1,Mb,reduceIte])
   refine V2 f.max b ⟨rfl,?_⟩;rw[Q4H b,if_pos e];simp
  .have e: ¬0<n:=by have:=of_decide_eq_false k;omega
   intro d
   (try simp only[↓M1,M1,Mb,reduceIte])
   refine ld c j rfl ?_;refine Z1 f b ?_;refine Y6 c u rfl ?_;refine Gi (by simp only[List.length_append,List.length_cons,List.length_nil];omega) ?_
   (try simp only[↓M1,M1,Mb,reduceIte])
   refine V2 f.max b ⟨rfl,?_⟩;rw[Q4H b,if_neg e];simp
 .have b: ¬n<m.params.length:=by simpa using p
  rw[List.take_of_length_le Q5] at o⊢;refine Gi (by simp only[List.length_append,List.length_cons,List.length_nil];omega) ?_
  (try simp only[↓M1,M1,Mb,reduceIte])
  refine ld c j rfl ?_;refine Gi (by simp only[List.length_append,List.length_cons,List.length_nil];have:=r.1;omega) ?_
  exact h _ _ g)
end Go.Proofs.Y
namespace Go.Hm
open Go.Kd
def Edge (l:List Cla) (i j:Nat):Prop:= ∃c,l[i]? =some c/\ ∃u∈M6 c,U1 l u=some j
inductive Thr (E : Nat -> Nat -> Prop) (n : Nat) : Nat -> Nat -> Prop
  | one {i j : Nat} : E i j -> Thr E n i j
  | more {i m j : Nat} : E i m -> m < n -> Thr E n m j -> Thr E n i j
theorem Thr.cut {E:Nat->Nat->Prop} {n i j:Nat} (h:Thr E (n+1) i j):Thr E n i j\/(Thr E n i n/\Thr E n n j):=by
 induction h with
 | one h=>exact .inl (.one h)
 | @more i m j d f _ c=>
  by_cases e:m<n
  .rcases c with c | ⟨a,b⟩
   .exact .inl (.more d e c)
   .exact .inr ⟨.more d e a,b⟩
  .obtain rfl:m=n:=by omega
   rcases c with c | ⟨a,b⟩
   .exact .inr ⟨.one d,c⟩
   .exact .inr ⟨.one d,b⟩
theorem Thr.join {E:Nat->Nat->Prop} {n i k j:Nat} (h:Thr E n i k) (a:k<n) (g:Thr E n k j):Thr E n i j:=by
 induction h with
 | one h=>exact .more h a g
 | more b c _ d=>exact .more b c (d a g)
theorem Q7v {l:List Cla} (f:Yg l) {i j:Nat} (e:i<l.length):Edge l i j↔j<l.length/\ ∃u∈M6 l[i],u=J1 l j/\U1 l u=some j:=by
 unfold Edge;rw[List.getElem?_eq_getElem e];constructor
 .rintro ⟨c,d,u,b,a⟩
  cases d;exact ⟨(I8 a).1,u,b,(I8 a).2.symm,a⟩
 .rintro ⟨_,u,b,_,a⟩
  exact ⟨_,rfl,u,b,a⟩
theorem X5g {l:List Cla} (b:Yg l) {i:Nat} (a:i<l.length):lk l (J1 l i)=some l[i]:=by
 have:=Ug b a
 rwa [List.getD_eq_getElem?_getD,List.getElem?_eq_getElem a] at this
theorem X5F {l:List Cla} (b:Yg l) {i j:Nat} (a:i<l.length) (h:Thr (Edge l) l.length i j):j<l.length/\Ol (lk l) (J1 l i) (J1 l j):=by
 induction h with
 | one h=>
  obtain ⟨d,u,f,e,g⟩:=(Q7v b a).1 h;obtain ⟨c,m,_⟩:=Vp g;refine ⟨d,_,X5g b a,u,f,?_⟩;subst e;exact .refl m
 | more d k _ n=>
  obtain ⟨o,p⟩:=n k;obtain ⟨_,u,f,e,g⟩:=(Q7v b a).1 d;refine ⟨o,_,X5g b a,u,f,?_⟩;subst e;exact p.reach
theorem X4h {l:List Cla} (y:Yg l) {a b:X2} (h:Hm.Reach (lk l) a b): ∀i j,U1 l a=some i->U1 l b=some j->i=j\/Thr (Edge l) l.length i j:=by
 induction h with
 | refl _=>
  intro i j g f;rw[g] at f;cases f;exact .inl rfl
 | step p t s v=>
  rename_i a u b c;intro i j g f;obtain ⟨d,q⟩:=s.left;obtain ⟨_,_,k,n,r⟩:=O9 q;obtain ⟨w,e,m,_⟩:=Vp g;rw[p] at e;cases e;have o:Edge l i k:=⟨c,m,u,t,n⟩
  rcases v k j n f with rfl | hT
  .exact .inr (.one o)
  .exact .inr (.more o (I8 n).1 hT)
theorem X5o {l:List Cla} (e:Yg l) {i j:Nat} (m:i<l.length) (n:j<l.length) (h:Ol (lk l) (J1 l i) (J1 l j)):Thr (Edge l) l.length i j:=by
 obtain ⟨c,f,u,r,o⟩:=h;rw[X5g e m] at f;cases f;obtain ⟨d,p⟩:=o.left;obtain ⟨_,_,k,b,q⟩:=O9 p;have g:Edge l i k:=⟨_,List.getElem?_eq_getElem m,u,r,b⟩
 have a:U1 l (J1 l j)=some j:=by
  have:=e.find (List.getElem?_eq_getElem n);unfold J1;rw[List.getD_eq_getElem?_getD,List.getElem?_eq_getElem n];exact this
 rcases X4h e o k j b a with rfl | hT
 .exact .one g
 .exact .more g (I8 b).1 hT
theorem X7p {l:List Cla} (b:Yg l) {i j:Nat} (a:i<l.length) (c:j<l.length):Thr (Edge l) l.length i j↔Jl l (J1 l i) (J1 l j)=true:=by
 rw[Lp];exact ⟨fun h=>(X5F b a h).2,X5o b a c⟩
def Qv (l:List Cla):List (List Bool):=(List.range l.length).map fun i=>(List.range l.length).map fun j=>Jl l (J1 l i) (J1 l j)
def Tu (m:Nat->Nat->Bool) (i j:Nat) (b:Bool):Nat->Nat->Bool:=fun x y=>if x=i/\y=j then b else m x y
structure Clos (E : Nat -> Nat -> Prop) (n k i j : Nat) (m : Nat -> Nat -> Bool) : Prop where
  sound : ∀ a b, m a b = true -> Thr E n a b
  full : ∀ a b, a < n -> b < n -> Thr E k a b -> m a b = true
  done : ∀ a b, a < n -> b < n -> (a < i \/ (a = i /\ b < j)) -> Thr E (k + 1) a b -> m a b = true
theorem Clos.next {E:Nat->Nat->Prop} {n k i j:Nat} {m:Nat->Nat->Bool} (h:Clos E n k i j m) (q:k<n) (s:i<n) (t:j<n):Clos E n k i (j+1) (Tu m i j (m i j||(m i k&&m k j))):=by
 have f: ∀a b,m a b=true->Tu m i j (m i j||(m i k&&m k j)) a b=true:=by
  intro a b c;unfold Tu
  split
  .rename_i e;rw[<-e.1,<-e.2,c];rfl
  .exact c
 refine ⟨fun a b c=>?_,fun a b o p l=>f a b (h.full a b o p l),fun a b o p r l=>?_⟩
 .unfold Tu at c
  split at c
  .rename_i e
   obtain ⟨rfl,rfl⟩:=e;simp only[Bool.or_eq_true,Bool.and_eq_true] at c
   rcases c with d | ⟨d,g⟩
   .exact h.sound _ _ d
   .exact (h.sound _ _ d).join q (h.sound _ _ g)
  .exact h.sound _ _ c
 .by_cases e:a=i/\b=j
  .obtain ⟨rfl,rfl⟩:=e
   unfold Tu;rw[if_pos ⟨rfl,rfl⟩]
   rcases l.cut with d | ⟨d,g⟩
   .rw[h.full _ _ s t d];rfl
   .rw[h.full _ _ s q d,h.full _ _ q t g];simp
  .refine f a b (h.done a b o p ?_ l)
   rcases r with d | ⟨d,g⟩
   .exact .inl d
   .right;refine ⟨d,?_⟩
    have:b≠j:=fun u=>e ⟨d,u⟩;omega
theorem Clos.row {E:Nat->Nat->Prop} {n k i:Nat} {m:Nat->Nat->Bool} (h:Clos E n k i n m):Clos E n k (i+1) 0 m:=
 ⟨h.sound,h.full,fun a b d e f c=>h.done a b d e (by omega) c⟩
theorem Clos.round {E:Nat->Nat->Prop} {n k:Nat} {m:Nat->Nat->Bool} (h:Clos E n k n 0 m):Clos E n (k+1) 0 0 m:=
 ⟨h.sound,fun a b c e d=>h.done a b c e (.inl c) d,fun a b c e f d=>by omega⟩
theorem Clos.start {E:Nat->Nat->Prop} {n:Nat} {m:Nat->Nat->Bool} (h: ∀a b,a<n->(m a b=true↔E a b)) (g: ∀a b,n<=a->m a b=false):Clos E n 0 0 0 m:=by
 refine ⟨fun a b c=>?_,fun a b d i f=>?_,fun a b d i j f=>by omega⟩
 .by_cases d:a<n
  .exact .one ((h a b d).1 c)
  .rw[g a b (by omega)] at c;cases c
 .cases f with
  | one e=>exact (h a b d).2 e
  | more _ k _=>omega
theorem Clos.all {l:List Cla} (c:Yg l) {m:Nat->Nat->Bool} (h:Clos (Edge l) l.length l.length 0 0 m) {i j:Nat} (a:i<l.length) (b:j<l.length):m i j=Jl l (J1 l i) (J1 l j):=by
 rw[Bool.eq_iff_iff,<-X7p c a b];exact ⟨h.sound i j,h.full i j a b⟩
end Go.Hm
namespace Go.Emb
open Go.RowKit Go.Hm
variable {P : Program} {w w0 w' : World} {K : Value -> World -> Prop} {σ σ0 σ1 σ' : Q2}
theorem X8h {t e:TypeId} {a n:Nat} {z:Value} [ts:TS P t e] [tz:TZ P e 1 a z] (j:X7 w σ) (m:z.cells= #[z]) (p:n<=1000000) (o:a*n<=281474976710656)
 (h: ∀b w',w.heap.size<=b->Stp w σ w' σ->Y8 σ w' b (List.replicate n z)->K (.slice (some ⟨b,0,none⟩) n n) w'):St P t (I n) (I n) w K:=by
 obtain ⟨i,k,d,g,c⟩:=tz.info
 have f:(i.bytes:Int)*(n:Int)<=281474976710656:=by
  rw[g];have:((a*n:Nat):Int)<=281474976710656:=by omega
  rwa [Int.natCast_mul] at this
 have l:=run_makeSlice (P:=P) w t e i z ts.h k c .i64 .i64 (n:Int) (n:Int) Q5 (Int.le_refl _) (by rw[d];simp only[Int.toNat_natCast];omega) f Q5
 unfold St;rw[Z0 l];simp only[Int.toNat_natCast,d,Nat.mul_one];refine h _ _ (Nat.le_refl _) (Stp.own j _) ⟨j.none (Nat.le_refl _),e,?_⟩;rw[heap_alloc_new,m];have:madeCells #[z] n=(List.replicate n z).toArray:=by rw[<-toList_madeCells_one,Array.toArray_toList]
 rw[this]
def Q8x (n:Nat) (_:Q2) (b:Nat) (cs:List Value):Prop:=cs=[.slice (some ⟨b,0,none⟩) n n]
instance (n:Nat):Rep (Q8x n):=⟨fun _ h=>h,fun h u hu=>by rw[h] at hu;simp at hu;subst hu;rfl⟩
def Q8v (σ:Q2) (xs:List Bool) (cs:List Value):Prop:= ∃v,cs=[v]/\Sl 1 Q5v σ v xs
instance:Rep Q8v:=⟨fun k h=>by obtain ⟨v,h1,h2⟩:=h;exact ⟨v,h1,h2.le k⟩,fun h u hu=>by
 obtain ⟨v,rfl,a,cap,rfl,_⟩:=h
 simp at hu;subst hu;rfl⟩
def bools (n:Nat) (f:Nat->Bool):List Value:=(List.range n).map fun j=> .bool (f j)
theorem Q2F {n:Nat} {f:Nat->Bool}:(bools n f).length=n:=by simp[bools]
theorem Q7k {n j:Nat} {f:Nat->Bool} (h:j<n):(bools n f)[j]? =some (.bool (f j)):=by simp[bools,h]
theorem Q7l {n j:Nat} {f:Nat->Bool} {b:Bool}:(bools n f).set j (.bool b)=bools n (fun x=>if x=j then b else f x):=by
 apply List.ext_getElem?;intro k;rw[List.getElem?_set]
 by_cases a:k<n
 .by_cases e:j=k
  .subst e;simp[bools,a]
  .have c: ¬k=j:=fun h=>e h.symm
   simp[bools,a,e,c]
 .simp[bools,a]
  intro e;omega
theorem X0j {n:Nat}:List.replicate n (Value.bool false)=bools n fun _=>false:=by
 apply List.ext_getElem?;intro k
 by_cases a:k<n<;>simp[bools,a]
def Jb (σ:Q2) (w:World) (a:List Nat) (n:Nat) (m:Nat->Nat->Bool):Prop:=a.Nodup/\ ∀i (h:i<a.length),Y8 σ w a[i] (bools n (m i))
theorem Jb.up {a:List Nat} {n:Nat} {m:Nat->Nat->Bool} (h:Jb σ w a n m) (k:Stp w σ w' σ'):Jb σ' w' a n m:=⟨h.1,fun i b=>(h.2 i b).up k⟩
theorem Jb.kp {a:List Nat} {n:Nat} {m:Nat->Nat->Bool} {D:Nat->Prop} (h:Jb σ w a n m) (k:Kpt D w w') (d: ∀b∈a,¬D b):Jb σ w' a n m:=⟨h.1,fun i c=>(h.2 i c).kp k (d _ (List.getElem_mem c))⟩
theorem Jb.lt {a:List Nat} {n:Nat} {m:Nat->Nat->Bool} (h:Jb σ w a n m) {b:Nat} (d:b∈a):b<w.heap.size/\σ b=none:=by
 obtain ⟨i,c,rfl⟩:=List.getElem_of_mem d;exact ⟨(h.2 i c).lt,(h.2 i c).1⟩
theorem Jb.snoc {d:List Nat} {n b:Nat} {m:Nat->Nat->Bool} {f:Nat->Bool} (h:Jb σ w d n m) (l:b∉d) (p:Y8 σ w b (bools n f)):Jb σ w (d++[b]) n (fun x=>if x=d.length then f else m x):=by
 refine ⟨by rw[List.nodup_append];exact ⟨h.1,by simp,fun a k c g e=>by simp at g;subst g;subst e;exact l k⟩,fun i o=>?_⟩
 rw[List.length_append,List.length_singleton] at o
 by_cases j:i<d.length
 .rw[List.getElem_append_left j]
  simp only[if_neg (show¬i=d.length by omega)]
  exact h.2 i j
 .obtain rfl:i=d.length:=by omega
  simp only[List.getElem_concat_length,if_true];exact p
theorem Jb.congr {a:List Nat} {n:Nat} {m m':Nat->Nat->Bool} (h:Jb σ w a n m) (c: ∀i,i<a.length->m i=m' i):Jb σ w a n m':=⟨h.1,fun i b=>c i b▸h.2 i b⟩
theorem Jb.keep {a:List Nat} {n:Nat} {m:Nat->Nat->Bool} (U:0<n) (u:n<=1000000): ∀{σ:Q2},Jb σ w a n m->Stp w0 σ0 w σ->(∀b∈a,w0.heap.size<=b)-> ∃σ',Stp w0 σ0 w σ'/\SLe σ σ'/\ ∀i (h:i<a.length),Sl 1 Q5v σ' (.slice (some ⟨a[i],0,none⟩) n n) ((List.range n).map (m i)):=by
 intro σ h C D
 have key: ∀k,k<=a.length-> ∃σ',Stp w0 σ0 w σ'/\SLe σ σ'/\(∀i (h:i<a.length),i<k->J7 σ' ⟨a[i],0,none⟩ (bools n (m i)))/\ ∀i (h:i<a.length),k<=i->σ' a[i]=none:=by
  intro k
  induction k with
  | zero=>intro _;exact ⟨σ,C,SLe.refl _,fun i _ h=>by omega,fun i c _=>(h.2 i c).1⟩
  | succ k M=>
   intro R;obtain ⟨σ1,f,g,l,s⟩:=M Q5;have d:k<a.length:=by omega
   have L:Y8 σ1 w a[k] (bools n (m k)):=⟨s k d (Nat.le_refl _),(h.2 k d).2⟩;obtain ⟨Q,z,A,r,B⟩:=L.keep f (D _ (List.getElem_mem d));refine ⟨Q,z,g.more ⟨r⟩,fun i c H=>?_,fun i c J=>?_⟩
   .by_cases e:i=k
    .subst e;exact A
    .exact (l i c Q5).le r
   .rw[B]
    .exact s i c Q5
    .intro e
     have:=List.nodup_iff_pairwise_ne.1 h.1;rw[List.pairwise_iff_getElem] at this;exact this k i d c Q5 e.symm
 obtain ⟨σ1,f,g,l,_⟩:=key a.length (Nat.le_refl _);refine ⟨σ1,f,g,fun i c=>⟨some ⟨a[i],0,none⟩,n,by simp,by simp,by simp only[maxLen];omega,fun e=>(by cases e),?_⟩⟩
 intro b E;obtain rfl:=Option.some.inj E;refine ⟨fun _=>rfl,fun j x p=>?_⟩;have t:j<n:=by have:=(List.getElem?_eq_some_iff.1 p).1;simpa using this
 obtain ⟨V,arr,e,y,N,O⟩:=l i c c;have q:x=m i j:=by simp[t] at p;exact p.symm
 refine ⟨[.bool x],⟨Qz rfl _,arr,e,y,by rw[K0];exact N,fun k v o=>?_⟩,rfl,rfl⟩
 obtain rfl:k=0:=by cases k with
  | zero=>rfl
  | succ k=>simp at o
 simp at o
 rw[Za,<-o,q];have:=O j _ (Q7k t)
 simpa using this
theorem Q4i {t e:TypeId} {sz b:Nat} {z:Value} [ts:TS P t e] [tz:TZ P e sz b z] {a:Addr} {n c i:Nat} (f:i<n) (d:K (.pointer (some (a.add (i*sz)))) w):indexAddr P t (.slice (some a) n c) (I i) w K:=by
 rw[Ih Q5 Q5]
 simpa using d
theorem Jb.nx {D:Nat->Prop} {a:List Nat} {n:Nat} {m:Nat->Nat->Bool} (h:Jb σ w a n m) (k:Nxt D w σ w' σ') (d: ∀b∈a,¬D b):Jb σ' w' a n m:=
 ⟨h.1,fun i c=>(h.2 i c).nx k (d _ (List.getElem_mem c))⟩
theorem Jb.set {a:List Nat} {n i j:Nat} {b:Bool} {m:Nat->Nat->Bool} (h:Jb σ w a n m) (f:i<a.length) (o:Upd w a[i] w') (g:Y8 σ w' a[i] ((bools n (m i)).set j (.bool b))):Jb σ w' a n (Tu m i j b):=by
 refine ⟨h.1,fun k c=>?_⟩
 by_cases e:k=i
 .subst e
  rw[Q7l] at g;have:Tu m k j b k=fun x=>if x=j then b else m k x:=by funext x;simp[Tu]
  rw[this];exact g
 .have:Tu m i j b k=m k:=by funext x;simp[Tu,e]
  rw[this];refine (h.2 k c).upd o fun d=>e ?_
  rcases Nat.lt_trichotomy k i with hlt | hlt | hlt
  .have:=List.nodup_iff_pairwise_ne.1 h.1
   rw[List.pairwise_iff_getElem] at this;exact absurd d (this k i c f hlt)
  .exact hlt
  .have:=List.nodup_iff_pairwise_ne.1 h.1
   rw[List.pairwise_iff_getElem] at this;exact absurd d.symm (this i k f c hlt)
end Go.Emb
namespace Go.Proofs.Y
open Go.Emb Go.RowKit Go.Kd Go.Hm
variable {w : World} {K : Value -> World -> Prop} {σ : Q2} {l : List Cla} {v : Value}
def Ec (l:List Cla) (i j:Nat):Bool:=match l[i]? with
 | none=>false
 | some c=>(M6 c).any fun u=>decide (U1 l u=some j)
theorem X3B (l:List Cla) (i j:Nat):Ec l i j=true↔Hm.Edge l i j:=by
 unfold Ec Hm.Edge;cases h:l[i]? with
 | none=>simp
 | some c=>simp[List.any_eq_true]
theorem X3C {l:List Cla} {i j:Nat} (h:l.length<=i):Ec l i j=false:=by
 unfold Ec;rw[List.getElem?_eq_none h]
set_option maxRecDepth 9999 in
set_option maxHeartbeats 4000000 in
theorem Q3G (hs:X7 w σ) (hl:Sl 8 M8 σ v l) (ho:Yg l) (hpos:0<l.length) (hlen:l.length<=1000) (hsm: ∀c∈l,Zf c)
 (h: ∀v' w' σ',Stp w σ w' σ'->Sl 1 Q8v σ' v' (Qv l)->K v' w'):Q0 P F.al [v] w K:=Q1l (by
 unfold Hb;simp only[Y3,X3,L9,Xq];unfold V1 V3 V8 Wn Y0 X4 X5;refine Ci (R:=Q8x l.length) (e:=T.ab) (Stp.refl hs) W3 fun x0 w1 hk1 ha1 _=>?_;refine C4 l.length (fun n x w'=> ∃σ' bs,Stp w σ w' σ'/\W7 w.heap.size T.ab 1 (Q8x l.length) σ' w' x bs/\Jb σ' w' bs l.length (Ec l)/\bs.length=n/\ ∀b∈bs,w.heap.size<=b/\x.ownBlock≠some b) ⟨σ,[],hk1,ha1,⟨List.nodup_nil,by simp⟩,rfl,by simp⟩ fun n x w2 d hn hinv=>?_
 obtain ⟨σ2,bs,hS2,ha2,hM2,hbl,hb2⟩:=hinv;refine Q7 (hl.up hS2) ?_;refine J0 ?_;refine Q4 (fun hc=>?_) (fun hc=>?_)
 .have hn':n<l.length:=by simpa using hc
  have hl2:=hl.up hS2;refine Q7 hl2 ?_;refine X8h hS2.sat rfl Q5 Q5 fun b w3 hb3 hk3 hm3=>?_;rw[X0j] at hm3;obtain ⟨lv,fv,mv,p1,r1⟩:=hl2.elC hn';obtain ⟨g1,_,_,g4,g5⟩:=r1.parts;have hsmc:=hsm _ (List.getElem_mem hn');have hs3:=hk3.sat;refine U8 hs3 ?_
  (repeat refine X0 Vf ?_)
  refine Q3Z (w:=w3) (σ:=σ2) (R:=M7) (sz:=1) (e:=T.b) [l[n].super] (fun t w hb e=>?_) ?_
  .subst e;exact Zh hb.stp [_] [l[n].super] rfl rfl (by simp;rfl) rfl ⟨⟨rfl,g5⟩,trivial⟩ fun v' w' hk ha _=>Q5D hb hk ha
  (repeat refine X0 Vf ?_)
  rintro t24 t25 t30 t31 t26 t27 t32 w4 hb4 rfl rfl rfl rfl rfl ⟨f27,a27⟩ rfl;refine Jm f27 a27 g1 rfl (by simp;have:=hsmc.1;omega) (by simp;have:=hsmc.1;omega) fun v5 w5 hn5 hS5 ha5 hat5=>?_
  obtain ⟨σ6,hS6,hv6,le6,_⟩:=ha5.keep hS5;have hv6:Sl 1 M7 σ6 v5 (M6 l[n]):=hv6;have hb3w:w.heap.size<=b:=Nat.le_trans hS2.bel.size hb3;have hm6:=hm3.up hS6;have ha6:=(ha2.up hk3).up hS6;have hM6:=(hM2.up hk3).up hS6;have hS26:=(hS2.trans hk3).trans hS6;have hxb: ∀k,x.ownBlock=some k->k≠b:=fun k e=>by have:=(ha2.mem k e).2.1;omega
  have hbbs:b∉bs:=fun e=>by have:=(hM2.lt e).1;omega
  clear hm3 ha2 hM2 hS6 hS5 ha5 a27 f27 hn5 hat5
  refine V7 (M6 l[n]).length (fun k w'=>Stp w σ w' σ6/\W7 w.heap.size T.ab 1 (Q8x l.length) σ6 w' x bs/\Jb σ6 w' bs l.length (Ec l)/\Y8 σ6 w' b (bools l.length fun j=>((M6 l[n]).take k).any fun u=>decide (U1 l u=some j)))
   ⟨hS26,ha6,hM6,hm6⟩ fun k w7 d7 hk hinv=>?_
  obtain ⟨hS7,ha7,hM7,hm7⟩:=hinv;refine Q7 hv6 ?_;refine J0 ?_;refine Q4 (fun hc=>?_) (fun hc=>?_)
  .have hk':k<(M6 l[n]).length:=by simpa using hc
   refine M9 ?_;refine Z1 hv6 hk' ?_;obtain ⟨p2,p3⟩:=hv6.elS hk';refine Y6 hS7.sat p2 rfl ?_;refine Xa hS7.sat (hl.up hS7) ?_;refine A0 ?_;rw[Yl]
   have hnx: ∀f:Nat->Bool,(∀j,f j=(((M6 l[n]).take k).any (fun u=>decide (U1 l u=some j))||decide (U1 l (M6 l[n])[k]=some j)))->f=fun j=>((M6 l[n]).take (k+1)).any fun u=>decide (U1 l u=some j):=by
    intro f hf;funext j;rw[hf,E7 hk']
   cases hfc:U1 l (M6 l[n])[k] with
   | none=>
    simp only[Option.isSome_none,↓M1,M1,Mb,reduceIte];intro d;refine Z5 hv6.max hk' ⟨hS7,ha7,hM7,?_⟩;rw[<-hnx (fun j=>((M6 l[n]).take k).any fun u=>decide (U1 l u=some j)) (fun j=>by rw[hfc];simp)]
    exact hm7
   | some j=>
    have hj:=(I8 hfc).1;simp only[Option.isSome_some,H2,↓M1,M1,Mb,reduceIte];refine Q4i hj ?_;rw[Nat.mul_one];refine Yj hm7 (by rw[Q2F];exact hj) (by rfl) (by rfl) fun w8 u8 hm8=>?_
    intro d;rw[Q7l] at hm8;refine Z5 hv6.max hk' ⟨u8.stp hS7 hb3w hm7.1,ha7.kp (D:=(· =b)) (.of_upd u8 rfl) hxb,hM7.kp (D:=(· =b)) (.of_upd u8 rfl) (fun c hc e=>hbbs (e▸hc)),?_⟩;rw[<-hnx (fun x=>if x=j then true else _) (fun i=>?_)]
    .exact hm8
    .rw[hfc]
     by_cases e:i=j
     .subst e;simp
     .have: ¬j=i:=fun e'=>e e'.symm
      simp[e,this]
  .have hk': ¬k<(M6 l[n]).length:=by simpa using hc
   have hk0:k=(M6 l[n]).length:=by omega
   subst hk0;rw[List.take_of_length_le (Nat.le_refl _)] at hm7
   have hef:(fun j=>(M6 l[n]).any fun u=>decide (U1 l u=some j))=Ec l n:=by
    funext j;unfold Ec;rw[List.getElem?_eq_getElem hn']
   rw[hef] at hm7
   have hM8:=(hM7.snoc hbbs hm7).congr (m':=Ec l) (fun i _=>by
    by_cases e:i=bs.length
    .rw[if_pos e,e,hbl]
    .rw[if_neg e])
   refine Lz (R:=Q8x l.length) (x:=b) hS7 ha7 rfl rfl rfl rfl Q5 Q5 fun s v' w9 σ9 hnx hS9 ha9 hat=>?_
   have hdis: ∀c∈bs++[b],w.heap.size<=c/\x.ownBlock≠some c:=by
    intro c hc
    rcases List.mem_append.1 hc with hc | hc
    .exact hb2 c hc
    .simp at hc;subst hc;exact ⟨hb3w,fun e=>hxb _ e rfl⟩
   have hlt9: ∀c∈bs++[b],c<w7.heap.size:=fun c hc=>(hM8.lt hc).1;refine R5 ?_;refine V2 Q5 hn' ⟨σ9,bs++[b],hS9,ha9,hM8.nx hnx (fun c hc=>(hdis c hc).2),by rw[List.length_append,hbl];rfl,fun c hc=>⟨(hdis c hc).1,fun e=>?_⟩⟩
   rcases hat with hat | hat
   .exact (hdis c hc).2 (hat▸e)
   .have:=hat c e;have:=hlt9 c hc;omega
 .have hn0:n=l.length:=by
   have: ¬n<l.length:=by simpa using hc
   omega
  obtain ⟨σ8,hS8,hv8,le8,old8⟩:=ha2.keep hS2;have hlb:bs.length=l.length:=by omega
  have hM8:Jb σ8 w2 bs l.length (Ec l):=⟨hM2.1,fun i hi=>⟨(old8 _ (fun e=>(hb2 _ (List.getElem_mem hi)).2 e.symm)).trans (hM2.2 i hi).1,(hM2.2 i hi).2⟩⟩
  have hpx: ∀i (hi:i<bs.length),J7 σ8 (K9 1 x i) [.slice (some ⟨bs[i],0,none⟩) l.length l.length]:=fun i hi=>by
   obtain ⟨cs,h1,_,h2⟩:=hv8.el hi;have h2:cs=_:=h2;subst h2;exact h1
  clear ha2 hM2 hS2 le8 old8;refine V7 l.length (fun k w'=> ∃m,Stp w σ w' σ8/\Jb σ8 w' bs l.length m/\Clos (Hm.Edge l) l.length k 0 0 m) ⟨Ec l,hS8,hM8,Clos.start (fun a b _=>X3B l a b) (fun a b h=>X3C h)⟩ fun k w3 d3 hk3 hinv=>?_;obtain ⟨m3,hS3,hM3,hC3⟩:=hinv;refine Q7 (hl.up hS3) ?_;refine J0 ?_;refine Q4 (fun hc=>?_) (fun hc=>?_)
  .have hk':k<l.length:=by simpa using hc
   refine V7 l.length (fun i w'=> ∃m,Stp w σ w' σ8/\Jb σ8 w' bs l.length m/\Clos (Hm.Edge l) l.length k i 0 m) ⟨m3,hS3,hM3,hC3⟩ fun i w4 d4 hi4 hinv=>?_;obtain ⟨m4,hS4,hM4,hC4⟩:=hinv;refine Q7 (hl.up hS4) ?_;refine J0 ?_;refine Q4 (fun hc=>?_) (fun hc=>?_)
   .have hi':i<l.length:=by simpa using hc
    refine V7 l.length (fun j w'=> ∃m,Stp w σ w' σ8/\Jb σ8 w' bs l.length m/\Clos (Hm.Edge l) l.length k i j m) ⟨m4,hS4,hM4,hC4⟩ fun j w5 d5 hj5 hinv=>?_;obtain ⟨m5,hS5,hM5,hC5⟩:=hinv;refine Q7 (hl.up hS5) ?_;refine J0 ?_;refine Q4 (fun hc=>?_) (fun hc=>?_)
    .have hj':j<l.length:=by simpa using hc
     have hi6:i<bs.length:=by omega
     have hk6:k<bs.length:=by omega
     have px_i:=hpx i hi6;have px_k:=hpx k hk6
     have hrd: ∀{w':World} {K:Value->World->Prop} {a b:Nat} {ha:a<bs.length},Hst w5 σ8 w' σ8->b<l.length->K (.bool (m5 a b)) w'->Q6 P T.r (.pointer (some ((⟨bs[a],0,none⟩:Addr).add (b*1)))) w' K:=fun hst hb hK=>by
      rw[Nat.mul_one];exact Zb (((hM5.up hst.stp).2 _ _).cell (Q7k hb)) hK
     refine U8 hS5.sat ?_
     (repeat (apply X0;(· intros;(repeat (rename_i hx;subst hx));(repeat' (first | (with_reducible exact Q8 rfl) | (with_reducible exact B5 (Stp.bel (by (repeat (first | exact Stp.refl (by (first | assumption | exact Stp.sat Q9 | exact Hst.sat Q9)) | assumption | refine Stp.trans ?_ (by first | assumption | exact Hst.stp Q9))))) rfl) | (with_reducible intro _) | (simp only[↓M2,M2,Mb,reduceIte]) | (with_reducible refine Q4i au ?_) | (with_reducible refine hrd au au ?_) | (with_reducible show Q6 _ _ _ _ _;first | refine Y6 aS aL aR ?_ | refine Y7 aS aL aR ?_ | refine ld aS aL aR ?_) | (with_reducible show indexAddr _ _ _ _ _ _;refine Z1 aL au ?_) | (with_reducible show V0 _ _ _ _ _ _ _ _;refine Q7 aL ?_) | (with_reducible show Xj _ _ _ _ _ _;refine W2 aR ?_) | (with_reducible show pick _ _ _ _ _ _;refine F3 ?_) | (apply Zn;intro hh;(try simp only[hh,reduceIte,↓M2,M2,Mb,reduceIte]))));done)))
     cases h1:m5 i j
     .simp only[reduceIte]
      (repeat (apply X0;(· intros;(repeat (rename_i hx;subst hx));(repeat' (first | (with_reducible exact Q8 rfl) | (with_reducible exact B5 (Stp.bel (by (repeat (first | exact Stp.refl (by (first | assumption | exact Stp.sat Q9 | exact Hst.sat Q9)) | assumption | refine Stp.trans ?_ (by first | assumption | exact Hst.stp Q9))))) rfl) | (with_reducible intro _) | (simp only[↓M2,M2,Mb,reduceIte]) | (with_reducible refine Q4i au ?_) | (with_reducible refine hrd au au ?_) | (with_reducible show Q6 _ _ _ _ _;first | refine Y6 aS aL aR ?_ | refine Y7 aS aL aR ?_ | refine ld aS aL aR ?_) | (with_reducible show indexAddr _ _ _ _ _ _;refine Z1 aL au ?_) | (with_reducible show V0 _ _ _ _ _ _ _ _;refine Q7 aL ?_) | (with_reducible show Xj _ _ _ _ _ _;refine W2 aR ?_) | (with_reducible show pick _ _ _ _ _ _;refine F3 ?_) | (apply Zn;intro hh;(try simp only[hh,reduceIte,↓M2,M2,Mb,reduceIte]))));done)))
      (intros;(repeat (rename_i hx;subst hx));(try simp only[↓M2,M2,Mb,reduceIte]))
      rename_i w6 hb6;refine Q4i hj' ?_;rw[Nat.mul_one];refine Eq.subst (motive:=fun V=>J9 P T.r (.pointer (some ((⟨bs[i],0,none⟩:Addr).add j))) V w6 _) (show Value.bool (m5 i j||(m5 i k&&m5 k j))=_ from by cases h2:m5 i k<;>simp[h1,h2]) ?_
      refine Yj ((hM5.up hb6.stp).2 i hi6) (by rw[Q2F];exact hj') (by rfl) (by rfl) fun w7 u7 hm7=>?_
      (try simp only[↓M1,M1,Mb,reduceIte])
      exact Z5 Q5 hj' ⟨_,u7.stp (hS5.trans hb6.stp) (hb2 _ (List.getElem_mem hi6)).1 hm7.1,(hM5.up hb6.stp).set hi6 u7 hm7,hC5.next hk' hi' hj'⟩
     .simp only[Bool.true_eq_false,reduceIte]
      (repeat (apply X0;(· intros;(repeat (rename_i hx;subst hx));(repeat' (first | (with_reducible exact Q8 rfl) | (with_reducible exact B5 (Stp.bel (by (repeat (first | exact Stp.refl (by (first | assumption | exact Stp.sat Q9 | exact Hst.sat Q9)) | assumption | refine Stp.trans ?_ (by first | assumption | exact Hst.stp Q9))))) rfl) | (with_reducible intro _) | (simp only[↓M2,M2,Mb,reduceIte]) | (with_reducible refine Q4i au ?_) | (with_reducible refine hrd au au ?_) | (with_reducible show Q6 _ _ _ _ _;first | refine Y6 aS aL aR ?_ | refine Y7 aS aL aR ?_ | refine ld aS aL aR ?_) | (with_reducible show indexAddr _ _ _ _ _ _;refine Z1 aL au ?_) | (with_reducible show V0 _ _ _ _ _ _ _ _;refine Q7 aL ?_) | (with_reducible show Xj _ _ _ _ _ _;refine W2 aR ?_) | (with_reducible show pick _ _ _ _ _ _;refine F3 ?_) | (apply Zn;intro hh;(try simp only[hh,reduceIte,↓M2,M2,Mb,reduceIte]))));done)))
      (intros;(repeat (rename_i hx;subst hx));(try simp only[↓M2,M2,Mb,reduceIte]))
      rename_i w6 hb6;refine Q4i hj' ?_;rw[Nat.mul_one];refine Eq.subst (motive:=fun V=>J9 P T.r (.pointer (some ((⟨bs[i],0,none⟩:Addr).add j))) V w6 _) (show Value.bool (m5 i j||(m5 i k&&m5 k j))=_ from by simp[h1]) ?_
      refine Yj ((hM5.up hb6.stp).2 i hi6) (by rw[Q2F];exact hj') (by rfl) (by rfl) fun w7 u7 hm7=>?_
      (try simp only[↓M1,M1,Mb,reduceIte])
      exact Z5 Q5 hj' ⟨_,u7.stp (hS5.trans hb6.stp) (hb2 _ (List.getElem_mem hi6)).1 hm7.1,(hM5.up hb6.stp).set hi6 u7 hm7,hC5.next hk' hi' hj'⟩
    .have hj0:j=l.length:=by
      have: ¬j<l.length:=by simpa using hc
      omega
     subst hj0;refine R5 ?_;exact Z5 Q5 hi' ⟨m5,hS5,hM5,hC5.row⟩
   .have hi0:i=l.length:=by
     have: ¬i<l.length:=by simpa using hc
     omega
    subst hi0;refine R5 ?_;exact Z5 Q5 hk' ⟨m4,hS4,hM4,hC4.round⟩
  .have hk0:k=l.length:=by
    have: ¬k<l.length:=by simpa using hc
    omega
   subst hk0;obtain ⟨σ9,hS9,le9,hrows⟩:=hM3.keep hpos Q5 hS3 (fun b hb=>(hb2 b hb).1);refine h _ _ _ hS9 ((hv8.lift le9).conv (by simp[Qv,hlb]) fun i hi hj cs hcs=>?_)
   have hcs:cs=_:=hcs;subst hcs;refine ⟨_,rfl,?_⟩;have:=hrows i hi
   have he:(Qv l)[i]=(List.range l.length).map (m3 i):=by
    have hi':i<l.length:=by omega
    simp only[Qv,List.getElem_map,List.getElem_range];apply List.map_congr_left;intro j hj;exact (Clos.all ho hC3 hi' (by simpa using hj)).symm
   rw[he];exact this)
end Go.Proofs.Y
namespace Go.Emb
open Go.RowKit Go.Hm
structure FinT (B : Nat) (F : Option Obj -> Prop) (w w' : World) : Prop where
  os : w'.os = w.os
  tape : w'.tape = w.tape
  output : w'.output = w.output
  size : w.heap.size <= w'.heap.size
  old : ∀ k, k < w.heap.size -> k < B -> w'.heap[k]? = w.heap[k]?
  new : ∀ k, k < w.heap.size -> w'.heap[k]? = w.heap[k]? \/ F (w'.heap[k]?)
variable {B : Nat} {F : Option Obj -> Prop} {w w' w0 : World} {σ : Q2} {v V : Value}
theorem FinT.of_below (h:Below w.heap.size w w'):FinT B F w w':=⟨h.os,h.tape,h.output,h.size,fun k a _=>h.block k a,fun k a=> .inl (h.block k a)⟩
theorem FinT.of_upd {b:Nat} (h:Upd w b w') (c:B<=b) (hF:F (w'.heap[b]?)):FinT B F w w':=
 ⟨h.os,h.tape,h.output,by rw[h.size];exact Nat.le_refl _,fun k a hB=>h.block k Q5,fun k a=>by
  by_cases e:k=b
  .subst e;exact .inr hF
  .exact .inl (h.block k e)⟩
theorem FinT.hst (h:FinT w0.heap.size F w w') (c:X7 w0 σ) (a:Hst w0 σ w σ):Hst w0 σ w' σ:=
 ⟨Stp.of_below c ⟨h.os.trans a.stp.bel.os,h.tape.trans a.stp.bel.tape,h.output.trans a.stp.bel.output,Nat.le_trans a.stp.bel.size h.size,fun k b=>(h.old k (Nat.lt_of_lt_of_le b a.stp.bel.size) b).trans (a.stp.bel.block k b)⟩⟩
theorem X7Y {A:(World->World->Prop)->(World->Prop)->Prop} (F:Option Obj->Prop) (a:X7 w σ) (h:A (FinT w.heap.size F) (fun w'=>Hst w σ w' σ)):dr w A:=
 Pe _ _ ⟨Stp.of_below a (Below.refl _ _).drew⟩ (fun _ _ b c=>c.hst a b) h
theorem Q8W (h:V=v):dk (FinT B F) (fun v _=>V=v) w v w:=⟨.of_below (Below.refl _ _),h⟩
theorem X6B (a:Below w.heap.size w w') (h:V=v):dk (FinT B F) (fun v _=>V=v) w v w':=⟨.of_below a,h⟩
def X7C (B n:Nat) (F:Option Obj->Prop) (v:Value) (w:World):Prop:= ∃g,v= .pointer (some ⟨g,0,none⟩)/\B<=g/\((∃cs:List Value,∃e,cs.length=n/\w.heap[g]? =some (.cells cs.toArray e (0,0)))\/F (w.heap[g]?))
def X7B (B:Nat) (F:Option Obj->Prop) (v:Value) (w:World):Prop:= ∃g,v= .pointer (some ⟨g,0,none⟩)/\B<=g/\F (w.heap[g]?)
theorem Q0z {w:World} {g:Nat} {o:Obj} (h:w.heap[g]? =some o):g<w.heap.size:=(Array.getElem?_eq_some_iff.1 h).1
theorem X2W {n:Nat} (hF: ¬F none):Xy (FinT B F) (X7C B n F):=by
 rintro v w w' ⟨g,rfl,hB,b⟩ d
 have a:g<w.heap.size:=by
  rcases b with ⟨cs,e,_,h⟩ | h
  .exact Q0z h
  .cases c:w.heap[g]? with
   | none=>rw[c] at h;exact absurd h hF
   | some o=>exact Q0z c
 rcases d.new g a with h | h
 .exact ⟨g,rfl,hB,by rw[h];exact b⟩
 .exact ⟨g,rfl,hB, .inr h⟩
theorem X2V (hF: ¬F none):Xy (FinT B F) (X7B B F):=by
 rintro v w w' ⟨g,rfl,hB,a⟩ d
 have b:g<w.heap.size:=by
  cases c:w.heap[g]? with
  | none=>rw[c] at a;exact absurd a hF
  | some o=>exact Q0z c
 rcases d.new g b with h | h
 .exact ⟨g,rfl,hB,by rw[h];exact a⟩
 .exact ⟨g,rfl,hB,h⟩
end Go.Emb
namespace Go.Hm
open Go.Kd
theorem X0L {a b:List Hm.Met} (h: ∀m,m∈a↔m∈b):Hu a=Hu b:=by
 rw[Bool.eq_iff_iff];simp only[Hu,List.any_eq_true];constructor
 .rintro ⟨x,d,y,e,c⟩;exact ⟨x,(h x).1 d,y,(h y).1 e,c⟩
 .rintro ⟨x,d,y,e,c⟩;exact ⟨x,(h x).2 d,y,(h y).2 e,c⟩
theorem X4H {α:Type} {a b:List α} {p:α->Bool} (h: ∀m,m∈a↔m∈b):a.any p=b.any p:=by
 rw[Bool.eq_iff_iff];simp only[List.any_eq_true];constructor
 .rintro ⟨x,c,y⟩;exact ⟨x,(h x).1 c,y⟩
 .rintro ⟨x,c,y⟩;exact ⟨x,(h x).2 c,y⟩
def Vj (m:Hm.Met):List X2:=m.params++if m.result=[] then [] else [m.result]
def Lm (c:Cla):List X2:=c.fields.map (·.kind)++c.methods.flatMap Vj
theorem X3T {l:List Cla} {c:Cla}:(Lm c).any (fun s=> !B0 l s)=T6 l c:=by
 unfold Lm T6 Vj;rw[List.any_append,List.any_map,List.any_flatMap]
 congr 1
 congr 1
 funext m
 rw[List.any_append]
 by_cases e:m.result=[]
 .simp[e]
 .simp[e,Bool.or_comm]
def upB (l:List Cla) (i k:Nat):Bool:=decide (k=i)||Jl l (J1 l i) (J1 l k)
def Jk (l:List Cla) (i n:Nat):List Hm.Met:=(List.range n).flatMap fun k=>if upB l i k then (l.getD k Cla.zero).methods else []
theorem X2x {l:List Cla} {i n:Nat}:Jk l i (n+1)=Jk l i n++if upB l i n then (l.getD n Cla.zero).methods else []:=by
 unfold Jk;rw[List.range_succ,List.flatMap_append]
 simp
theorem Q7O {l:List Cla} (r:Yg l) {i:Nat} (h:i<l.length) (m:Hm.Met):m∈Jk l i l.length↔m∈Ox l (J1 l i):=by
 unfold Jk Ox;simp only[List.mem_flatMap,List.mem_range];have b: ∀k,k<l.length->lk l (J1 l k)=some (l.getD k Cla.zero):=fun k g=>Ug r g;constructor
 .rintro ⟨k,g,d⟩
  split at d
  .rename_i hu
   refine ⟨J1 l k,?_,by rw[b k g];exact d⟩
   rw[Mh,Q3F];simp only[upB,Bool.or_eq_true,decide_eq_true_eq,Lp] at hu
   rcases hu with rfl | hu
   .exact .inl ⟨rfl,_,b _ g⟩
   .exact .inr hu
  .simp at d
 .rintro ⟨u,hu,d⟩
  rw[Mh] at hu;obtain ⟨c,p⟩:=hu.right;obtain ⟨A,q,j,y,a⟩:=O9 p;obtain ⟨n,z⟩:=List.getElem?_eq_some_iff.1 a
  have f:J1 l j=u:=by
   unfold J1;rw[List.getD_eq_getElem?_getD,a];exact A
  refine ⟨j,n,?_⟩;rw[p] at d
  have:upB l i j=true:=by
   simp only[upB,Bool.or_eq_true,decide_eq_true_eq,Lp];rw[Q3F] at hu
   rcases hu with ⟨e,_⟩ | hu
   .left
    have s:=b i h;rw[e,<-f] at s;have o:=Yg.find r (i:=i) (c:=l[i]) (List.getElem?_eq_getElem h);have t:l[i].name=J1 l i:=by unfold J1;rw[List.getD_eq_getElem?_getD,List.getElem?_eq_getElem h];rfl
    rw[t,e,y] at o
    simpa using o
   .right;rw[f];exact hu
  rw[if_pos this,List.getD_eq_getElem?_getD,a];exact d
theorem X3Z {l:List Cla} {i n:Nat} {m:Hm.Met} (h:m∈Jk l i n) (e:n<=l.length): ∃c∈l,m∈c.methods:=by
 unfold Jk at h;simp only[List.mem_flatMap,List.mem_range] at h;obtain ⟨k,d,a⟩:=h
 split at a
 .have b:k<l.length:=by omega
  rw[List.getD_eq_getElem?_getD,List.getElem?_eq_getElem b] at a;exact ⟨l[k],List.getElem_mem _,a⟩
 .simp at a
def Yr (a:List Hm.Met) (x y:Nat):Bool:=decide ((a.getD x Hm.Met.zero).name=(a.getD y Hm.Met.zero).name)&& !decide (Zz (a.getD x Hm.Met.zero)=Zz (a.getD y Hm.Met.zero))
theorem Pk {α:Type} {l:List α} {d:α} {n:Nat} (h:n<l.length):l.getD n d=l[n]:=by rw[List.getD_eq_getElem?_getD,List.getElem?_eq_getElem h];rfl
theorem X45 {a:List Hm.Met} {x y:Nat} (b:x<a.length) (c:y<a.length) (h:Yr a x y=true):Hu a=true:=by
 unfold Hu;rw[List.any_eq_true];refine ⟨a[x],List.getElem_mem _,?_⟩;rw[List.any_eq_true];refine ⟨a[y],List.getElem_mem _,?_⟩;unfold Yr at h
 rwa [Pk b,Pk c] at h
theorem X5p {d:List Hm.Met} (h: ∀x y,x<d.length->y<x->Yr d x y=false):Hu d=false:=by
 unfold Hu;rw[List.any_eq_false];intro a j;rw[List.any_eq_true];rintro ⟨b,k,e⟩;obtain ⟨x,g,rfl⟩:=List.getElem_of_mem j;obtain ⟨y,i,rfl⟩:=List.getElem_of_mem k
 have f:Yr d y x=Yr d x y:=by
  unfold Yr
  congr 1
  .rw[Bool.eq_iff_iff];simp[eq_comm]
  .congr 1;rw[Bool.eq_iff_iff];simp[eq_comm]
 have c:Yr d x y=true:=by unfold Yr;rw[Pk g,Pk i];exact e
 rcases Nat.lt_trichotomy x y with hlt | heq | hlt
 .rw[<-f,h y x i hlt] at c;cases c
 .subst heq;simp[Yr] at c
 .rw[h x y g hlt] at c;cases c
end Go.Hm
namespace Go.Proofs.Y
open Go.Emb Go.RowKit Go.Kd Go.Hm
variable {w : World} {K : Value -> World -> Prop} {σ : Q2} {l : List Cla} {v : Value}
theorem Q0A {c:Cla} (h:Vt c=false):c.fields.length<=32/\c.methods.length<=32/\ ∀m∈c.methods,m.params.length<=32:=by
 simp only[Vt,Bool.or_eq_false_iff,decide_eq_false_iff_not,List.any_eq_false] at h;obtain ⟨⟨⟨a,d⟩,e⟩,f⟩:=h;refine ⟨by omega,by omega,fun m b=>?_⟩
 have:=a m b;simp only[Og,Bool.or_eq_true,decide_eq_true_eq,not_or] at this;omega
set_option maxRecDepth 9999 in
set_option maxHeartbeats 8000000 in
theorem X0X {i:Nat} (hs:X7 w σ) (hv:Sl 8 M8 σ v l) (ok:Ok l) (own:Yg l) (hlen:l.length<=1000) (hmn: ∀c∈l,Vt c=false) (hi:i<l.length)
 (h: ∀w' σ',Stp w σ w' σ'->K (I (O5 l l[i])) w'):Q0 P F.be [v,I i] w K:=Tq (by
 unfold Nu;simp only[Y3,X3,L9,Xq,N0];unfold Z8 zhi Y1 V1 V3 X6 V8 Y0 X4 V5 X5;obtain ⟨lv,fv,mv,p0,r0⟩:=hv.elC hi;refine Z1 hv hi ?_;refine Y7 hs p0 rfl ?_;refine J6 hs (by rfl) rfl (Rep.one r0) fun q w1 σ1 hk1 hq1=>?_
 have r1:=RCl_lift r0 ⟨hk1.le⟩;obtain ⟨_,gf,gm,g4,_⟩:=r1.parts;have hv1:=hv.up hk1;have hnm:=ok.nm _ (List.getElem_mem hi);have hcm:=hmn _ (List.getElem_mem hi);have hname:J1 l i=l[i].name:=Q0V hi;generalize hcE:l[i]=c at*;obtain ⟨mf,mm,mp⟩:=Q0A hcm;have e64:Uo l c=true->O5 l c=64:=fun e=>by unfold O5;simp[e]
 have e65:Uo l c=false->T6 l c=true->O5 l c=65:=fun e e2=>by unfold O5;simp[e,e2]
 have e66:Uo l c=false->T6 l c=false->Vq l c=true->O5 l c=66:=fun e e2 e3=>by unfold O5;simp[e,e2,e3]
 have e67:Uo l c=false->T6 l c=false->Vq l c=false->Ss l c=true->O5 l c=67:=fun e e2 e3 e4=>by unfold O5;simp[e,e2,e3,e4]
 have e0:Uo l c=false->T6 l c=false->Vq l c=false->Ss l c=false->O5 l c=0:=fun e e2 e3 e4=>by unfold O5;simp[e,e2,e3,e4]
 generalize O5 l c=R at*;clear p0 r0 r1 hcm;refine V7 c.fields.length (fun n w'=> ∃σ',Stp w σ w' σ'/\SLe σ1 σ'/\(c.fields.take n).any (fun f=>(Hw l c.super f.name).isSome)=false) ⟨σ1,hk1,SLe.refl _,rfl⟩ fun n w2 d hn hinv=>?_;obtain ⟨σ2,hS2,le2,hno⟩:=hinv;have hq2:=hq1.lift le2;have gf2:=gf.lift le2
 (try simp only[↓M1,M1,Mb,reduceIte])
 refine ld hS2.sat hq2 rfl ?_;refine Q7 gf2 ?_;refine J0 ?_;refine Q4 (fun hc=>?_) (fun hc=>?_)
 .have hn':n<c.fields.length:=by simpa using hc
  obtain ⟨pf,_⟩:=gf2.elF hn';have hs2:=hS2.sat;refine U8 hs2 ?_
  (repeat refine X0 Vf ?_)
  (intros;(repeat (rename_i hx;subst hx));(try simp only[↓M2,M2,Mb,reduceIte]))
  rename_i w3 hb3;refine X4j hb3.sat (hv.up (hS2.trans hb3.stp)) ok.acy hlen ok.sm fun w4 σ4 hk4=>?_;refine A0 ?_;rw[Yl];have hnx:=E7 (p:=fun f:Fld=>(Hw l c.super f.name).isSome) hn';cases hp:(Hw l c.super c.fields[n].name).isSome with
  | true=>
   (try simp only[↓M1,M1,Mb,reduceIte])
   rw[hp,Bool.or_true] at hnx;have:R=64:=e64 (K2 hn' hp);subst this;exact h _ _ ((hS2.trans hb3.stp).trans hk4)
  | false=>
   (try simp only[↓M1,M1,Mb,reduceIte])
   exact Z5 gf.max hn' ⟨σ4,(hS2.trans hb3.stp).trans hk4,le2.more ⟨(hb3.stp.trans hk4).le⟩,by rw[hnx,hno,hp];rfl⟩
 have hA:Uo l c=false:=by
  have hn': ¬n<c.fields.length:=by simpa using hc
  rw[B4 hn'] at hno;exact hno
 clear hno hc hn e64;refine Ci (R:=M7) (e:=T.b) hS2 W3 fun x3 w3 hk3 ha3 _=>?_;have hS3:=hS2.trans hk3;refine C4 c.fields.length (fun n x w'=> ∃σ',Stp w σ w' σ'/\SLe σ1 σ'/\W7 w.heap.size T.b 1 M7 σ' w' x ((c.fields.take n).map (·.kind))) ⟨σ2,hS3,le2,ha3⟩ fun n x w4 d hn hinv=>?_;obtain ⟨σ4,hS4,le4,ha4⟩:=hinv;have hq4:=hq1.lift le4;have gf4:=gf.lift le4
 (try simp only[↓M1,M1,Mb,reduceIte])
 refine ld hS4.sat hq4 rfl ?_;refine Q7 gf4 ?_;refine J0 ?_;refine Q4 (fun hc=>?_) (fun hc=>?_)
 .have hn':n<c.fields.length:=by simpa using hc
  obtain ⟨pf,rf⟩:=gf4.elF hn';have hkl:=(hnm.2.1 _ (List.getElem_mem hn')).2
  (try simp only[↓M1,M1,Mb,reduceIte])
  refine ld hS4.sat hq4 rfl ?_;refine Z1 gf4 hn' ?_
  (try simp only[↓M1,M1,Mb,reduceIte])
  refine ld hS4.sat pf rfl ?_;refine Lz (R:=M7) (x:=c.fields[n].kind) hS4 ha4 ⟨rfl,Nat.le_trans hkl W3⟩ rfl rfl rfl (by rw[List.length_map,List.length_take];omega) (by rw[List.length_map,List.length_take];omega) fun s v' w5 σ5 hnx hS5 ha5 _=>?_
  (try simp only[↓M1,M1,Mb,reduceIte])
  refine V2 gf.max hn' ⟨σ5,hS5,le4.more hnx.le,?_⟩;rw[List.take_add_one,List.getElem?_eq_getElem hn',List.map_append];exact ha5
 rw[List.take_of_length_le (by
  have: ¬n<c.fields.length:=by simpa using hc
  omega)] at ha4
 clear hc hn hk3 ha3 hS3 hS2 le2 hq2 gf2 hq4 gf4
 have hkl: ∀n,(c.fields.map (·.kind)++(c.methods.take n).flatMap Vj).length<=2000:=fun n=>by
  have h1:=Nk Vj 33 (c.methods.take n) fun m hm=>by
   have:=mp m (List.mem_of_mem_take hm);unfold Vj
   split<;>simp<;>omega
  have h2:(c.methods.take n).length<=32:=by rw[List.length_take];omega
  have h3:(c.methods.take n).length*33<=32*33:=Nat.mul_le_mul_right _ h2;rw[List.length_append,List.length_map];omega
 refine C4 c.methods.length (fun n x w'=> ∃σ',Stp w σ w' σ'/\SLe σ1 σ'/\W7 w.heap.size T.b 1 M7 σ' w' x (c.fields.map (·.kind)++(c.methods.take n).flatMap Vj)) ⟨σ4,hS4,le4,by simpa using ha4⟩ fun n x w5 d hn hinv=>?_
 clear ha4 hS4 le4;obtain ⟨σ5,hS5,le5,ha5⟩:=hinv;have hq5:=hq1.lift le5;have gm5:=gm.lift le5;have hkn:=hkl n
 (try simp only[↓M1,M1,Mb,reduceIte])
 refine ld hS5.sat hq5 rfl ?_;refine Q7 gm5 ?_;refine J0 ?_;refine Q4 (fun hc=>?_) (fun hc=>?_)
 .have hn':n<c.methods.length:=by simpa using hc
  obtain ⟨pv,cv,hv',pm,rm⟩:=gm5.elM hn';obtain ⟨gp,_,_,_,gr,_⟩:=rm.parts;have hpn:=mp _ (List.getElem_mem hn');have hrl:=(hnm.2.2 _ (List.getElem_mem hn')).1
  have hnx:(c.methods.take (n+1)).flatMap Vj=(c.methods.take n).flatMap Vj++Vj c.methods[n]:=by
   rw[List.take_add_one,List.getElem?_eq_getElem hn',List.flatMap_append];simp
  refine M9 ?_
  (try simp only[↓M1,M1,Mb,reduceIte])
  refine ld hS5.sat hq5 rfl ?_;refine Z1 gm5 hn' ?_
  (try simp only[↓M1,M1,Mb,reduceIte])
  refine ld hS5.sat pm rfl ?_;refine Jm hS5 ha5 gp rfl Q5 Q5 fun v6 w6 hn6 hS6 ha6 _=>?_
  (try simp only[↓M1,M1,Mb,reduceIte])
  refine ld hS6.sat hq5 rfl ?_;refine Z1 gm5 hn' ?_
  (try simp only[↓M1,M1,Mb,reduceIte])
  refine ld hS6.sat pm rfl ?_;refine Jn ?_
  by_cases he:c.methods[n].result=[]
  .simp only[he,decide_true,Bool.not_true,↓M1,M1,Mb,reduceIte]
   intro d;refine V2 gm.max hn' ⟨σ5,hS6,le5,?_⟩;rw[hnx];unfold Vj;rw[if_pos he,List.append_nil,<-List.append_assoc];exact ha6
  .simp only[he,decide_false,Bool.not_false,↓M1,M1,Mb,reduceIte]
   refine ld hS6.sat hq5 rfl ?_;refine Z1 gm5 hn' ?_
   (try simp only[↓M1,M1,Mb,reduceIte])
   refine ld hS6.sat pm rfl ?_;refine Lz (R:=M7) (x:=c.methods[n].result) hS6 ha6 ⟨rfl,Nat.le_trans hrl W3⟩ rfl rfl rfl (by rw[List.length_append];omega) (by rw[List.length_append];omega) fun s v' w7 σ7 hn7 hS7 ha7 _=>?_
   intro d
   (try simp only[↓M1,M1,Mb,reduceIte])
   refine V2 gm.max hn' ⟨σ7,hS7,le5.more hn7.le,?_⟩;rw[hnx];unfold Vj at ha7⊢;rw[if_neg he]
   simpa only[List.append_assoc] using ha7
 rw[List.take_of_length_le (by
  have: ¬n<c.methods.length:=by simpa using hc
  omega)] at ha5
 have hkn:=hkl c.methods.length;rw[List.take_of_length_le (Nat.le_refl _)] at hkn;have hkE:T6 l c=(Lm c).any (fun s=> !B0 l s):=X3T.symm
 have hkb: ∀s∈Lm c,s.length<=W6:=fun s hs=>by
  unfold Lm at hs
  rcases List.mem_append.1 hs with hs | hs
  .obtain ⟨f,hf,rfl⟩:=List.mem_map.1 hs
   exact Nat.le_trans (hnm.2.1 f hf).2 W3
  .obtain ⟨m,hm,hs⟩:=List.mem_flatMap.1 hs
   unfold Vj at hs
   rcases List.mem_append.1 hs with hs | hs
   .exact Nat.le_trans ((hnm.2.2 m hm).2 s hs) W3
   .split at hs
    .simp at hs
    .simp at hs;subst hs;exact Nat.le_trans (hnm.2.2 m hm).1 W3
 obtain ⟨σ6,hS6,hv6,lee6,_⟩:=ha5.keep hS5;have le6:=le5.more ⟨lee6⟩;clear ha5 hq5 gm5 hc hn;change Sl 1 M7 σ6 x (Lm c) at hv6;refine V7 (Lm c).length (fun n w'=>Stp w σ w' σ6/\((Lm c).take n).any (fun s=> !B0 l s)=false) ⟨hS6,rfl⟩ fun n w7 d hn hinv=>?_;obtain ⟨hS7,hno⟩:=hinv;refine Q7 hv6 ?_;refine J0 ?_;refine Q4 (fun hc=>?_) (fun hc=>?_)
 .have hn':n<(Lm c).length:=by simpa using hc
  refine Z1 hv6 hn' ?_;obtain ⟨pk,_⟩:=hv6.elS hn';refine Y6 hS7.sat pk rfl ?_;refine X4o hS7.sat (hv.up hS7) (hkb _ (List.getElem_mem hn')) ?_;have hnx:=E7 (p:=fun s=> !B0 l s) hn';cases hp:B0 l (Lm c)[n] with
  | false=>
   (try simp only[↓M1,M1,Mb,reduceIte])
   have:R=65:=e65 hA (by rw[hkE];exact K2 hn' (by simp[hp]))
   subst this;exact h _ _ hS7
  | true=>
   (try simp only[↓M1,M1,Mb,reduceIte])
   exact Z5 hv6.max hn' ⟨hS7,by rw[hnx,hno,hp];rfl⟩
 have hB:T6 l c=false:=by
  have hn': ¬n<(Lm c).length:=by simpa using hc
  rw[B4 hn'] at hno;rw[hkE];exact hno
 clear hno hc hn e65 hkE hkb hkn hkl hS5 le5 lee6 hv6;refine Q3G hS7.sat (hv.up hS7) own Q5 hlen ok.sm fun vb w8 σ8 hk8 hb8=>?_;have hS8:=hS7.trans hk8;refine Ci (R:=F5) (e:=T.e) hS8 W3 fun x9 w9 hk9 ha9 _=>?_
 have hml: ∀n,n<=l.length->(Jk l i n).length<=32000:=fun n hn=>by
  unfold Jk
  have h1:=Nk (fun k=>if upB l i k then (l.getD k Cla.zero).methods else []) 32 (List.range n) fun k hk=>by
   have hk':k<l.length:=by have:=List.mem_range.1 hk;omega
   split
   .rw[Pk hk'];exact (Q0A (hmn _ (List.getElem_mem _))).2.1
   .simp
  rw[List.length_range] at h1;have h3:n*32<=1000*32:=Nat.mul_le_mul_right _ Q5;omega
 have hbl:(Qv l).length=l.length:=by simp[Qv]
 refine C4 l.length (fun n x w'=> ∃σ',Stp w σ w' σ'/\SLe σ1 σ'/\SLe σ8 σ'/\W7 w.heap.size T.e 7 F5 σ' w' x (Jk l i n)) ⟨σ8,hS8.trans hk9,le6.more ⟨hk8.le⟩,SLe.refl _,ha9⟩ fun n x w10 d hn hinv=>?_;clear ha9 hk9 hS7 hS8 le6 hS6 hk8;obtain ⟨σ10,hS10,le10,leb,ha10⟩:=hinv;have hv10:=hv.up hS10;refine Q7 hv10 ?_;refine J0 ?_;refine Q4 (fun hc=>?_) (fun hc=>?_)
 .have hn':n<l.length:=by simpa using hc
  have hmn1:=hml n hn;have hsuc:=X2x (l:=l) (i:=i) (n:=n);rw[Pk hn'] at hsuc;obtain ⟨lv2,fv2,mv2,p2,r2⟩:=hv10.elC hn';obtain ⟨_,_,g3,_,_⟩:=r2.parts;have hmn2:=(Q0A (hmn _ (List.getElem_mem hn'))).2.1;refine Yu (fun z w'=>Stp w σ w' σ10/\W7 w.heap.size T.e 7 F5 σ10 w' z (Jk l i (n+1))) ?_ (fun z d w' hz=>?_)
  .refine B1 ?_
   have happ: ∀{J:Value->World->Prop},upB l i n=true->(∀z w',Stp w σ w' σ10->W7 w.heap.size T.e 7 F5 σ10 w' z (Jk l i (n+1))->J z w')->
    V0 P .append [T.j,T.j] T.j [false,false] [x,mv2] w10 J:=fun hu hJ=>
    Jm hS10 ha10 g3 rfl Q5 Q5 fun v' w' _ hS' ha' _=>hJ v' w' hS' (by rw[hsuc,if_pos hu];exact ha')
   by_cases e:n=i
   .have e1:decide ((n:Int)=(i:Int))=true:=by simp[e]
    rw[e1]
    (try simp only[↓M1,M1,Mb,reduceIte])
    refine Z1 hv10 hn' ?_
    (try simp only[↓M1,M1,Mb,reduceIte])
    refine ld hS10.sat p2 rfl ?_;exact happ (by simp[upB,e]) fun z w' h1 h2=>⟨h1,h2⟩
   .have e1:decide ((n:Int)=(i:Int))=false:=by rw[decide_eq_false_iff_not];omega
    rw[e1];obtain ⟨cs1,pb,_,rv,rfl,rb⟩:=(hb8.lift leb).el (i:=i) (by rw[hbl];exact hi)
    have hrow:(Qv l)[i]'(by rw[hbl];exact hi)=(List.range l.length).map fun j=>Jl l (J1 l i) (J1 l j):=by simp[Qv]
    rw[hrow] at rb;obtain ⟨cs2,pb2,_,hcs2⟩:=rb.el (i:=n) (by simpa using hn')
    have hcs2:cs2=_:=hcs2;subst hcs2;simp only[List.getElem_map,List.getElem_range] at pb2
    (try simp only[↓M1,M1,Mb,reduceIte])
    refine Z1 (hb8.lift leb) (by rw[hbl];exact hi) ?_
    refine Y6 hS10.sat pb rfl ?_;refine Z1 rb (by simpa using hn') ?_
    refine Y6 hS10.sat pb2 rfl ?_
    (try simp only[↓M1,M1,Mb,reduceIte])
    cases ho:Jl l (J1 l i) (J1 l n) with
    | true=>
     (try simp only[↓M1,M1,Mb,reduceIte])
     refine Z1 hv10 hn' ?_
     (try simp only[↓M1,M1,Mb,reduceIte])
     refine ld hS10.sat p2 rfl ?_;exact happ (by simp[upB,ho]) fun z w' h1 h2=>⟨h1,h2⟩
    | false=>
     (try simp only[↓M1,M1,Mb,reduceIte])
     refine ⟨hS10,?_⟩;have:upB l i n=false:=by simp[upB,ho,e]
     rw[hsuc,this]
     simpa using ha10
  .obtain ⟨hS',ha'⟩:=hz
   (try simp only[↓M1,M1,Mb,reduceIte])
   exact V2 Q5 hn' ⟨σ10,hS',le10,leb,ha'⟩
 have hn0:n=l.length:=by
  have: ¬n<l.length:=by simpa using hc
  omega
 subst hn0;obtain ⟨σ11,hS11,hv11,lee11,_⟩:=ha10.keep hS10;have le11:=le10.more ⟨lee11⟩;have hml2:=hml _ (Nat.le_refl l.length)
 have hov:Vq l c=Hu (Jk l i l.length):=by
  unfold Vq;refine (X0L fun m=>?_).symm;rw[Q7O own hi,hname]
 have hlk:Ss l c=(!c.abs&&(Jk l i l.length).any fun m=>Vi l c.name m.name):=by
  unfold Ss
  congr 1
  refine (X4H fun m=>?_).symm;rw[Q7O own hi,hname]
 have hsn: ∀m∈Jk l i l.length,SmM m/\NmM m:=fun m hm=>by
  obtain ⟨c2,hc2,hm2⟩:=X3Z hm (Nat.le_refl _);exact ⟨(ok.sm c2 hc2).2.2.2 m hm2,(ok.nm c2 hc2).2.2 m hm2⟩
 generalize Jk l i l.length=ms at hov hlk hsn hml2 hv11;clear ha10 lee11 hS10 le10 leb hv10 hml hc hb8 hbl;refine V7 ms.length (fun n w'=> ∃σ',Stp w σ w' σ'/\SLe σ11 σ'/\ ∀a b,a<n->b<a->Yr ms a b=false) ⟨σ11,hS11,SLe.refl _,fun a b h=>by omega⟩ fun n w12 d hn hinv=>?_
 obtain ⟨σ12,hS12,le12,hno⟩:=hinv;have hv12:=hv11.lift le12;refine Q7 hv12 ?_;refine J0 ?_;refine Q4 (fun hc=>?_) (fun hc=>?_)
 .have hn':n<ms.length:=by simpa using hc
  refine V7 n (fun m w'=> ∃σ',Stp w σ w' σ'/\SLe σ11 σ'/\ ∀b,b<m->Yr ms n b=false) ⟨σ12,hS12,le12,fun b h=>by omega⟩ fun m w13 d hm hinv=>?_
  obtain ⟨σ13,hS13,le13,hno2⟩:=hinv;have hv13:=hv11.lift le13;refine J0 ?_;refine Q4 (fun hc=>?_) (fun hc=>?_)
  .have hm':m<n:=by simpa using hc
   have hm2:m<ms.length:=by omega
   obtain ⟨pv1,cv1,hv1',pn,rn⟩:=hv13.elM hn';obtain ⟨pv2,cv2,hv2',pm,rm⟩:=hv13.elM hm2;obtain ⟨sn1,sn2⟩:=hsn _ (List.getElem_mem hn');obtain ⟨sm1,sm2⟩:=hsn _ (List.getElem_mem hm2)
   have hat:Yr ms n m=(decide (ms[n].name=ms[m].name)&& !decide (Zz ms[n]=Zz ms[m])):=by
    unfold Yr;rw[Pk hn',Pk hm2]
   have hs13:=hS13.sat
   have hnx:Yr ms n m=false-> ∀b,b<m+1->Yr ms n b=false:=fun e b hb=>by
    by_cases e2:b=m
    .subst e2;exact e
    .exact hno2 b Q5
   refine U8 hs13 ?_
   (repeat refine X0 Vf ?_)
   by_cases he:ms[n].name=ms[m].name
   .have hd:decide (ms[n].name=ms[m].name)=true:=by simp[he]
    simp only[hd,reduceIte]
    (repeat (apply X0;(· intros;(repeat (rename_i hx;subst hx));(repeat' (first | (with_reducible exact Q8 rfl) | (with_reducible exact B5 (Stp.bel (by (repeat (first | exact Stp.refl (by (first | assumption | exact Stp.sat Q9 | exact Hst.sat Q9)) | assumption | refine Stp.trans ?_ (by first | assumption | exact Hst.stp Q9))))) rfl) | (with_reducible intro _) | (simp only[↓M2,M2,Mb,reduceIte]) | (with_reducible show Q6 _ _ _ _ _;first | refine Y6 aS aL aR ?_ | refine Y7 aS aL aR ?_ | refine ld aS aL aR ?_) | (with_reducible show indexAddr _ _ _ _ _ _;refine Z1 aL au ?_) | (with_reducible show V0 _ _ _ _ _ _ _ _;refine Q7 aL ?_) | (with_reducible show Xj _ _ _ _ _ _;refine W2 aR ?_) | (with_reducible show pick _ _ _ _ _ _;refine F3 ?_) | (with_reducible show Q0 _ _ _ _ _;first | refine Q9T au au au au ?_) | (apply Zn;intro hh;(try simp only[hh,reduceIte,↓M2,M2,Mb,reduceIte]))));done)))
    (intros;(repeat (rename_i hx;subst hx));(try simp only[↓M2,M2,Mb,reduceIte]))
    rename_i w14 hb14;refine Q9T hb14.sat rm sm1 sm2 fun w15 σ15 hk15=>?_;refine Jn ?_
    (try simp only[↓M1,M1,Mb,reduceIte])
    have hS15:=(hS13.trans hb14.stp).trans hk15
    by_cases hsg:Zz ms[n]=Zz ms[m]
    .simp only[hsg,decide_true,Bool.not_true,↓M1,M1,Mb,reduceIte]
     refine Z5 Q5 hm' ⟨σ15,hS15,le13.more ⟨(hb14.stp.trans hk15).le⟩,hnx ?_⟩;rw[hat,hsg];simp
    .simp only[hsg,decide_false,Bool.not_false,↓M1,M1,Mb,reduceIte]
     have:R=66:=e66 hA hB (by rw[hov];exact X45 hn' hm2 (by rw[hat];simp[he,hsg]))
     subst this;exact h _ _ hS15
   .have hd:decide (ms[n].name=ms[m].name)=false:=by simp[he]
    simp only[hd,Bool.false_eq_true,reduceIte]
    (repeat refine X0 Vf ?_)
    (intros;(repeat (rename_i hx;subst hx));(try simp only[↓M2,M2,Mb,reduceIte]))
    rename_i w14 hb14
    (try simp only[↓M1,M1,Mb,reduceIte])
    refine Z5 Q5 hm' ⟨σ13,hS13.trans hb14.stp,le13,hnx ?_⟩;rw[hat];simp[he]
  .have hm0:m=n:=by
    have: ¬m<n:=by simpa using hc
    omega
   subst hm0
   (try simp only[↓M1,M1,Mb,reduceIte])
   refine Z5 hv11.max hn' ⟨σ13,hS13,le13,fun a b ha hb=>?_⟩
   by_cases e:a=m
   .subst e;exact hno2 b hb
   .exact hno a b Q5 hb
 have hC:Vq l c=false:=by
  rw[hov];have: ¬n<ms.length:=by simpa using hc
  exact X5p fun x y hx hy=>hno x y Q5 hy
 clear hno hc hn hv12 hov e66;refine V7 ms.length (fun n w'=> ∃σ',Stp w σ w' σ'/\SLe σ11 σ'/\(c.abs=true->n=0)/\(ms.take n).any (fun m=>Vi l c.name m.name)=false) ⟨σ12,hS12,le12,fun _=>rfl,rfl⟩ fun n w13 d hn hinv=>?_;clear hS12 le12;obtain ⟨σ13,hS13,le13,hab,hno⟩:=hinv;have hv13:=hv11.lift le13;have hq13:=hq1.lift (le11.more le13);refine Q7 hv13 ?_;refine J0 ?_
 by_cases hn':n<ms.length
 .have e1:decide ((n:Int)<(ms.length:Int))=true:=by simpa using hn'
  rw[e1]
  (try simp only[↓M1,M1,Mb,reduceIte])
  refine ld hS13.sat hq13 rfl ?_;refine Zv ?_
  (try simp only[↓M1,M1,Mb,reduceIte])
  cases hca:c.abs with
  | true=>
   (try simp only[↓M1,M1,Mb,reduceIte])
   have:R=0:=e0 hA hB hC (by rw[hlk,hca];rfl)
   subst this;exact h _ _ hS13
  | false=>
   (try simp only[↓M1,M1,Mb,reduceIte])
   obtain ⟨pvn,cvn,hvn,pn,rn⟩:=hv13.elM hn';have hs13:=hS13.sat;have hnx:=E7 (p:=fun m:Hm.Met=>Vi l c.name m.name) hn'
   have hla:Vi l c.name ms[n].name=(!(N2 l c.name ms[n].name).isSome||(o2 (N2 l c.name ms[n].name)).abs):=by
    unfold Vi;cases N2 l c.name ms[n].name<;>rfl
   generalize hF:(fun o:Option Obj=> ∃cs:List Value,∃e,o=some (.cells cs.toArray e (0,0))/\cs.length=7/\cs[3]? =some (.bool (o2 (N2 l c.name ms[n].name)).abs))=F;have hFn: ¬F none:=by rw[<-hF];rintro ⟨_,_,h,_⟩;cases h
   refine X7Y F hs13 ?_
   (repeat (apply X0;(· intros;(repeat (rename_i hx;subst hx));(repeat' (first | (with_reducible exact Q8W rfl) | (with_reducible exact X6B (Stp.bel (by (repeat (first | exact Stp.refl (by (first | assumption | exact Stp.sat Q9 | exact Hst.sat Q9)) | assumption | refine Stp.trans ?_ (by first | assumption | exact Hst.stp Q9))))) rfl) | (with_reducible intro _) | (simp only[↓M2,M2,Mb,reduceIte]) | (with_reducible show Q6 _ _ _ _ _;first | refine Y6 aS aL aR ?_ | refine Y7 aS aL aR ?_ | refine ld aS aL aR ?_) | (with_reducible show indexAddr _ _ _ _ _ _;refine Z1 aL au ?_) | (with_reducible show V0 _ _ _ _ _ _ _ _;refine Q7 aL ?_) | (with_reducible show Xj _ _ _ _ _ _;refine W2 aR ?_) | (with_reducible show pick _ _ _ _ _ _;refine F3 ?_)));done)))
   refine R3 (fun v _=> ∃s,∃ds:List Value,v= .tuple #[s, .agg ds.toArray, .bool (N2 l c.name ms[n].name).isSome]/\ds.length=7/\ds[3]? =some (.bool (o2 (N2 l c.name ms[n].name)).abs)/\ ∀u∈ds,u.oneCell'=true) (fun _ _ _ h _=>h) (fun t180 t185 w hb e1 e2=>?_) ?_
   .subst e1;subst e2
    refine X2O hb.sat (hv.up (hS13.trans hb.stp)) ok fun pv cv hv w' σ' hk hr=>⟨.of_below hk.bel,_,_,rfl,rfl,rfl,Rep.one hr⟩
   refine R3 (fun _ _=>True) (fun _ _ _ _ _=>trivial) (fun t186 w hb e=>?_) ?_
   .obtain ⟨s,ds,rfl,_⟩:=e
    exact J8 (vs:=[_,_,_]) rfl ⟨.of_below (Below.refl _ _),trivial⟩
   refine R3 (fun v _=> ∃ds:List Value,v= .agg ds.toArray/\ds.length=7/\ds[3]? =some (.bool (o2 (N2 l c.name ms[n].name)).abs)/\ ∀u∈ds,u.oneCell'=true) (fun _ _ _ h _=>h) (fun t186 w hb e=>?_) ?_
   .obtain ⟨s,ds,rfl,h7⟩:=e
    exact J8 (vs:=[_,_,_]) rfl ⟨.of_below (Below.refl _ _),ds,rfl,h7⟩
   refine X0 (V:= .bool (N2 l c.name ms[n].name).isSome) (fun t186 w hb e=>?_) ?_
   .obtain ⟨s,ds,rfl,h7⟩:=e
    exact J8 (vs:=[_,_,_]) rfl (Q8W rfl)
   refine R3 (X7C w13.heap.size 7 F) (X2W hFn) (fun w hb=>?_) ?_
   .exact Q0g hb.sat fun b w' hb2 hk hm=>⟨.of_below hk.bel,b,rfl,Nat.le_trans hb.stp.bel.size hb2, .inl ⟨_,hm.2.choose,rfl,hm.2.choose_spec⟩⟩
   refine Q6Q (fun xs _ w=>X7B w13.heap.size F (xs.headD undef) w) (fun xs _ w w' h hT=>X2V hFn _ w w' h hT) (fun t18 t188 w hb e1 e2=>?_) ?_
   .obtain ⟨g,rfl,hg,hd⟩:=e1
    obtain ⟨ds,rfl,h7,h3,h1⟩:=e2
    obtain ⟨cs,e,hl7,hh⟩: ∃cs:List Value,∃e,cs.length=7/\w.heap[g]? =some (.cells cs.toArray e (0,0)):=by
     rcases hd with h | h
     .exact h
     .rw[<-hF] at h
      obtain ⟨cs,e,h4,h5,_⟩:=h;exact ⟨cs,e,h5,h4⟩
    refine Vk (σ:=fun _=>none) (cs:=cs) (ds:=ds) ⟨rfl,e,hh⟩ hl7 h7 (by rw[List.all_toArray];exact List.all_eq_true.2 h1) fun w' hu hm=>?_
    have hFg:F (w'.heap[g]?):=by
     obtain ⟨_,e',hm'⟩:=hm;rw[hm',<-hF];exact ⟨ds,e',rfl,h7,h3⟩
    exact ⟨FinT.of_upd hu hg hFg,g,rfl,hg,hFg⟩
   rintro t179 t183 t184 t180 t185 t186 t187 t188 t189 t18 u15 w14 hb14 rfl rfl rfl rfl rfl _ _ _ rfl _ ⟨g,e,hg,hd⟩;have e:t18=_:=e;subst e;rw[<-hF] at hd;obtain ⟨cs,ty,hh,hl7,h3⟩:=hd;have hS14:=hS13.trans hb14.stp;refine Zv ?_;cases hsm:(N2 l c.name ms[n].name).isSome with
   | false=>
    (try simp only[↓M1,M1,Mb,reduceIte])
    have:R=67:=e67 hA hB hC (by rw[hlk,hca];exact K2 hn' (by rw[hla,hsm];rfl))
    subst this;exact h _ _ hS14
   | true=>
    (try simp only[↓M1,M1,Mb,reduceIte])
    refine I1 (σ:=fun _=>none) ⟨rfl,ty,hh⟩ h3 ?_
    (try simp only[↓M1,M1,Mb,reduceIte])
    cases hma:(o2 (N2 l c.name ms[n].name)).abs with
    | true=>
     (try simp only[↓M1,M1,Mb,reduceIte])
     have:R=67:=e67 hA hB hC (by rw[hlk,hca];exact K2 hn' (by rw[hla,hma,Bool.or_true]))
     subst this;exact h _ _ hS14
    | false=>
     (try simp only[↓M1,M1,Mb,reduceIte])
     refine Z5 hv11.max hn' ⟨σ13,hS14,le13,fun e=>False.elim (by simpa using e),?_⟩
     rw[hnx,hno,hla,hsm,hma];rfl
 .have e1:decide ((n:Int)<(ms.length:Int))=false:=by simpa using hn'
  rw[e1]
  (try simp only[↓M1,M1,Mb,reduceIte])
  rw[B4 hn'] at hno;have:R=0:=e0 hA hB hC (by rw[hlk,hno,Bool.and_false])
  subst this;exact h _ _ hS13)
def Q5L:List Cla:=[⟨M3,[],[],false,false,false,[],[]⟩,⟨C8,M3,[],false,false,false,[⟨Wj,B8,false⟩],[]⟩]
def gMk (n:X2):Cla:=⟨n,C8,[],false,false,true,[],[]⟩
theorem X0A:Xg=Q5L++M0.map gMk:=rfl
theorem X4i (O:X7 w σ) (h: ∀D w' g,Stp w σ w' g->W7 w.heap.size T.c 8 M8 g w' D Xg->K D w'):Q0 P F.bA [] w K:=Q1m (by
 unfold Hc V1 Y0 X4 X5;refine N3 (cells:= #[S M3,S [], .slice none 0 0, .bool false, .bool false, .bool false, .slice none 0 0, .slice none 0 0]) X8 ?_;refine N3 (cells:= #[S Wj,S B8, .bool false]) X8 ?_;refine P4 (R:=I7) (sz:=3) O [.agg #[S Wj,S B8, .bool false]] [⟨Wj,B8,false⟩] rfl rfl (by simp;rfl) rfl ⟨⟨rfl,by decide,by decide⟩,trivial⟩ fun X w1 σ1 j o=>?_
 have p:=o;obtain ⟨E,b,rfl,_⟩:=p;refine N3 (cells:= #[S C8,S M3, .slice none 0 0, .bool false, .bool false, .bool false, .slice E 1 b, .slice none 0 0]) X8 ?_
 refine Zh (R:=M8) (sz:=8) j [.agg #[S M3,S [], .slice none 0 0, .bool false, .bool false, .bool false, .slice none 0 0, .slice none 0 0], .agg #[S C8,S M3, .slice none 0 0, .bool false, .bool false, .bool false, .slice E 1 b, .slice none 0 0]]
  Q5L rfl rfl (by simp;exact ⟨rfl,rfl⟩) rfl ⟨⟨_,_,_,rfl,Sl.nil,Sl.nil,Sl.nil,by decide,by decide⟩,⟨_,_,_,rfl,Sl.nil,o,Sl.nil,by decide,by decide⟩,trivial⟩ fun Y w2 k z _=>?_
 refine P4 (R:=M7) (sz:=1) k.sat (M0.map S) M0 rfl rfl W3 rfl ⟨⟨rfl,by decide⟩,⟨rfl,by decide⟩,⟨rfl,by decide⟩,⟨rfl,by decide⟩,⟨rfl,by decide⟩,⟨rfl,by decide⟩,trivial⟩ fun Z w3 J l q=>?_
 have u:=(j.trans k).trans l;have M:M0.length=6:=rfl;refine C4 M0.length (fun n x w'=> ∃g,Stp w σ w' g/\SLe J g/\W7 w.heap.size T.c 8 M8 g w' x (Q5L++(M0.take n).map gMk)) ⟨J,u,SLe.refl _,z.up l⟩ fun n x w4 d W i=>?_;obtain ⟨U,c,f,e⟩:=i;refine Q7 (q.lift f) ?_;refine J0 ?_;refine Q4 (fun B=>?_) (fun B=>?_)
 .have a:n<M0.length:=by simpa using B
  have r:=q.lift f;refine Z1 r a ?_;obtain ⟨Q,H⟩:=r.elS a;refine Y6 c.sat Q rfl ?_
  have L:(Q5L++(M0.take n).map gMk).length<=8:=by
   rw[List.length_append,List.length_map,List.length_take,show Q5L.length=2 from rfl];omega
  have m:(M0.take (n+1)).map gMk=(M0.take n).map gMk++[gMk M0[n]]:=by
   rw[List.take_add_one,List.getElem?_eq_getElem a,List.map_append];rfl
  generalize M0[n]=t at H m;refine N3 (cells:= #[S t,S C8, .slice none 0 0, .bool false, .bool false, .bool true, .slice none 0 0, .slice none 0 0]) X8 ?_;have N:M8 U (gMk t) [S t,S C8, .slice none 0 0, .bool false, .bool false, .bool true, .slice none 0 0, .slice none 0 0]:=⟨_,_,_,rfl,Sl.nil,Sl.nil,Sl.nil,H,(by decide:C8.length<=W6)⟩
  refine Lz (x:=gMk t) c e N rfl rfl rfl Q5 Q5 fun s D w5 V C y A _=>?_;refine R5 ?_;refine V2 Q5 a ⟨V,y,f.more C.le,?_⟩;rw[m,<-List.append_assoc];exact A
 .have a: ¬n<M0.length:=by simpa using B
  rw[List.take_of_length_le Q5,<-X0A] at e;exact h _ _ _ c e)
theorem X7i {w0:World} {σ0:Q2} {frm:Nat} (Z:Vw l) (ho:Yg l) (hl:l.length<=1000) (av: ∀c∈l,Zf c) (hf:0<frm) (ax: ∀i (B:i<l.length),frm<=i-> ∀u∈M6 l[i],∃j,U1 l u=some j): ∀(k:Nat) {i:Nat} {out:List Nat} {x:Value} {w:World} {σ:Q2} {K:Value->World->Prop},i<l.length->Xx l (J1 l i)<k->Few l out->Stp w0 σ0 w σ->Sl 8 M8 σ v l->W7 w0.heap.size T.f 1 H6 σ w x (ints out)->
 (∀x' w' Q,Stp w0 σ0 w' Q->SLe σ Q->W7 w0.heap.size T.f 1 H6 Q w' x' (ints (Ua l frm out i))->K x' w')->Q0 P F.b4 [v,x,I frm,I i] w K:=by
 intro k
 induction k with
 | zero=>intro i out x w σ K B hk;omega
 | succ k ih=>
  intro i out x w σ K B hk A hS hv hx h;refine Q3x ?_;unfold Ba;simp only[Y3,X3];unfold V1 V3 Y0 X4 X5;rw[X1B Z ho hf out B] at h;refine J0 ?_;refine Q4 (fun H=>?_) (fun H=>?_)
  .have H:i<frm:=by have:=of_decide_eq_true H;omega
   rw[if_pos H] at h;exact h _ _ _ hS (SLe.refl _) hx
  have H: ¬i<frm:=by have:=of_decide_eq_false H;omega
  rw[if_neg H] at h;have bd:=A.len;refine V7 out.length (fun n w'=>w'=w/\ ∀m (hm:m<out.length),m<n->out[m]≠i) ⟨rfl,fun m _ h=>by omega⟩ fun n w2 d hn g=>?_
  obtain ⟨hw,L⟩:=g;subst hw;refine X1W hx ?_;rw[show (ints out).length=out.length from by simp]
  refine J0 ?_;refine Q4 (fun z=>?_) (fun z=>?_)
  .have b:n<out.length:=by simpa using z
   refine Q9B (V6.of_acc hx) (n:=n) (by simpa using b) fun a cs am ba hr=>?_
   obtain ⟨rfl,_⟩:=hr;refine Zb (by have:=am 0 _ rfl;rwa [add_zero] at this) ?_
   simp only[List.getElem_map];refine B1 ?_
   by_cases e:out[n]=i
   .have:decide ((out[n]:Int)=i)=true:=by simp[e]
    rw[this];refine Z3 ?_;rw[if_pos (e▸List.getElem_mem b)] at h;exact h _ _ _ hS (SLe.refl _) hx
   .have:decide ((out[n]:Int)=i)=false:=by rw[decide_eq_false_iff_not];omega
    rw[this];refine Z7 ?_;refine R5 ?_;refine Z5 Q5 b ⟨rfl,fun m hm bc=>?_⟩
    by_cases e2:m=n
    .subst e2;exact e
    .exact L m hm Q5
  .have b: ¬n<out.length:=by simpa using z
   have C:i∉out:=fun an=>by
    obtain ⟨m,hm,e⟩:=List.getElem_of_mem an;exact L m hm Q5 e
   rw[if_neg C] at h;have V:l.getD i Cla.zero=l[i]:=by rw[List.getD_eq_getElem?_getD,List.getElem?_eq_getElem B];rfl
   rw[V] at h;have aw:=ax i B Q5;obtain ⟨lv,fv,mv,p1,r1⟩:=hv.elC B;obtain ⟨g1,_,_,_,g5⟩:=r1.parts;have D:=av _ (List.getElem_mem B);clear L C z hn;refine U8 hS.sat ?_
   (repeat refine X0 Vf ?_)
   refine Q3Z (w:=w2) (σ:=σ) (R:=M7) (sz:=1) (e:=T.b) [l[i].super] (fun t w hb e=>?_) ?_
   .subst e;exact Zh hb.stp [_] [l[i].super] rfl rfl (by simp;rfl) rfl ⟨⟨rfl,g5⟩,trivial⟩ fun v' w' hk Z _=>Q5D hb hk Z
   (repeat refine X0 Vf ?_)
   rintro bl bm bp bq bn bo br w4 al rfl rfl rfl rfl rfl ⟨W,U⟩ rfl;refine Jm W U g1 rfl (by simp;have:=D.1;omega) (by simp;have:=D.1;omega) fun v5 w5 ap Y aa ab=>?_
   obtain ⟨σ6,p,N,bi,_⟩:=aa.keep Y;have N:Sl 1 M7 σ6 v5 (M6 l[i]):=N;have ay:=hx.up p;have ad:=hv.up p;have X:=hS.trans p;have ag:SLe σ σ6:=⟨p.le⟩;clear ap ab aa U W al Y;refine C4 (M6 l[i]).length (fun n x w'=> ∃Q o,Stp w0 σ0 w' Q/\SLe σ6 Q/\W7 w0.heap.size T.f 1 H6 Q w' x (ints o)/\Few l o/\o=((M6 l[i]).take n).foldl (fun out n=>Ua l frm out ((U1 l n).getD 0)) out) ⟨σ6,out,X,SLe.refl _,ay,A,rfl⟩ fun n x7 w7 d hn g=>?_;obtain ⟨σ7,a4,q,y,af,f,M⟩:=g;have r:=N.lift y;refine Q7 r ?_;refine J0 ?_;refine Q4 (fun z=>?_) (fun z=>?_)
   .have b:n<(M6 l[i]).length:=by simpa using z
    refine Z1 r b ?_;obtain ⟨p7,_⟩:=r.elS b;refine Y6 q.sat p7 rfl ?_;have E:=ad.lift y;refine Xa q.sat E ?_;obtain ⟨j,hj⟩:=aw _ (List.getElem_mem b);have bf:=Q4g Z ho B (by rw[V];exact List.getElem_mem b) hj
    have ac:=(I8 hj).1;simp only[hj,H2];refine ih ac Q5 f q E af fun x8 w8 σ8 J az O=>?_;refine R5 ?_;refine V2 r.max b ⟨σ8,_,J,y.more az,O,Q0Z Z ho hf _ _ _ ac f,?_⟩;rw[List.take_add_one,List.getElem?_eq_getElem b,List.foldl_append,<-M]
    simp[hj]
   .have b: ¬n<(M6 l[i]).length:=by simpa using z
    rw[List.take_of_length_le Q5] at M;have bb:=f.len;refine Lz (R:=H6) (x:=(i:Int)) q af ⟨rfl,by omega,by omega⟩ rfl rfl rfl (by simp;omega) (by simp;omega) fun s x8 w8 σ8 aq J O _=>?_
    refine h _ _ _ J ((ag.more y).more aq.le) ?_;rw[<-M]
    simpa [ints] using O
end Go.Proofs.Y
