/- Parts of a proof about the given program: its functions as texts of their own, what each computes, plain laws of that. The conditions of each stand in its statement. -/
import Derived.Test.YtjdiakhipmggjaaGreatDoorB5
import Derived.Test.YtjdiakhipmggjaaGreatDoorB3
import Derived.Test.YtjdiakhipmggjaaGreatDoorB4
import Derived.Test.YtjdiakhipmggjaaGreatDoorRows
import Derived.WalkKit
import Derived.ProofKit
import Derived.OpenShut
import Derived.ShutString
import Derived.ChangeOld
import Derived.Below
import Derived.SizedLaws
import Derived.Lay
import Derived.Carry
import Derived.MakeChecks
import Derived.PinnedBridge
set_option linter.unnecessarySimpa false
set_option linter.defProp false
set_option linter.unusedSectionVars false
set_option linter.unusedVariables false
set_option linter.unusedSimpArgs false
namespace Go.Hm
open Go.Kd
def Q6I:Ins:=⟨[105,110,116],1,[]⟩
def Pe:Ins:=⟨[114,101,116,117,114,110],0,[]⟩
def kA:X0:=[65]
def fX:Fld:=⟨[120],G4,false⟩
def Ae:Fld:=⟨[110,101,120,116],kA,false⟩
def fL:Fld:=⟨[108],[65,91,93],false⟩
def mF:Hm.Met:=⟨[102],[G4,kA],G4,false,3,[Q6I,Pe],[]⟩
def mG:Hm.Met:=⟨[103],[],[],false,1,[Pe],[]⟩
def cA:Cla:=⟨kA,Z9,[],false,false,false,[fX,Ae],[mF,mG]⟩
def cB:Cla:=⟨[66],kA,[[73]],false,false,false,[fL],[]⟩
def cI:Cla:=⟨[73],Z9,[],true,true,false,[],[]⟩
def cD:Cla:=⟨[68],Z9,[],false,true,false,[],[]⟩
def Vo:List Cla:=[cA,cB,cI,cD]
end Go.Hm
namespace Go.Proofs.YtjdiakhipmggjaaGreatDoor
open Go.Emb Go.RowKit Go.Kd Go.Hm
variable {w w' : World} {K : Value → World → Prop} {σ σ' : Q4} {ds : List Value} {room : Int} {cs : List Cel} {l : List Cla} {hp tv : Value}
set_option maxRecDepth 100000 in
theorem Ga:Ej L3 Vo=none:=by decide+kernel
set_option maxHeartbeats 1000000 in
theorem Pw (Y:X4 w σ) (h: ∀v w' σ',Stp w σ w' σ'→Sl 8 U4 σ' v Vo→K v w'):Q1 P F.aa [] w K:=Rj (by
 unfold Jw
 refine V1 (cells:= #[S Q6I.op,I 1,S []]) (by kernel_rfl) ?_
 refine V1 (cells:= #[S Pe.op,I 0,S []]) (by kernel_rfl) ?_
 refine T4 (R:=G8) (sz:=3) Y [.agg #[S Q6I.op,I 1,S []], .agg #[S Pe.op,I 0,S []]] [Q6I,Pe] rfl rfl (by simp;exact ⟨rfl,rfl⟩) rfl ⟨⟨rfl,by decide,by decide,by decide⟩,⟨rfl,by decide,by decide,by decide⟩,trivial⟩ fun v1 w1 σ1 s c=>?_
 refine V1 (cells:= #[S fX.name,S fX.kind, .bool false]) (by kernel_rfl) ?_
 refine V1 (cells:= #[S Ae.name,S Ae.kind, .bool false]) (by kernel_rfl) ?_
 refine T4 (R:=O4) (sz:=3) s.sat [.agg #[S fX.name,S fX.kind, .bool false], .agg #[S Ae.name,S Ae.kind, .bool false]] [fX,Ae] rfl rfl (by simp;exact ⟨rfl,rfl⟩) rfl ⟨⟨rfl,by decide,by decide⟩,⟨rfl,by decide,by decide⟩,trivial⟩ fun v2 w2 σ2 i d=>?_
 refine T4 (R:=J6) (sz:=1) i.sat [S G4,S kA] [G4,kA] rfl rfl (by simp;exact ⟨rfl,rfl⟩) rfl ⟨⟨rfl,by decide⟩,⟨rfl,by decide⟩,trivial⟩ fun v3 w3 σ3 f o=>?_
 have q:=c;have t:=d;have k:=o
 obtain ⟨E,J,rfl,_⟩:=q
 obtain ⟨L,O,rfl,_⟩:=t
 obtain ⟨C,X,rfl,_⟩:=k
 have c:=(c.up i).up f
 have d:=d.up f
 refine V1 (cells:= #[S mF.name, .slice C 2 X,S G4, .bool false,I 3, .slice E 2 J, .slice none 0 0]) (by kernel_rfl) ?_
 refine V1 (cells:= #[S Pe.op,I 0,S []]) (by kernel_rfl) ?_
 refine T4 (R:=G8) (sz:=3) f.sat [.agg #[S Pe.op,I 0,S []]] [Pe] rfl rfl (by simp;rfl) rfl ⟨⟨rfl,by decide,by decide,by decide⟩,trivial⟩ fun v4 w4 σ4 a n=>?_
 have j:=n
 obtain ⟨D,Q,rfl,_⟩:=j
 refine V1 (cells:= #[S mG.name, .slice none 0 0,S [], .bool false,I 1, .slice D 1 Q, .slice none 0 0]) (by kernel_rfl) ?_
 refine T4 (R:=L9) (sz:=7) a.sat [.agg #[S mF.name, .slice C 2 X,S G4, .bool false,I 3, .slice E 2 J, .slice none 0 0], .agg #[S mG.name, .slice none 0 0,S [], .bool false,I 1, .slice D 1 Q, .slice none 0 0]] [mF,mG] rfl rfl (by simp;exact ⟨rfl,rfl⟩) rfl
  ⟨⟨_,_,_,rfl,o.up a,c.up a,Sl.nil,by decide,by decide,by decide⟩,⟨_,_,_,rfl,Sl.nil,n,Sl.nil,by decide,by decide,by decide⟩,trivial⟩ fun v5 w5 σ5 g r=>?_
 have u:=r
 obtain ⟨V,H,rfl,_⟩:=u
 refine V1 (cells:= #[S kA,S Z9, .slice none 0 0, .bool false, .bool false, .bool false, .slice L 2 O, .slice V 2 H]) (by kernel_rfl) ?_
 refine T4 (R:=J6) (sz:=1) g.sat [S [73]] [[73]] rfl rfl (by simp;rfl) rfl ⟨⟨rfl,by decide⟩,trivial⟩ fun v6 w6 σ6 e p=>?_
 have y:=p
 obtain ⟨U,M,rfl,_⟩:=y
 refine V1 (cells:= #[S fL.name,S fL.kind, .bool false]) (by kernel_rfl) ?_
 refine T4 (R:=O4) (sz:=3) e.sat [.agg #[S fL.name,S fL.kind, .bool false]] [fL] rfl rfl (by simp;rfl) rfl ⟨⟨rfl,by decide,by decide⟩,trivial⟩ fun v7 w7 σ7 b m=>?_
 have z:=m
 obtain ⟨W,N,rfl,_⟩:=z
 refine V1 (cells:= #[S cB.name,S kA, .slice U 1 M, .bool false, .bool false, .bool false, .slice W 1 N, .slice none 0 0]) (by kernel_rfl) ?_
 refine V1 (cells:= #[S cI.name,S Z9, .slice none 0 0, .bool true, .bool true, .bool false, .slice none 0 0, .slice none 0 0]) (by kernel_rfl) ?_
 refine V1 (cells:= #[S cD.name,S Z9, .slice none 0 0, .bool false, .bool true, .bool false, .slice none 0 0, .slice none 0 0]) (by kernel_rfl) ?_
 refine T4 (R:=U4) (sz:=8) b.sat [.agg #[S kA,S Z9, .slice none 0 0, .bool false, .bool false, .bool false, .slice L 2 O, .slice V 2 H], .agg #[S cB.name,S kA, .slice U 1 M, .bool false, .bool false, .bool false, .slice W 1 N, .slice none 0 0], .agg #[S cI.name,S Z9, .slice none 0 0, .bool true, .bool true, .bool false, .slice none 0 0, .slice none 0 0], .agg #[S cD.name,S Z9, .slice none 0 0, .bool false, .bool true, .bool false, .slice none 0 0, .slice none 0 0]] Vo rfl rfl (by simp;exact ⟨rfl,rfl,rfl,rfl⟩) rfl
  ⟨⟨_,_,_,rfl,Sl.nil,(((d.up a).up g).up e).up b,(r.up e).up b,by decide,by decide⟩,⟨_,_,_,rfl,p.up b,m,Sl.nil,by decide,by decide⟩,⟨_,_,_,rfl,Sl.nil,Sl.nil,Sl.nil,by decide,by decide⟩,⟨_,_,_,rfl,Sl.nil,Sl.nil,Sl.nil,by decide,by decide⟩,trivial⟩ fun v8 w8 Z A B=>?_
 exact h _ _ _ ((((((((s.trans i).trans f).trans a).trans g).trans e).trans b)).trans A) B)
end Go.Proofs.YtjdiakhipmggjaaGreatDoor

namespace Go.Emb
open Go.RowKit
end Go.Emb
namespace Go.Proofs.YtjdiakhipmggjaaGreatDoor
open Go.Emb Go.RowKit Go.Kd Go.Hm
variable {w : World} {K : Value → World → Prop} {σ : Q4} {l : List Cla}
end Go.Proofs.YtjdiakhipmggjaaGreatDoor

namespace Go.Emb
open Go.RowKit Go.Hm
variable {H : Type} {enc : TypeId × Value → H} {P : Program} {W : World} {t : TypeId} {cs : List Value} {fuel : Nat} {x : DataW H × List MemPlace}
def X1E (_:Q4) (x:ActH) (cs:List Value):Prop:=cs=[I x.kind,S x.s,I x.n,I x.ref,I x.v.sort,I x.v.n,S x.v.s,I x.v.ref]∧(Jh x.kind∧x.s.length≤J8∧Jh x.n∧Jh x.ref)∧Jh x.v.sort∧Jh x.v.n∧x.v.s.length≤J8∧Jh x.v.ref
instance:Rep X1E:=⟨fun _ h=>h,fun h u hu=>by rw[h.1] at hu;simp at hu;rcases hu with rfl | rfl | rfl | rfl | rfl | rfl | rfl | rfl<;>rfl⟩
end Go.Emb
namespace Go.Proofs.YtjdiakhipmggjaaGreatDoor
open Go.Emb Go.RowKit Go.Kd Go.Hm
variable {H : Type} {enc : TypeId × Value → H} {W : World} {cs : List Value} {fuel : Nat} {x : DataW H × List MemPlace}
section
variable {v : Value} {d : DataW H} {p : List MemPlace}
end
end Go.Proofs.YtjdiakhipmggjaaGreatDoor

namespace Go.Proofs.YtjdiakhipmggjaaGreatDoor
open Go.Emb Go.RowKit Go.Kd Go.Hm
variable {w w' : World} {K : Value → World → Prop} {σ σ' : Q4} {ds : List Value} {room : Int} {cs : List Cel} {l : List Cla} {hp tv : Value}
theorem HeapIs.mono {B B':Nat} {D:Nat→Prop} (h:HeapIs B D σ w hp tv room cs) (hB:B'≤B):HeapIs B' D σ w hp tv room cs:=by
 obtain ⟨b,k,E,d,g,e,⟨vs,f,c,m,hD⟩,hE,a⟩:=h.ex
 exact ⟨b,k,E,d,Nat.le_trans hB g,e,⟨vs,f.mono hB,⟨c.1,fun i j n=>(c.2 i j n).mono hB⟩,m,hD⟩,hE,a⟩
theorem Q7P {a:Addr} {n:Int} (j:X4 w σ)
 (g:(n<0∨1048576<n)→K (.tuple #[.pointer none,I 90]) w)
 (h:0≤n→n≤1048576→ ∀b w' σ' D,Stp w σ w' σ'→HeapIs w.heap.size D σ' w' (.pointer (some ⟨b,0,none⟩)) (.pointer (some a)) n []→K (.tuple #[.pointer (some ⟨b,0,none⟩),I 0]) w'):Q1 P F.ci [.pointer (some a),I n] w K:=Q6d (by
 unfold Q1s
 refine Z1 ?_
 by_cases e:n<0
 ·rw[decide_eq_true e]
  (try simp only[Qf,F9,Jk,O9,C8,B7,K6,K4,Ui,Bool.not_true,Bool.not_false])
  exact g (.inl e)
 rw[decide_eq_false e]
 (try simp only[Qf,F9,Jk,O9,C8,B7,K6,K4,Ui,Bool.not_true,Bool.not_false])
 refine Q68 ?_
 by_cases d:(1048576:Int)<n
 ·rw[decide_eq_true d]
  exact L7 (g (.inr d))
 rw[decide_eq_false d]
 refine M0 ?_
 refine V1 (cells:= #[.pointer (some a),I n,I 0, .slice none 0 0]) (by kernel_rfl) ?_
 refine Q1x (cs:=[.pointer (some a),I n,I 0, .slice none 0 0]) j fun b w1 σ1 i c f=>?_
 exact h (by omega) (by omega) b w1 σ1 _ c ⟨b,_,_,rfl,i,f,RowsIs.nil,id,fun k=>Iff.rfl⟩)
theorem Q8w:P.underlying T.aq=some (.int .u16):=by kernel_rfl
theorem Q5q: ∀c∈Vo,K5 c:=X0H (by decide)
theorem Q5R:Wf Vo:=X1k Ga
set_option maxHeartbeats 1000000 in
theorem X00 {r:Int} (hs:X4 w σ) (hg:Glb σ) (hr:0≤r)
 (h: ∀b a D ds w' σ',Stp w σ w' σ'→HeapIs w.heap.size D σ' w' (.pointer (some ⟨b,0,none⟩)) (.pointer (some a)) (r % 301) []→RHp σ' (Q7 Vo,r % 301,[]) ds→Tab σ' (.pointer (some a)) (Q7 Vo)→Ok (Q7 Vo)→K (.tuple #[.pointer (some ⟨b,0,none⟩), .agg ds.toArray]) w'):Q1 P F.b5 [.int .u16 r] w K:=Fl (by
 have hr0:=Int.emod_nonneg r (show (301:Int)≠0 by decide)
 have hr1:=Int.emod_lt_of_pos r (show (0:Int)<301 by decide)
 unfold Lk
 refine C5 hs fun b3 w1 σ1 hb3 hk1 hm1=>?_
 refine Pw hk1.sat fun v w2 σ2 hk2 hv2=>?_
 refine Q9m hk2.sat (hg.lift ⟨(hk1.trans hk2).le⟩) hv2 (by decide) Q5q (fun i e _ _ hn=>by rw[Ga] at hn;cases hn) fun tv w3 σ3 _ hk3 ht ok _=>?_
 obtain ⟨a,_,_,_,rfl,_⟩:=ht.ex
 have hS3:=(hk1.trans hk2).trans hk3
 refine Z7 (vs:=[_,_,_]) rfl ?_
 refine Z7 (vs:=[_,_,_]) rfl ?_
 refine Z7 (vs:=[_,_,_]) rfl ?_
 refine Pw hk3.sat fun v4 w4 σ4 hk4 hv4=>?_
 refine Q9B hk4.sat hv4 (by decide) (fun i e _ _ hn=>by rw[Ga] at hn;cases hn) fun lv w5 σ5 _ hk5 hlv ok5 _=>?_
 have hk35:=hk4.trans hk5
 have hS5:=hS3.trans hk35
 refine Z7 (vs:=[_,_,_]) rfl ?_
 refine Z7 (vs:=[_,_,_]) rfl ?_
 refine Z7 (vs:=[_,_,_]) rfl ?_
 refine Q3T ⟨by decide,hr⟩ ?_
 rw[Bg Q8w Q9f]
 have ew:IntKind.i64.wrap (r % 301)=r % 301:=S8 (n:=r % 301) (by omega) (by omega)
 rw[ew]
 simp only[decide_true,Bool.not_true,Bool.false_eq_true,reduceIte,↓M1,M1,Mb,reduceIte]
 refine Q74 ?_
 simp only[decide_true,Bool.not_true,Bool.false_eq_true,reduceIte,↓M1,M1,Mb,reduceIte]
 refine Q7P (n:=r % 301) hk5.sat (fun hx=>absurd hx (by omega)) fun _ _ b6 w6 σ6 D hk6 h6=>?_
 refine Z7 (vs:=[_,_]) rfl ?_
 refine Z7 (vs:=[_,_]) rfl ?_
 simp only[decide_true,Bool.not_true,↓M1,M1,Mb,reduceIte]
 refine V1 (cells:= #[lv,I (r % 301), .slice none 0 0]) (by obtain ⟨a5,c5,hle,_⟩:=id hlv;generalize (Q7 Vo).length=n5 at hle;subst hle;kernel_rfl) ?_
 have hm6:=hm1.up ((hk2.trans hk3).trans (hk35.trans hk6))
 have hrh:RHp σ6 (Q7 Vo,r % 301,[]) [lv,I (r % 301), .slice none 0 0]:=⟨_,_,rfl,hlv.up hk6,Sl.nil⟩
 refine sta (ds:=[lv,I (r % 301), .slice none 0 0]) hm6 rfl rfl (by rw[List.all_toArray];exact List.all_eq_true.2 (Rep.one hrh)) fun w7 u7 hm7=>?_
 refine V9 hm7 rfl ?_
 have hS6:=hS5.trans hk6
 have hB3:=C2 hb3 (Stp.refl hs)
 have hS7:=u7.stp hS6 hB3 hm6.1
 have hb35:b3<w5.heap.size:=by
  have:=(hm1.up ((hk2.trans hk3).trans hk35)).lt
  exact this
 exact h b6 a D _ w7 σ6 hS7 ((h6.nx (Nxt.of_upd hk6.sat u7 hm6.1) fun k hk e=>by have:=(h6.mem hk).1;omega).mono hS5.bel.size) hrh (ht.lift ⟨(hk35.trans hk6).le⟩) ok)
end Go.Proofs.YtjdiakhipmggjaaGreatDoor

namespace Go.Proofs.YtjdiakhipmggjaaGreatDoor
open Go.Emb Go.RowKit Go.Kd Go.Hm
variable {w w' : World} {K : Value → World → Prop} {σ σ' : Q4} {ds : List Value} {room : Int} {cs : List Cel} {l : List Cla} {hp tv : Value}
def zfK:X0:=[90,101,114,111,70,97,117,108,116]
def zf1:List Cel:=[⟨zfK,[⟨3,0,[],0⟩]⟩]
def zf2:List Cel:=zf1++[⟨G4++[91,93],List.replicate 3 ⟨1,0,[],0⟩⟩]
theorem Q91:Q0R (Q7 Vo) 10 [] zfK=(zf1,0):=by decide
theorem Q8y:Q0B (Q7 Vo) 10 zf1 G4 3=(zf2,0):=by decide
theorem Q5S:Nc []=true:=by decide+kernel
theorem Q5O:GoodH Nc (Q7 Vo) 10 zf2:=by
 have a:=GoodH.obj Q5R Q5S (GoodH.empty (ok:=Nc) (l:=Q7 Vo) (show (0:Int)≤10 by decide)) zfK
 rw[Q91] at a
 have b:=GoodH.arr Q5R Q5S a G4 3
 rw[Q8y] at b
 exact b
theorem X1y:P.underlying T.a1=some (.pointer T.r):=by kernel_rfl
theorem Q3o (d:Nat) (o:Option Addr):(Op.equalIn (d+1) T.a1 (.pointer o) (.pointer none)).run P w= .ok o.isNone w:=by
 cases o<;>simp[Op.equalIn,run_underlying X1y]
theorem Q7f {a:Addr} {b c:Operand} (h:K (.bool false) w):Q3 P .eql T.a1 b c (.pointer (some a)) (.pointer none) w K:=by
 have e:(Op.equal T.a1 (.pointer (some a)) (.pointer none)).run P w= .ok false w:=Q3o 9999 _
 unfold Q3
 rw[X7 (v:= .bool false) (w':=w) (by simp[eqGuard,Go.binOp,e])]
 exact h
theorem Q5z {a b:Operand} (h:K (.bool true) w):Q3 P .eql T.a1 a b (.pointer none) (.pointer none) w K:=by
 have e:(Op.equal T.a1 (.pointer none) (.pointer none)).run P w= .ok true w:=Q3o 9999 _
 unfold Q3
 rw[X7 (v:= .bool true) (w':=w) (by simp[eqGuard,Go.binOp,e])]
 exact h
theorem X0W {a:Addr} {b c:Operand} (h:K (.bool true) w):Q3 P .neq T.l b c (.pointer (some a)) (.pointer none) w K:=by
 have e:(Op.equal T.l (.pointer (some a)) (.pointer none)).run P w= .ok false w:=Q3n 9999 _
 unfold Q3
 rw[X7 (v:= .bool true) (w':=w) (by simp[eqGuard,Go.binOp,e])]
 exact h
set_option maxHeartbeats 1000000 in
theorem Q9H (hs:X4 w σ) (M:Glb σ) (h: ∀w' σ',Stp w σ w' σ'→K (.bool true) w'):Q1 P F.b4 [] w K:=Fh (by
 unfold Wg
 refine X00 hs M (by decide) fun b a D ds w1 σ1 g H z Y ok=>?_
 refine Z7 (vs:=[_,_]) rfl ?_
 refine Z7 (vs:=[_,_]) rfl ?_
 refine C5 g.sat fun b2 w2 X u m r=>?_
 have aa:=C2 u g
 refine sta r rfl (by obtain ⟨lv,cv,rfl,_⟩:=RHp.out z;rfl) (by rw[List.all_toArray];exact List.all_eq_true.2 (Rep.one z)) fun w3 W ad=>?_
 have R:=g.trans m
 have h2:=H.up m
 have d:Stp w1 σ1 w3 X:=W.stp m u r.1
 have U:=H.up d
 have p:=g.trans d
 rw[show (10 % 301:Int)=10 from rfl] at U
 refine Q7f ?_
 (try simp only[Qf,F9,Jk,O9,C8,B7,K6,K4,Ui,Bool.not_true,Bool.not_false])
 have v:=Y.lift ⟨d.le⟩
 refine Q8X d.sat p.bel.size U v ok (k:=zfK) (by decide) (by decide) (by decide) fun w4 σ4 D4 A J Z=>?_
 simp only[Q91] at J
 have s:=v.lift A.le
 refine Z7 (vs:=[_,_]) rfl ?_
 refine Z7 (vs:=[_,_]) rfl ?_
 have B: ∀{k},D k→w.heap.size≤k:=fun q=>(H.mem q).1
 have t:=A.stp' p fun k q=>B q
 refine Q9S A.sat t.bel.size J s (e:=G4) (n:=3) (by decide) (by decide) (by decide) fun w5 σ5 D5 O Q V=>?_
 simp only[Q8y] at Q
 have C:=s.lift O.le
 have o:=O.stp' t fun k q=>(J.mem q).1
 refine Z7 (vs:=[_,_]) rfl ?_
 refine Z7 (vs:=[_,_]) rfl ?_
 obtain ⟨σf,N,i,y,_⟩:=Q.freeze o.sat
 simp only[Q91,Q8y,show atM [] 0=0 from rfl,show atM zf1 0=1 from rfl,decide_true,↓M1,M1,Mb,reduceIte]
 refine Q1K N y Q5O.left (by decide) fun w6 L=>?_
 have f:=Stp.of_below N L
 simp only[show R1 10 zf2=4 from by decide,decide_true,↓M1,M1,Mb,reduceIte]
 have c:=y
 refine Q84 f.sat c ?_
 simp only[show ((zf2.length:Nat):Int)=2 from by decide,decide_true,↓M1,M1,Mb,reduceIte]
 refine Q27 f.sat c ?_
 refine Xy ?_
 simp only[show D6 zf2 0=zfK from by decide,show decide (zfK=[90,101,114,111,70,97,117,108,116])=true from by decide,↓M1,M1,Mb,reduceIte]
 refine Q5L f.sat c ?_
 simp only[show Pa zf2 1=3 from by decide,decide_true,↓M1,M1,Mb,reduceIte]
 have E:=(M.lift ⟨o.le⟩).lift i
 refine Q5u f.sat E c (C.lift i) ok Q5O.cells fun w7 σ7 j=>?_
 simp only[↓M1,M1,Mb,reduceIte]
 refine Q8h j.sat (c.lift ⟨j.le⟩) ?_
 refine X0W ?_
 (try simp only[↓M1,M1,Mb,reduceIte])
 exact h w7 σ5 (o.trans ((f.trans j).weak i.le)))
end Go.Proofs.YtjdiakhipmggjaaGreatDoor

namespace Go.Proofs.YtjdiakhipmggjaaGreatDoor
open Go.Emb Go.RowKit Go.Kd Go.Hm
variable {w w' : World} {K : Value → World → Prop} {σ σ' : Q4} {ds : List Value} {room : Int} {cs : List Cel} {l : List Cla} {hp tv : Value}
theorem Q25 {r:Int}:G9 [] r=false:=by
 unfold G9
 simp only[List.length_nil,Bool.and_eq_false_iff,decide_eq_false_iff_not]
 omega
theorem Q2e {r i:Int}:B4 [] r i=92:=by unfold B4;rw[Q25];rfl
theorem Q8J {r:Int}:D6 [] r=[]:=by unfold D6;rw[Q25];rfl
theorem Q8L {r:Int}:Pa [] r=0:=by unfold Pa;rw[Q25];rfl
theorem X0c {ok:X0→Bool} {r i:Int} {v:Val}:Q3Y ok l [] r i v=([],92):=by unfold Q3Y;rw[Q2e];rfl
set_option maxHeartbeats 1000000 in
theorem Q7A {room ref:Int} (hs:X4 w σ) (Q:Glb σ) (hr:(Lit.int .i64 room).wf=true) (av:(Lit.int .i64 ref).wf=true)
 (h: ∀w' σ',Stp w σ w' σ'→K (.bool true) w'):Q1 P F.bU [I room,I ref] w K:=Ru (by
 unfold Jy
 refine Pw hs fun v w1 σ1 r ad=>?_
 refine Q9m r.sat (Q.lift ⟨r.le⟩) ad (by decide) Q5q (fun i e _ _ hn=>by rw[Ga] at hn;cases hn) fun tv w2 σ2 _ N V ok _=>?_
 obtain ⟨a,_,_,_,rfl,_⟩:=V.ex
 have E:=r.trans N
 refine Z7 (vs:=[_,_,_]) rfl ?_
 refine Z7 (vs:=[_,_,_]) rfl ?_
 refine Z7 (vs:=[_,_,_]) rfl ?_
 refine Q9H N.sat (Q.lift ⟨E.le⟩) fun w3 σ3 o=>?_
 have m:=E.trans o
 simp only[decide_true,Bool.not_true,Bool.not_false,↓M1,M1,Mb,reduceIte]
 refine Q74 ?_
 simp only[decide_true,Bool.not_true,Bool.not_false,↓M1,M1,Mb,reduceIte]
 refine Q7P o.sat (fun hx=>?_) fun h0 h1 b w4 σ4 D n h4=>?_
 ·refine Z7 (vs:=[_,_]) rfl ?_
  refine Z7 (vs:=[_,_]) rfl ?_
  have U:(decide (room<0)=true)∨(decide (room<0)=false∧decide (1048576<room)=true):=by
   by_cases e:room<0
   ·exact .inl (decide_eq_true e)
   ·exact .inr ⟨decide_eq_false e,decide_eq_true (by omega)⟩
  rcases U with e | ⟨e,e2⟩
  ·simp only[e,↓M1,M1,Mb,reduceIte]
   refine Q5z ?_
   simp only[decide_true,↓M1,M1,Mb,reduceIte]
   exact h _ _ m
  ·simp only[e,e2,↓M1,M1,Mb,reduceIte]
   refine Q5z ?_
   simp only[decide_true,↓M1,M1,Mb,reduceIte]
   exact h _ _ m
 refine Z7 (vs:=[_,_]) rfl ?_
 refine Z7 (vs:=[_,_]) rfl ?_
 have e1:decide (room<0)=false:=decide_eq_false (by omega)
 have e2:decide (1048576<room)=false:=decide_eq_false (by omega)
 simp only[e1,e2,decide_true,Bool.not_true,↓M1,M1,Mb,reduceIte]
 refine Q7f ?_
 simp only[↓M1,M1,Mb,reduceIte]
 have Y:=m.trans n
 obtain ⟨σf,sf,R,z,of⟩:=h4.freeze n.sat
 refine X0y sf z fun w5 σ5 u=>?_
 refine Z7 (vs:=[_,_]) rfl ?_
 refine Z7 (vs:=[_,_]) rfl ?_
 refine C5 u.sat fun b2 w6 σ6 ai Z ae=>?_
 have B:=u.trans Z
 refine B8 ae B (C2 ai u) rfl rfl Q3V fun w7 ah a1=>?_
 have j:=ah.stp
 have d:=z.lift ⟨j.le⟩
 have A:((([]:List Cel).length:Nat):Int)=0:=rfl
 have y:R1 room []=room:=by simp[R1,W3]
 refine Q84 j.sat d ?_
 simp only[A,decide_true,↓M1,M1,Mb,reduceIte]
 refine Q1K j.sat d (by rw[y];exact h0) h1 fun w8 ag=>?_
 rw[y]
 simp only[decide_true,↓M1,M1,Mb,reduceIte]
 have C:=j.trans (Stp.of_below j.sat ag)
 refine Q9J C.sat d (by decide) fun cv w9 σ9 D9 H h9=>?_
 obtain ⟨ac,al,af⟩:=h9.len
 subst af
 rw[Af]
 simp only[A,decide_true,↓M1,M1,Mb,reduceIte]
 have s:=C.trans H
 have p:=d.lift ⟨H.le⟩
 refine Q27 s.sat p ?_
 refine Xy ?_
 simp only[Q8J,decide_true,↓M1,M1,Mb,reduceIte]
 refine Q5L s.sat p ?_
 simp only[Q8L,Q2e,decide_true,↓M1,M1,Mb,reduceIte]
 refine V1 (cells:= #[I 0,I 0,S [],I 0]) (by kernel_rfl) ?_
 (try simp only[↓M1,M1,Mb,reduceIte])
 have g:Stp w4 σ4 w9 σ4:=s.weak R.le
 have q:=Y.trans g
 refine X1m (v:=Val.zero) g.sat (Q.lift ⟨q.le⟩) (h4.up g) ((V.lift ⟨o.le⟩).lift ⟨n.le⟩) ok (fun c X=>by cases X) ⟨rfl,by decide,by decide,by decide,by decide⟩ fun ab W L J=>?_
 rw[X0c] at J⊢
 simp only[decide_true,↓M1,M1,Mb,reduceIte]
 have f:Stp w σ ab W:=L.stp' q fun k hk=>Nat.le_trans m.bel.size (h4.mem hk).1
 obtain ⟨σg,sg,t,O,_⟩:=J.freeze f.sat
 refine Q5u sg ((Q.lift ⟨f.le⟩).lift t) O ((((V.lift ⟨o.le⟩).lift ⟨n.le⟩).lift L.le).lift t) ok (fun c X=>by cases X) fun ay ao M=>?_
 (try simp only[↓M1,M1,Mb,reduceIte])
 exact h _ _ (f.trans (M.weak t.le)))
end Go.Proofs.YtjdiakhipmggjaaGreatDoor

namespace Go.Proofs.YtjdiakhipmggjaaGreatDoor.heapNew
open Go.ChangeShapes Go.WideShapes Go.ChangeAt Go.RowKit
open Go.Emb
theorem own : ownKnob Tryz.prog.godebug = none := by kernel_rfl
theorem lay : laidOutB Tryz.prog = true := by kernel_rfl
set_option maxRecDepth 100000 in
theorem X17 (os : Os) (started : os.Started) (H : Type) (enc : TypeId × Value → H) :
    ReturnsInHanded {} Tryz.checked os 3 .any (fun w args => (Rows.heapNewSpec.pre enc Tryz.prog Tryz.f3 [] false w args ∧ laidMetH Tryz.prog laidAll w) ∧ sizedMet enc Tryz.prog Tryz.f3 (OpenSpec.ofChange Rows.heapNewSpec) false w args) (Rows.heapNewSpec.post enc Tryz.prog Tryz.f3 false true false false) := by
  refine returnsInHanded_of_change_and (C := Tryz.checked) (X := fun w _ => laidMetH Tryz.prog laidAll w) (fun _ _ _ hh h => h.of_heap hh) own started (by kernel_rfl) Tryz.func3
    (ChangeSpec.witness_shaped (enc := enc) (C := Tryz.checked) (os := os) (X := fun w _ => laidMetH Tryz.prog laidAll w) false (World.laidAll Tryz.prog os laidAll) #[.int .i64 0, .int .i64 0] 8 (World.laidAll_os _ _ _)
      (World.shaped_of_ZipB (by kernel_rfl) (by kernel_rfl)) (by kernel_rfl) (by kernel_rfl) (by kernel_rfl) (by rw [MakeChecks.laidMetH_plain _ _ _ (by kernel_rfl)]; exact laidMet_laidAll _ (by kernel_rfl) (by kernel_rfl))) ?_
  intro W base args ds gs before hval0 hW _ hsz0 hL _
  have hsz : (DataW.weightsEach Tryz.prog (Tryz.f3.params.toList ++ Rows.heapNewSpec.plain.varTypes Tryz.prog) (ds ++ gs)).all (· ≤ reachBytes) = true := hsz0
  have hval : ∀ (j : Nat) t v, Tryz.f3.params[j]? = some t → args[j]? = some v → Value.okWide Tryz.prog W .any base t v := hval0
  have hW' := hW
  obtain ⟨p, q, hA0, hV, rfl, hfz, hnd⟩ := hW
  have hA : DataW.TrodAll enc Tryz.prog W 0 (fun _ => true) true Tryz.f3.params.toList args.toList ds p := hA0
  have hlt := DataW.TrodAll.lt hA
  rw [Tryz.params3] at hA hval hsz
  obtain ⟨v0, vs0, d0, ds0, p0, q0, hargs, rfl, rfl, h0, r0⟩ := trodAll_cons hA
  obtain ⟨v1, vs1, d1, ds1, p1, q1, rfl, rfl, rfl, h1, r1⟩ := trodAll_cons r0
  obtain ⟨rfl, rfl, rfl⟩ := trodAll_nil r1
  obtain rfl : args = #[v0, v1] := by cases args; simp_all
  obtain ⟨rfl, rfl⟩ := trodVars_none hV
  have g0 : ∀ x ∈ p0, x.block < W.heap.size := fun x hx => hlt x (by simp [hx])
  have k0 := fun (W' : World) (bel : Below W.heap.size W W') => Below.trod lay (by kernel_rfl) (of_decide_eq_true (by kernel_rfl)) h0 bel g0
  obtain ⟨a0, rfl, _, _, w0⟩ := open_int Tryz.underlying3 (hval 0 3 v0 rfl rfl) h0
  have g1 : ∀ x ∈ p1, x.block < W.heap.size := fun x hx => hlt x (by simp [hx])
  have k1 := fun (W' : World) (bel : Below W.heap.size W W') => Below.trod lay (by kernel_rfl) (of_decide_eq_true (by kernel_rfl)) h1 bel g1
  obtain ⟨a1, rfl, _, _, w1⟩ := open_int Tryz.underlying3 (hval 1 3 v1 rfl rfl) h1
  have hc : Q1 Tryz.prog 3 [.int .i64 a0, .int .i64 a1] W (fun e w' => e = .bool true ∧ Below W.heap.size W w') := Q7A Q7G (X16 hL) w0 w1 (fun w' σ' hb => ⟨rfl, hb.bel⟩)
  refine (Q26 Tryz.func3 (by kernel_rfl) (by kernel_rfl) hc).mono fun e W' he => ?_
  obtain ⟨v, rfl⟩ : ∃ v, e = .returned v := by cases e <;> first | exact ⟨_, rfl⟩ | exact he.elim
  obtain ⟨rfl, bel⟩ := he
  exact ⟨_, rfl, _, _, _, [], _, [], hW', trodAll_mk1 (shut_bool Tryz.underlying4 _), (trodAll_cons_mk (k0 W' bel) (trodAll_cons_mk (k1 W' bel) trodAll_mk0)), rfl, bel.frame _, fun h => by cases h⟩
theorem over : Rows.heapNewRow.holds Tryz.pinned (OpenSpec.ofChange Rows.heapNewSpec) :=
  OpenClaim.holds_of_wide 3 Tryz.f3 rfl rfl rfl rfl rfl rfl rfl ⟨rfl, rfl, rfl, rfl, rfl⟩ rfl rfl rfl rfl rfl (by kernel_rfl) Tryz.func3 (by kernel_rfl)
    (of_decide_eq_true (by kernel_rfl)) (by unfold Func.isWrapper; first | (rw [if_pos (by decide +kernel)]; kernel_rfl) | (rw [if_neg (by decide +kernel)]; exact ⟨rfl, rfl⟩))
    (fun os started H enc _ => X17 os started H enc)
end Go.Proofs.YtjdiakhipmggjaaGreatDoor.heapNew
namespace Go.Proofs.YtjdiakhipmggjaaGreatDoor
theorem Q35 : Rows.HeapNewSaid := heapNew.over
end Go.Proofs.YtjdiakhipmggjaaGreatDoor
