/- Parts of a proof about the given program: its functions as texts of their own, what each computes, plain laws of that. The conditions of each stand in its statement. -/
import Derived.Test.YtlfdfcejjgidpaaGreatDoorB4
import Derived.Test.YtlfdfcejjgidpaaGreatDoorB3
import Derived.Lib.TrimUEq
import Derived.Laws.BytesArg
import Derived.Laws.IdiomStrings
import Derived.Laws.BitsAllLaws
import Derived.Test.YtlfdfcejjgidpaaGreatDoorB2
import Derived.Laws.OwnMore
set_option linter.unnecessarySimpa false
set_option linter.defProp false
set_option linter.unusedSectionVars false
set_option linter.unusedVariables false
set_option linter.unusedSimpArgs false
namespace Go.Emb
open Go.RowKit Go.Hm
variable {w w' : World} {σ : Q2}
theorem Nxt.of_upd {b:Nat} (c:X1 w σ) (a:Upd w b w') (d:σ b=none):Nxt (fun j=>j=b) w σ w' σ:=
 ⟨Kpt.of_upd a rfl,SLe.refl _,fun _ _=>rfl,(Kpt.of_upd (D:=fun j=>j=b) a rfl).sat c fun k e=>e▸d⟩
theorem Nxt.chain {D E:Nat->Prop} {w1 c:World} {σ1 d:Q2} (h:Nxt D w σ w1 σ1) (k:Nxt E w1 σ1 c d) (f: ∀j,j<w.heap.size->E j->D j):Nxt D w σ c d:=
 ⟨⟨k.kp.os.trans h.kp.os,k.kp.tape.trans h.kp.tape,k.kp.output.trans h.kp.output,Nat.le_trans h.kp.size k.kp.size,fun j a b=>(k.kp.block j (Nat.lt_of_lt_of_le a h.kp.size) fun e=>b (f j a e)).trans (h.kp.block j a b)⟩,h.le.more k.le,fun j a=>(k.old j (Nat.lt_of_lt_of_le a h.kp.size)).trans (h.old j a),k.sat⟩
end Go.Emb
namespace Go.Proofs.Y
open Go.Emb Go.RowKit Go.Kd Go.Hm
variable {w w' : World} {K : Value -> World -> Prop} {σ σ' : Q2} {hp tv : Value} {room : Int} {cs : List Cel} {l : List Cla}
theorem RowsIs.shape {B:Nat} {D:Nat->Prop} {b:Value} (h:RowsIs B D σ w b cs):b.cells= #[b]/\b.oneCell'=true:=by
 obtain ⟨vs,d,_⟩:=h.ex;obtain ⟨a,c,rfl,_⟩:=d;exact ⟨rfl,rfl⟩
theorem RowsIs.len {B:Nat} {D:Nat->Prop} {c:Value} (h:RowsIs B D σ w c cs): ∃a b,c= .slice a cs.length b:=by
 obtain ⟨vs,d,e,_⟩:=h.ex;obtain ⟨a,b,rfl,_⟩:=d;exact ⟨a,b,by rw[Tp e.1]⟩
theorem X6q {B:Nat} {D:Nat->Prop} {v:Value} {vals:List Val} {k:Q8} (hs:X1 w σ) (hB:B<=w.heap.size) (h:HeapIs B D σ w hp tv room cs) (M:U0 B T.i 4 G1 σ w v vals) (C: ∀j,v.ownBlock=some j-> ¬D j) (hk:k.length<=U9) (hl:H7 cs+(1+(vals.length:Int))<=1048576)
 (hh: ∀w' σ' D',Nxt D w σ w' σ'->HeapIs B D' σ' w' hp tv room (cs++[⟨k,vals⟩])->(∀j,D' j->D j\/v.ownBlock=some j\/w.heap.size<=j)->K (.tuple #[I cs.length,I 0]) w'):Q0 P F.bR [hp,S k,v] w K:=Q2P (by
 obtain ⟨b,lv,E,rfl,A,t,hr,hE,hD⟩:=h.ex;have ab:=Q05 cs;have af:=Ru cs;have c:D b:=(hD b).2 (.inl rfl);have O: ∃a d,v= .slice a vals.length d:=by obtain ⟨a,d,e,_⟩:=M;exact ⟨a,d,e⟩
 have U:=t.lt;unfold Ry Y2 X7 X5 X2;rw[E0,fa];refine Fw t rfl ?_;refine Sh M ?_;refine Wb ⟨by omega,by omega⟩ ?_
 refine Wb ⟨by omega,by omega⟩ ?_
 rw[E0,fa];refine Bn t U5 rfl rfl fun w1 u o=>?_;have r:=Nxt.of_upd hs u t.1;have H:=hr.nx r fun j hj e=>hE (e▸hj);have N:=M.nx r fun j hj e=>C j hj (e▸c);have L:=r.sat;rw[E0,fa];refine Fw o rfl ?_;refine W2 (cells:= #[S k,v]) (by obtain ⟨a,d,rfl⟩:=O;kernel_rfl) ?_
 refine X6j L (by rw[u.size];exact hB) H N (fun j hj e=>C j hj ((hD j).2 (.inr e))) hk Q4 fun s ah w2 W y z i f m aa=>?_
 have n: ∀j,lv.ownBlock=some j->j≠b:=fun j hj e=>hE (e▸i j hj);have p:=o.nx z fun e=>n b e rfl
 have g: ¬y b:=fun e=>by
  rcases m b e with e | e | e
  .exact hE e
  .exact C b e c
  .rw[u.size] at e;omega
 rw[E0,fa];refine Bn p U5 f.shape.1 f.shape.2 fun V u3 q=>?_;have Q:=Nxt.of_upd z.sat u3 p.1;have J:=f.nx Q fun j hj e=>g (e▸hj);rw[E0,fa];refine Fw q rfl ?_;obtain ⟨a2,R,rfl⟩:=f.len;rw[Q5j];refine Hf ⟨by simp only[List.length_append,List.length_cons,List.length_nil];omega,by simp only[List.length_append,List.length_cons,List.length_nil];omega⟩ ?_
 have Y:(((cs++[(⟨k,vals⟩:Cel)]).length:Nat):Int)-1=cs.length:=by simp
 rw[Y];have Z:H7 (cs++[(⟨k,vals⟩:Cel)])=H7 cs+(1+(vals.length:Int)):=by rw[Q4O];simp[H7]
 have X:Nxt D w σ V W:=((r.mono fun j _ e=>e▸c).chain z fun j _ e=>(hD j).2 (.inr (i j e))).chain Q fun j _ e=>e▸c;refine hh V W (fun j=>j=b\/y j) X ⟨b,_,y,rfl,A,?_,J,g,fun j=>Iff.rfl⟩ fun j hj=>?_
 .rw[Z];exact q
 .rcases hj with rfl | hj
  .exact .inl c
  .rcases m j hj with e | e | e
   .exact .inl ((hD j).2 (.inr e))
   .exact .inr (.inl e)
   .rw[u.size] at e;exact .inr (.inr e))
theorem HeapIs.tab {B:Nat} {D:Nat->Prop} (h:HeapIs B D σ w hp tv room cs): ∃b a E,hp= .pointer (some ⟨b,0,none⟩)/\U6 σ w b [tv,I room,I (H7 cs),a]/\RowsIs B E σ w a cs:=by
 obtain ⟨b,a,E,e,c,d,f,hE,hD⟩:=h.ex;exact ⟨b,a,E,e,d,f⟩
theorem X2A {B:Nat} {D:Nat->Prop} (b:X1 w σ) (h:HeapIs B D σ w hp tv room cs) (c:0<=Qn room cs) (d:room<=1048576) (e: ∀w',Stp w σ w' σ->K (I (Qn room cs)) w'):Q0 P F.aR [hp] w K:=by
 obtain ⟨j,i,g,a,_⟩:=h.freeze b;exact X4d i a c d fun w' f=>e w' (Stp.of_below b f)
theorem X5h (k:Q8) {σ:Q2}:G1 σ (G0 k) (Value.agg [I (G0 k).sort,I (G0 k).n,S (G0 k).s,I (G0 k).ref].toArray).cells.toList:=by
 refine ⟨rfl,?_⟩;unfold G0
 split
 .decide
 split
 .decide
 split
 .decide
 .decide
theorem Q7l (a: ∀c∈l,Qe c) (b:l.length<=100000) (n:Q8):(W9 l n).length<=1000000000000:=by
 have h:=Q44 a n;have:(l.length+1)*1000000<=100001*1000000:=Nat.mul_le_mul_right _ Q4;omega
def atM (cs:List Cel) (e:Int):Int:=if e=0 then cs.length else 0
set_option maxHeartbeats 1000000 in
theorem X2u {B:Nat} {D:Nat->Prop} {k:Q8} (hs:X1 w σ) (hB:B<=w.heap.size) (h:HeapIs B D σ w hp tv room cs) (ht:Tab σ tv l) (ok:Ok l) (hk:k.length<=U9) (h0:0<=Qn room cs) (h1:room<=1048576)
 (hh: ∀w' σ' D',Nxt D w σ w' σ'->HeapIs B D' σ' w' hp tv room (Q1M l room cs k).1->(∀j,D' j->D j\/w.heap.size<=j)->K (.tuple #[I (atM cs (Q1M l room cs k).2),I (Q1M l room cs k).2]) w'):Q0 P F.bc [hp,S k] w K:=Tx (by
 obtain ⟨b,lv,E,rfl,hm,hr⟩:=h.tab;unfold Nl;simp only[M4,M8];unfold Y2 Z5 X7 X5 X2;rw[E0,fa];refine Fw (i:=0) hm rfl ?_;refine X1d hs ht fun w1 σ1 g=>?_;refine Ss ?_;unfold Q1M at hh;have ab:=ht.lift ⟨g.le⟩;cases ho:Vd l k with
 | false=>
  rw[ho] at hh;simp only[if_pos] at hh;refine W7 ?_;exact hh w1 σ1 D (.of_stp g) (h.up g) fun j r=> .inl r
 | true=>
  rw[ho] at hh;simp only[Bool.true_eq_false,if_false] at hh;refine L1 ?_;rw[E0,fa];refine Fw (i:=0) (hm.up g) rfl ?_;refine Q3q g.sat ab ok.acy ok.len ok.sm fun fv w2 σ2 J Y=>?_;have v:=g.trans J;have Z:=Y.max;refine Q6 Y ?_;have ae:=Q7l ok.sm ok.len k;refine Wb ⟨by omega,by omega⟩ ?_
  refine X2A J.sat (h.up v) h0 h1 fun N z=>?_;have o:=v.trans z;have A:=Y.up z;rw[Q2i]
  by_cases M:Qn room cs<1+((W9 l k).length:Int)
  .rw[if_pos M] at hh
   have e:decide (1+((W9 l k).length:Int)>Qn room cs)=true:=decide_eq_true M;rw[e];refine W7 ?_;exact hh N σ2 D (.of_stp o) (h.up o) fun j r=> .inl r
  rw[if_neg M] at hh;have e:decide (1+((W9 l k).length:Int)>Qn room cs)=false:=decide_eq_false M;rw[e];refine L1 ?_;refine Q6 A ?_;have u:=o.bel.size;refine O7 (W9 l k).length (fun n x w'=> ∃σ',Stp N σ2 w' σ'/\W1 N.heap.size T.i 4 G1 σ' w' x (((W9 l k).take n).map fun f=>G0 f.kind)) ⟨σ2,Stp.refl z.sat,W1.nil⟩ fun n x w4 d hn H=>?_;obtain ⟨σ4,c,p⟩:=H;refine Z4 ?_;refine Q3 (fun X=>?_) (fun X=>?_)
  .have m:n<(W9 l k).length:=by simpa using X
   have C:=A.up c;refine U2 C m ?_;obtain ⟨p1,r1⟩:=C.elF m;refine Z8 c.sat p1 rfl ?_;refine Z0 c.sat (by rfl) rfl (Rep.one (R:=C5) r1) fun q w5 σ5 t aa=>?_
   rw[fa];refine ld t.sat aa rfl ?_;refine X5r t.sat fun w6 σ6 L=>?_;have Q:=(c.trans t).trans L;have V:=(p.up t).up L;refine Za (R:=G1) (x:=G0 (W9 l k)[n].kind) Q V (X5h _) rfl rfl rfl (by rw[List.length_map,List.length_take];omega) (by rw[List.length_map,List.length_take];omega) fun s v' w7 σ7 ao U W _=>?_
   refine H8 ?_;refine Z9 Z m ⟨σ7,U,?_⟩;rw[List.take_add_one,List.getElem?_eq_getElem m,List.map_append];exact W
  .have m: ¬n<(W9 l k).length:=by simpa using X
   rw[List.take_of_length_le Q4] at p;have a:=o.trans c;have y: ∀j,x.ownBlock=some j->N.heap.size<=j:=fun j r=>(p.mem j r).1
   refine X6q c.sat (Nat.le_trans hB a.bel.size) (h.up a) ((U0.of_acc p).mono (Nat.le_trans hB u)) (fun j r hD=>by
    have:=(h.mem hD).2.1;have:=y j r;omega) hk (by rw[List.length_map];unfold Qn at*;omega) fun w7 σ7 D' N7 h7 O=>?_
   refine J0 (vs:=[_,_]) rfl ?_;refine J0 (vs:=[_,_]) rfl ?_;refine hh w7 σ7 D' ((Nxt.of_stp a).chain N7 fun j _ e=>e) h7 fun j r=>?_
   rcases O j r with e | e | e
   .exact .inl e
   .right;have:=y j e;omega
   .right;have:=a.bel.size;omega)
end Go.Proofs.Y
namespace Go.Hm
open Go.Kd
def B2 (n i b:Nat):Bool:=decide (i<n)&&decide (128<=b)&&decide (b<192)
def Jx (n a b c d:Nat):Nat:=
 if a<128 then 1
 else if (decide (194<=a)&&decide (a<224)&&B2 n 1 b)=true then 2
 else if (decide (224<=a)&&decide (a<240)&&B2 n 1 b&&B2 n 2 c)=true then
  (if 2048<=a % 16*4096+b % 64*64+c % 64/\(a % 16*4096+b % 64*64+c % 64<55296\/57343<a % 16*4096+b % 64*64+c % 64) then 3 else 0)
 else if (decide (240<=a)&&decide (a<245)&&B2 n 1 b&&B2 n 2 c&&B2 n 3 d)=true then
  (if 65536<=a % 8*262144+b % 64*4096+c % 64*64+d % 64/\a % 8*262144+b % 64*4096+c % 64*64+d % 64<=1114111 then 4 else 0)
 else 0
theorem X2F (n a b c d:Nat) (r:a<256) (s:b<256) (t:c<256) (u:d<256):
 Jx n a b c d=if (Lib.decodeN n a b c d).1=65533/\(Lib.decodeN n a b c d).2=1 then 0 else (Lib.decodeN n a b c d).2:=by
 have key: ∀v k:Nat,Lib.decodeN n a b c d=(v,k)-> ¬k=1->Jx n a b c d=k->Jx n a b c d=if (Lib.decodeN n a b c d).1=65533/\(Lib.decodeN n a b c d).2=1 then 0 else (Lib.decodeN n a b c d).2:=by
  intro v k h p o;rw[h,o,if_neg (fun e=>p e.2)]
 have g:Lib.decodeN n a b c d=(65533,1)->Jx n a b c d=0->Jx n a b c d=if (Lib.decodeN n a b c d).1=65533/\(Lib.decodeN n a b c d).2=1 then 0 else (Lib.decodeN n a b c d).2:=by
  intro h o;rw[h,o];simp
 by_cases f:a<128
 .have h:Lib.decodeN n a b c d=(a,1):=by unfold Lib.decodeN;rw[if_pos f]
  rw[h,if_neg (by simp only;omega)]
  unfold Jx;rw[if_pos f]
 by_cases j:a / 32=6/\(1<n/\b / 64=2)
 .by_cases i:a % 32*64+b % 64>=128
  .refine key _ 2 (by unfold Lib.decodeN;rw[if_neg f,if_pos j,if_pos i]) (by decide) ?_
   unfold Jx B2;simp only[Bool.and_eq_true,decide_eq_true_eq];rw[if_neg f,if_pos (by omega)]
  .refine g (by unfold Lib.decodeN;rw[if_neg f,if_pos j,if_neg i]) ?_
   unfold Jx B2;simp only[Bool.and_eq_true,decide_eq_true_eq];rw[if_neg f,if_neg (by omega),if_neg (by omega),if_neg (by omega)]
 by_cases l:a / 16=14/\(1<n/\b / 64=2)/\(2<n/\c / 64=2)
 .by_cases i:2048<=a % 16*4096+b % 64*64+c % 64/\(a % 16*4096+b % 64*64+c % 64<55296\/57343<a % 16*4096+b % 64*64+c % 64)
  .refine key _ 3 (by unfold Lib.decodeN;rw[if_neg f,if_neg j,if_pos l,if_pos (by omega)]) (by decide) ?_
   unfold Jx B2;simp only[Bool.and_eq_true,decide_eq_true_eq];rw[if_neg f,if_neg (by omega),if_pos (by omega),if_pos i]
  .refine g (by unfold Lib.decodeN;rw[if_neg f,if_neg j,if_pos l,if_neg (by omega)]) ?_
   unfold Jx B2;simp only[Bool.and_eq_true,decide_eq_true_eq];rw[if_neg f,if_neg (by omega),if_pos (by omega),if_neg i]
 by_cases m:a / 8=30/\(1<n/\b / 64=2)/\(2<n/\c / 64=2)/\(3<n/\d / 64=2)
 .by_cases i:65536<=a % 8*262144+b % 64*4096+c % 64*64+d % 64/\a % 8*262144+b % 64*4096+c % 64*64+d % 64<=1114111
  .refine key _ 4 (by unfold Lib.decodeN;rw[if_neg f,if_neg j,if_neg l,if_pos m,if_pos (by omega)]) (by decide) ?_
   unfold Jx B2;simp only[Bool.and_eq_true,decide_eq_true_eq];rw[if_neg f,if_neg (by omega),if_neg (by omega),if_pos (by omega),if_pos i]
  .refine g (by unfold Lib.decodeN;rw[if_neg f,if_neg j,if_neg l,if_pos m,if_neg (by omega)]) ?_
   unfold Jx B2;simp only[Bool.and_eq_true,decide_eq_true_eq];rw[if_neg f,if_neg (by omega),if_neg (by omega)]
   by_cases q:a<245
   .rw[if_pos (by omega),if_neg i]
   .rw[if_neg (by omega)]
 .refine g (by unfold Lib.decodeN;rw[if_neg f,if_neg j,if_neg l,if_neg m]) ?_
  unfold Jx B2;simp only[Bool.and_eq_true,decide_eq_true_eq];rw[if_neg f,if_neg (by omega),if_neg (by omega),if_neg (by omega)]
def X6 (l:Q8) (i:Nat):Nat:=(l.getD i 0).toNat
theorem Zd (l:Q8) (i:Nat):X6 l i<256:=(l.getD i 0).toNat_lt
def Jw (l:Q8):Nat:=Jx l.length (X6 l 0) (X6 l 1) (X6 l 2) (X6 l 3)
theorem Q77 (l:Q8):Jw l=if (Lib.decodeL l).1=65533/\(Lib.decodeL l).2=1 then 0 else (Lib.decodeL l).2:=by
 rw[Lib.decodeL_N];exact X2F _ _ _ _ _ (Zd l 0) (Zd l 1) (Zd l 2) (Zd l 3)
theorem X1n {l:Q8} (a:l≠[]) (h:Jw l≠0):1<=Jw l/\Jw l<=l.length:=by
 have b:=Lib.decodeL_le l a;have c:=Lib.decodeL_width l;rw[Q77] at h⊢
 split at h
 .exact absurd rfl h
 .rw[if_neg (by assumption)];omega
theorem X0Z {f:Nat} {l:Q8} (a:l≠[]):Lib.validGoD (f+1) l=if Jw l=0 then false else Lib.validGoD f (l.drop (Jw l)):=by
 have b:=Lib.decodeL_width l;simp only[Lib.validGoD,if_neg a];rw[Q77]
 split
 .rw[if_pos rfl]
 .rw[if_neg (by omega)]
end Go.Hm
namespace Go.Emb
open Go.RowKit
theorem Q4T {P:Program} {w:World} {K:Value->World->Prop} {k:IntKind} {t:TypeId} {b d:Operand} {a c:Int} (f:0<c/\0<=a) (h:K (.int k (a % c)) w):Y5 P .rem t b d (.int k a) (.int k c) w K:=by
 have e:Y5 P .rem t b d (.int k a) (.int k c) w K=K (.int k (a.tmod c)) w:=Y3 (by simp[eqGuard,Go.binOp,Op.intDiv];intro e;omega)
 rw[e,Int.tmod_eq_emod_of_nonneg f.2];exact h
end Go.Emb
namespace Go.Proofs.Y
open Go.Emb Go.RowKit Go.Kd Go.Hm
variable {w : World} {K : Value -> World -> Prop} {σ : Q2}
theorem Dj {a:Q8} {i:Nat} (b:i<a.length) (h:K (.int .u8 (X6 a i)) w):B3 P T.b (S a) (I i) w K:=by
 rw[Yn Y6 Q4 (by simpa using b)]
 have:(a[(i:Int).toNat]'(by simpa using b)).toNat=X6 a i:=by
  unfold X6;rw[List.getD_eq_getElem?_getD,List.getElem?_eq_getElem b];rfl
 rw[this];exact h
theorem Q5E {n:Int} (a:0<=n/\n<256) (h:K (I n) w):conv P T.t T.d (.int .u8 n) w K:=by
 rw[Xm Q5x Ga,K9 Q4 Q4];exact h
theorem Mz {a:Q8} {i:Nat} (h:K (.bool (B2 a.length i (X6 a i))) w):Q0 P F.r [S a,I i] w K:=Aj (by
 unfold Nz Y0 X7 X2;unfold B2 at h;simp only[↓M1,M1,Mb,reduceIte]
 by_cases b:i<a.length
 .have c:decide ((i:Int)<a.length)=true:=by rw[decide_eq_true_eq];omega
  have d:decide (i<a.length)=true:=by simpa using b
  rw[d] at h;simp only[c,↓M1,M1,Mb,reduceIte];refine Dj b ?_
  (try simp only[↓M1,M1,Mb,reduceIte])
  have f:decide ((128:Int)<=(X6 a i:Int))=decide (128<=X6 a i):=by rw[Bool.eq_iff_iff,decide_eq_true_eq,decide_eq_true_eq];omega
  have g:decide ((X6 a i:Int)<192)=decide (X6 a i<192):=by rw[Bool.eq_iff_iff,decide_eq_true_eq,decide_eq_true_eq];omega
  rw[f];cases e:decide (128<=X6 a i) with
  | true=>
   rw[e] at h;simp only[↓M1,M1,Mb,reduceIte];refine Dj b ?_;simp only[g,↓M1,M1,Mb,reduceIte]
   simpa using h
  | false=>
   rw[e] at h;simp only[↓M1,M1,Mb,reduceIte]
   simpa using h
 .have c:decide ((i:Int)<a.length)=false:=by rw[decide_eq_false_iff_not];omega
  have d:decide (i<a.length)=false:=by simpa using b
  rw[d] at h;simp only[c,↓M1,M1,Mb,reduceIte]
  simpa using h)
def Vl (a:Q8):Nat:=X6 a 0 % 16*4096+X6 a 1 % 64*64+X6 a 2 % 64
def Bq (a:Q8):Nat:=X6 a 0 % 8*262144+X6 a 1 % 64*4096+X6 a 2 % 64*64+X6 a 3 % 64
theorem X1m (a:Q8):Jw a=if X6 a 0<128 then 1
 else if (decide (194<=X6 a 0)&&decide (X6 a 0<224)&&B2 a.length 1 (X6 a 1))=true then 2
 else if (decide (224<=X6 a 0)&&decide (X6 a 0<240)&&B2 a.length 1 (X6 a 1)&&B2 a.length 2 (X6 a 2))=true then
  (if 2048<=Vl a/\(Vl a<55296\/57343<Vl a) then 3 else 0)
 else if (decide (240<=X6 a 0)&&decide (X6 a 0<245)&&B2 a.length 1 (X6 a 1)&&B2 a.length 2 (X6 a 2)&&B2 a.length 3 (X6 a 3))=true then
  (if 65536<=Bq a/\Bq a<=1114111 then 4 else 0)
 else 0:=rfl
set_option maxRecDepth 9999 in
set_option maxHeartbeats 2000000 in
theorem X3f {a:Q8} (hne:a≠[]) (hs:X1 w σ) (h: ∀w',Below w.heap.size w w'->K (I (Jw a)) w'):Q0 P F.bw [S a] w K:=Q0M (by
 unfold Dy;simp only[Z1,Y1,D0];unfold Y0 X5 X2;have hl:0<a.length:=List.length_pos_iff.2 hne;have b0:=Zd a 0;have b1:=Zd a 1;have b2:=Zd a 2;have b3:=Zd a 3;refine Dj (i:=0) hl ?_;refine Q5E Q4 ?_
 refine Xg (fun _ w'=>Below w.heap.size w w'/\Jw a=0) ?_ (fun _ d w' hx=>by
  have:=h w' hx.1;rw[hx.2] at this;exact this)
 have hK: ∀n w',Below w.heap.size w w'->Jw a=n->K (I n) w':=fun n w' hb e=>by rw[<-e];exact h w' hb
 clear h;have hcm:=X1m a;simp only[↓M1,M1,Mb,reduceIte];refine Q3 (fun h1=>?_) (fun h1=>?_)
 .have:X6 a 0<128:=by have:=of_decide_eq_true h1;omega
  exact hK 1 _ (Below.refl _ _) (by rw[hcm,if_pos this])
 have c0: ¬X6 a 0<128:=by have:=of_decide_eq_false h1;omega
 rw[if_neg c0] at hcm
 by_cases c1:X6 a 0<194
 .have i1:decide ((194:Int)<=X6 a 0)=false:=by rw[decide_eq_false_iff_not];omega
  have n1:decide (194<=X6 a 0)=false:=by rw[decide_eq_false_iff_not];omega
  have i2:decide ((X6 a 0:Int)<224)=true:=by rw[decide_eq_true_eq];omega
  have n2:decide (X6 a 0<224)=true:=by rw[decide_eq_true_eq];omega
  have i3:decide ((224:Int)<=X6 a 0)=false:=by rw[decide_eq_false_iff_not];omega
  have n3:decide (224<=X6 a 0)=false:=by rw[decide_eq_false_iff_not];omega
  have i4:decide ((X6 a 0:Int)<240)=true:=by rw[decide_eq_true_eq];omega
  have n4:decide (X6 a 0<240)=true:=by rw[decide_eq_true_eq];omega
  have i5:decide ((240:Int)<=X6 a 0)=false:=by rw[decide_eq_false_iff_not];omega
  have n5:decide (240<=X6 a 0)=false:=by rw[decide_eq_false_iff_not];omega
  have i6:decide ((X6 a 0:Int)<245)=true:=by rw[decide_eq_true_eq];omega
  have n6:decide (X6 a 0<245)=true:=by rw[decide_eq_true_eq];omega
  simp only[i1,i2,i3,i4,i5,i6,↓M1,M1,Mb,reduceIte];exact ⟨Below.refl _ _,by rw[hcm];simp only[n1,n2,n3,n4,n5,n6,Bool.and_true,Bool.true_and,Bool.false_and,Bool.and_false,Bool.false_eq_true,if_true,if_false,reduceIte]⟩
 by_cases c2:X6 a 0<224
 .have i1:decide ((194:Int)<=X6 a 0)=true:=by rw[decide_eq_true_eq];omega
  have n1:decide (194<=X6 a 0)=true:=by rw[decide_eq_true_eq];omega
  have i2:decide ((X6 a 0:Int)<224)=true:=by rw[decide_eq_true_eq];omega
  have n2:decide (X6 a 0<224)=true:=by rw[decide_eq_true_eq];omega
  have i3:decide ((224:Int)<=X6 a 0)=false:=by rw[decide_eq_false_iff_not];omega
  have n3:decide (224<=X6 a 0)=false:=by rw[decide_eq_false_iff_not];omega
  have i4:decide ((X6 a 0:Int)<240)=true:=by rw[decide_eq_true_eq];omega
  have n4:decide (X6 a 0<240)=true:=by rw[decide_eq_true_eq];omega
  have i5:decide ((240:Int)<=X6 a 0)=false:=by rw[decide_eq_false_iff_not];omega
  have n5:decide (240<=X6 a 0)=false:=by rw[decide_eq_false_iff_not];omega
  have i6:decide ((X6 a 0:Int)<245)=true:=by rw[decide_eq_true_eq];omega
  have n6:decide (X6 a 0<245)=true:=by rw[decide_eq_true_eq];omega
  simp only[i1,i2,i3,i4,i5,i6,↓M1,M1,Mb,reduceIte];refine Mz (i:=1) ?_;cases A1:B2 a.length 1 (X6 a 1) with
  | true=>simp only[↓M1,M1,Mb,reduceIte];exact hK 2 _ (Below.refl _ _) (by rw[hcm];simp only[A1,n1,n2,n3,n4,n5,n6,Bool.and_true,Bool.true_and,Bool.false_and,Bool.and_false,Bool.false_eq_true,if_true,if_false,reduceIte])
  | false=>simp only[↓M1,M1,Mb,reduceIte];exact ⟨Below.refl _ _,by rw[hcm];simp only[A1,n1,n2,n3,n4,n5,n6,Bool.and_true,Bool.true_and,Bool.false_and,Bool.and_false,Bool.false_eq_true,if_true,if_false,reduceIte]⟩
 by_cases c3:X6 a 0<240
 .have i1:decide ((194:Int)<=X6 a 0)=true:=by rw[decide_eq_true_eq];omega
  have n1:decide (194<=X6 a 0)=true:=by rw[decide_eq_true_eq];omega
  have i2:decide ((X6 a 0:Int)<224)=false:=by rw[decide_eq_false_iff_not];omega
  have n2:decide (X6 a 0<224)=false:=by rw[decide_eq_false_iff_not];omega
  have i3:decide ((224:Int)<=X6 a 0)=true:=by rw[decide_eq_true_eq];omega
  have n3:decide (224<=X6 a 0)=true:=by rw[decide_eq_true_eq];omega
  have i4:decide ((X6 a 0:Int)<240)=true:=by rw[decide_eq_true_eq];omega
  have n4:decide (X6 a 0<240)=true:=by rw[decide_eq_true_eq];omega
  have i5:decide ((240:Int)<=X6 a 0)=false:=by rw[decide_eq_false_iff_not];omega
  have n5:decide (240<=X6 a 0)=false:=by rw[decide_eq_false_iff_not];omega
  have i6:decide ((X6 a 0:Int)<245)=true:=by rw[decide_eq_true_eq];omega
  have n6:decide (X6 a 0<245)=true:=by rw[decide_eq_true_eq];omega
  simp only[i1,i2,i3,i4,i5,i6,↓M1,M1,Mb,reduceIte];refine Mz (i:=1) ?_;cases A1:B2 a.length 1 (X6 a 1) with
  | false=>simp only[↓M1,M1,Mb,reduceIte];exact ⟨Below.refl _ _,by rw[hcm];simp only[A1,n1,n2,n3,n4,n5,n6,Bool.and_true,Bool.true_and,Bool.false_and,Bool.and_false,Bool.false_eq_true,if_true,if_false,reduceIte]⟩
  | true=>
  simp only[↓M1,M1,Mb,reduceIte];refine Mz (i:=2) ?_;cases A2:B2 a.length 2 (X6 a 2) with
  | false=>simp only[↓M1,M1,Mb,reduceIte];exact ⟨Below.refl _ _,by rw[hcm];simp only[A1,A2,n1,n2,n3,n4,n5,n6,Bool.and_true,Bool.true_and,Bool.false_and,Bool.and_false,Bool.false_eq_true,if_true,if_false,reduceIte]⟩
  | true=>
  simp only[↓M1,M1,Mb,reduceIte];simp only[A1,A2,n1,n2,n3,n4,n5,n6,Bool.and_true,Bool.true_and,Bool.false_and,Bool.and_false,Bool.false_eq_true,if_true,if_false,reduceIte] at hcm;have hl1:1<a.length:=by unfold B2 at A1;simp only[Bool.and_eq_true,decide_eq_true_eq] at A1;exact A1.1.1
  have hl2:2<a.length:=by unfold B2 at A2;simp only[Bool.and_eq_true,decide_eq_true_eq] at A2;exact A2.1.1
  have hw:IntKind.i64.wrap (IntKind.i64.wrap (IntKind.i64.wrap ((X6 a 0:Int) % 16*4096)+IntKind.i64.wrap ((X6 a 1:Int) % 64*64))+(X6 a 2:Int) % 64)=((Vl a:Nat):Int):=by
   rw[K9 (n:=(X6 a 0:Int) % 16*4096) Q4 Q4,K9 (n:=(X6 a 1:Int) % 64*64) Q4 Q4,K9 (n:=_+(X6 a 1:Int) % 64*64) Q4 Q4,K9 Q4 Q4];unfold Vl;omega
  refine L9 hs ?_;have hx1: ∀{w':World} {K:Value->World->Prop},K (.int .u8 (X6 a 1)) w'->B3 P T.b (S a) (.int .i64 1) w' K:=fun hK=>Dj (i:=1) hl1 hK;have hx2: ∀{w':World} {K:Value->World->Prop},K (.int .u8 (X6 a 2)) w'->B3 P T.b (S a) (.int .i64 2) w' K:=fun hK=>Dj (i:=2) hl2 hK
  (repeat (apply J9;(· intros;(repeat (rename_i hx;subst hx));(repeat' (first | (with_reducible exact J3 rfl) | (with_reducible exact Qv (Stp.bel (by (repeat (first | exact Stp.refl (by (first | assumption | exact Stp.sat Q7 | exact Hst.sat Q7)) | assumption | refine Stp.trans ?_ (by first | assumption | exact Hst.stp Q7))))) rfl) | (with_reducible intro _) | (simp only[↓M2,M2,Mb,reduceIte]) | (with_reducible refine Q4T au ?_) | (with_reducible refine Q5E au ?_) | (with_reducible refine hx1 ?_) | (with_reducible refine hx2 ?_) | (with_reducible show Q9 _ _ _ _ _;first | refine Y4 aS aL aR ?_ | refine Z8 aS aL aR ?_ | refine ld aS aL aR ?_) | (with_reducible show indexAddr _ _ _ _ _ _;refine U2 aL au ?_) | (with_reducible show V9 _ _ _ _ _ _ _ _;refine Q6 aL ?_) | (with_reducible show Nk _ _ _ _ _ _;refine L6 aR ?_) | (with_reducible show pick _ _ _ _ _ _;refine Lm ?_) | (apply Ot;intro hh;(try simp only[hh,reduceIte,↓M2,M2,Mb,reduceIte]))));done)))
  (intros;(repeat (rename_i hx;subst hx));(try simp only[↓M2,M2,Mb,reduceIte]))
  rename_i w2 hb2;simp only[hw];have hb:=hb2.stp.bel
  by_cases e1:2048<=Vl a
  .by_cases e2:Vl a<55296
   .simp only[(show decide ((2048:Int)<=(Vl a:Int))=true by rw[decide_eq_true_eq];omega),(show decide ((Vl a:Int)<55296)=true by rw[decide_eq_true_eq];omega),↓M1,M1,Mb,reduceIte]
    exact hK 3 _ hb (by rw[hcm,if_pos ⟨e1, .inl e2⟩])
   .by_cases e3:57343<Vl a
    .simp only[(show decide ((2048:Int)<=(Vl a:Int))=true by rw[decide_eq_true_eq];omega),(show decide ((Vl a:Int)<55296)=false by rw[decide_eq_false_iff_not];omega),(show decide ((57343:Int)<(Vl a:Int))=true by rw[decide_eq_true_eq];omega),↓M1,M1,Mb,reduceIte]
     exact hK 3 _ hb (by rw[hcm,if_pos ⟨e1, .inr e3⟩])
    .simp only[(show decide ((2048:Int)<=(Vl a:Int))=true by rw[decide_eq_true_eq];omega),(show decide ((Vl a:Int)<55296)=false by rw[decide_eq_false_iff_not];omega),(show decide ((57343:Int)<(Vl a:Int))=false by rw[decide_eq_false_iff_not];omega),↓M1,M1,Mb,reduceIte]
     exact ⟨hb,by rw[hcm,if_neg Q4]⟩
  .simp only[(show decide ((2048:Int)<=(Vl a:Int))=false by rw[decide_eq_false_iff_not];omega),↓M1,M1,Mb,reduceIte]
   exact ⟨hb,by rw[hcm,if_neg Q4]⟩
 by_cases c4:X6 a 0<245
 .have i1:decide ((194:Int)<=X6 a 0)=true:=by rw[decide_eq_true_eq];omega
  have n1:decide (194<=X6 a 0)=true:=by rw[decide_eq_true_eq];omega
  have i2:decide ((X6 a 0:Int)<224)=false:=by rw[decide_eq_false_iff_not];omega
  have n2:decide (X6 a 0<224)=false:=by rw[decide_eq_false_iff_not];omega
  have i3:decide ((224:Int)<=X6 a 0)=true:=by rw[decide_eq_true_eq];omega
  have n3:decide (224<=X6 a 0)=true:=by rw[decide_eq_true_eq];omega
  have i4:decide ((X6 a 0:Int)<240)=false:=by rw[decide_eq_false_iff_not];omega
  have n4:decide (X6 a 0<240)=false:=by rw[decide_eq_false_iff_not];omega
  have i5:decide ((240:Int)<=X6 a 0)=true:=by rw[decide_eq_true_eq];omega
  have n5:decide (240<=X6 a 0)=true:=by rw[decide_eq_true_eq];omega
  have i6:decide ((X6 a 0:Int)<245)=true:=by rw[decide_eq_true_eq];omega
  have n6:decide (X6 a 0<245)=true:=by rw[decide_eq_true_eq];omega
  simp only[i1,i2,i3,i4,i5,i6,↓M1,M1,Mb,reduceIte];refine Mz (i:=1) ?_;cases A1:B2 a.length 1 (X6 a 1) with
  | false=>simp only[↓M1,M1,Mb,reduceIte];exact ⟨Below.refl _ _,by rw[hcm];simp only[A1,n1,n2,n3,n4,n5,n6,Bool.and_true,Bool.true_and,Bool.false_and,Bool.and_false,Bool.false_eq_true,if_true,if_false,reduceIte]⟩
  | true=>
  simp only[↓M1,M1,Mb,reduceIte];refine Mz (i:=2) ?_;cases A2:B2 a.length 2 (X6 a 2) with
  | false=>simp only[↓M1,M1,Mb,reduceIte];exact ⟨Below.refl _ _,by rw[hcm];simp only[A1,A2,n1,n2,n3,n4,n5,n6,Bool.and_true,Bool.true_and,Bool.false_and,Bool.and_false,Bool.false_eq_true,if_true,if_false,reduceIte]⟩
  | true=>
  simp only[↓M1,M1,Mb,reduceIte];refine Mz (i:=3) ?_;cases A3:B2 a.length 3 (X6 a 3) with
  | false=>simp only[↓M1,M1,Mb,reduceIte];exact ⟨Below.refl _ _,by rw[hcm];simp only[A1,A2,A3,n1,n2,n3,n4,n5,n6,Bool.and_true,Bool.true_and,Bool.false_and,Bool.and_false,Bool.false_eq_true,if_true,if_false,reduceIte]⟩
  | true=>
  simp only[↓M1,M1,Mb,reduceIte];simp only[A1,A2,A3,n1,n2,n3,n4,n5,n6,Bool.and_true,Bool.true_and,Bool.false_and,Bool.and_false,Bool.false_eq_true,if_true,if_false,reduceIte] at hcm;have hl1:1<a.length:=by unfold B2 at A1;simp only[Bool.and_eq_true,decide_eq_true_eq] at A1;exact A1.1.1
  have hl2:2<a.length:=by unfold B2 at A2;simp only[Bool.and_eq_true,decide_eq_true_eq] at A2;exact A2.1.1
  have hl3:3<a.length:=by unfold B2 at A3;simp only[Bool.and_eq_true,decide_eq_true_eq] at A3;exact A3.1.1
  have hw:IntKind.i64.wrap (IntKind.i64.wrap (IntKind.i64.wrap (IntKind.i64.wrap ((X6 a 0:Int) % 8*262144)+IntKind.i64.wrap ((X6 a 1:Int) % 64*4096))+IntKind.i64.wrap ((X6 a 2:Int) % 64*64))+(X6 a 3:Int) % 64)=((Bq a:Nat):Int):=by
   rw[K9 (n:=(X6 a 0:Int) % 8*262144) Q4 Q4,K9 (n:=(X6 a 1:Int) % 64*4096) Q4 Q4,K9 (n:=(X6 a 2:Int) % 64*64) Q4 Q4,K9 (n:=_+(X6 a 1:Int) % 64*4096) Q4 Q4,K9 (n:=_+(X6 a 2:Int) % 64*64) Q4 Q4,K9 Q4 Q4];unfold Bq;omega
  refine L9 hs ?_;have hx1: ∀{w':World} {K:Value->World->Prop},K (.int .u8 (X6 a 1)) w'->B3 P T.b (S a) (.int .i64 1) w' K:=fun hK=>Dj (i:=1) hl1 hK;have hx2: ∀{w':World} {K:Value->World->Prop},K (.int .u8 (X6 a 2)) w'->B3 P T.b (S a) (.int .i64 2) w' K:=fun hK=>Dj (i:=2) hl2 hK;have hx3: ∀{w':World} {K:Value->World->Prop},K (.int .u8 (X6 a 3)) w'->B3 P T.b (S a) (.int .i64 3) w' K:=fun hK=>Dj (i:=3) hl3 hK
  (repeat (apply J9;(· intros;(repeat (rename_i hx;subst hx));(repeat' (first | (with_reducible exact J3 rfl) | (with_reducible exact Qv (Stp.bel (by (repeat (first | exact Stp.refl (by (first | assumption | exact Stp.sat Q7 | exact Hst.sat Q7)) | assumption | refine Stp.trans ?_ (by first | assumption | exact Hst.stp Q7))))) rfl) | (with_reducible intro _) | (simp only[↓M2,M2,Mb,reduceIte]) | (with_reducible refine Q4T au ?_) | (with_reducible refine Q5E au ?_) | (with_reducible refine hx1 ?_) | (with_reducible refine hx2 ?_) | (with_reducible refine hx3 ?_) | (with_reducible show Q9 _ _ _ _ _;first | refine Y4 aS aL aR ?_ | refine Z8 aS aL aR ?_ | refine ld aS aL aR ?_) | (with_reducible show indexAddr _ _ _ _ _ _;refine U2 aL au ?_) | (with_reducible show V9 _ _ _ _ _ _ _ _;refine Q6 aL ?_) | (with_reducible show Nk _ _ _ _ _ _;refine L6 aR ?_) | (with_reducible show pick _ _ _ _ _ _;refine Lm ?_) | (apply Ot;intro hh;(try simp only[hh,reduceIte,↓M2,M2,Mb,reduceIte]))));done)))
  (intros;(repeat (rename_i hx;subst hx));(try simp only[↓M2,M2,Mb,reduceIte]))
  rename_i w2 hb2;simp only[hw];have hb:=hb2.stp.bel
  by_cases e1:65536<=Bq a
  .by_cases e2:Bq a<=1114111
   .simp only[(show decide ((65536:Int)<=(Bq a:Int))=true by rw[decide_eq_true_eq];omega),(show decide ((Bq a:Int)<=1114111)=true by rw[decide_eq_true_eq];omega),↓M1,M1,Mb,reduceIte]
    exact hK 4 _ hb (by rw[hcm,if_pos ⟨e1,e2⟩])
   .simp only[(show decide ((65536:Int)<=(Bq a:Int))=true by rw[decide_eq_true_eq];omega),(show decide ((Bq a:Int)<=1114111)=false by rw[decide_eq_false_iff_not];omega),↓M1,M1,Mb,reduceIte]
    exact ⟨hb,by rw[hcm,if_neg Q4]⟩
  .simp only[(show decide ((65536:Int)<=(Bq a:Int))=false by rw[decide_eq_false_iff_not];omega),↓M1,M1,Mb,reduceIte]
   exact ⟨hb,by rw[hcm,if_neg Q4]⟩
 have i1:decide ((194:Int)<=X6 a 0)=true:=by rw[decide_eq_true_eq];omega
 have n1:decide (194<=X6 a 0)=true:=by rw[decide_eq_true_eq];omega
 have i2:decide ((X6 a 0:Int)<224)=false:=by rw[decide_eq_false_iff_not];omega
 have n2:decide (X6 a 0<224)=false:=by rw[decide_eq_false_iff_not];omega
 have i3:decide ((224:Int)<=X6 a 0)=true:=by rw[decide_eq_true_eq];omega
 have n3:decide (224<=X6 a 0)=true:=by rw[decide_eq_true_eq];omega
 have i4:decide ((X6 a 0:Int)<240)=false:=by rw[decide_eq_false_iff_not];omega
 have n4:decide (X6 a 0<240)=false:=by rw[decide_eq_false_iff_not];omega
 have i5:decide ((240:Int)<=X6 a 0)=true:=by rw[decide_eq_true_eq];omega
 have n5:decide (240<=X6 a 0)=true:=by rw[decide_eq_true_eq];omega
 have i6:decide ((X6 a 0:Int)<245)=false:=by rw[decide_eq_false_iff_not];omega
 have n6:decide (X6 a 0<245)=false:=by rw[decide_eq_false_iff_not];omega
 simp only[i1,i2,i3,i4,i5,i6,↓M1,M1,Mb,reduceIte];exact ⟨Below.refl _ _,by rw[hcm];simp only[n1,n2,n3,n4,n5,n6,Bool.and_true,Bool.true_and,Bool.false_and,Bool.and_false,Bool.false_eq_true,if_true,if_false,reduceIte]⟩)
theorem Q6k {s:Q8} (p:s.length<=U9) (u:X1 w σ) (h: ∀w',Below w.heap.size w w'->K (.bool (Lib.validD s)) w'):Q0 P F.aG [S s] w K:=Ai (by
 unfold Ny X5 V5;refine Q2s (fun f x w'=> ∃r,x=S r/\r.length<=f/\r.length<=U9/\Below w.heap.size w w'/\Lib.validD s=Lib.validGoD f r) s.length ⟨s,rfl,Nat.le_refl _,p,Below.refl _ _,rfl⟩ ?_;rintro j f x d w1 ⟨r,rfl,t,q,b,i⟩ m;refine Hl ?_
 by_cases a:r=[]
 .have e:decide (r=[])=true:=by simpa using a
  simp only[e,↓M1,M1,Mb,reduceIte];subst a;have:Lib.validGoD f []=true:=by cases f<;>simp[Lib.validGoD]
  rw[i,this] at h;exact h _ b
 .have e:decide (r=[])=false:=by simpa using a
  simp only[e,↓M1,M1,Mb,reduceIte];have o:0<r.length:=List.length_pos_iff.2 a;obtain ⟨f,rfl⟩: ∃g,f=g+1:=⟨f-1,by omega⟩
  rw[X0Z a] at i;refine X3f a (u.below b) fun z n=>?_;have c:=b.trans (n.mono b.size);refine Qr ?_
  by_cases l:Jw r=0
  .have k:decide ((Jw r:Int)=0)=true:=by rw[decide_eq_true_eq];omega
   simp only[k,↓M1,M1,Mb,reduceIte];rw[i,if_pos l] at h;exact h _ c
  .have k:decide ((Jw r:Int)=0)=false:=by rw[decide_eq_false_iff_not];omega
   simp only[k,↓M1,M1,Mb,reduceIte];obtain ⟨v,y⟩:=X1n a l;rw[Di Y6 Q4 Q4];rw[if_neg l] at i;refine m f _ _ Q4 ⟨r.drop (Jw r),by simp,by rw[List.length_drop];omega,by rw[List.length_drop];omega,c,i⟩)
theorem Q7j {σ:Q2}: ∀(xs:List Q8),(∀x∈xs,x.length<=U9)->Q0Z V3 σ (xs.map S) xs
 | [],_=>trivial
 | x::r,h=>⟨⟨rfl,h x U5⟩,Q7j r fun y a=>h y (by simp[a])⟩
def Vv:List Q8:=Ve.map (·.name)
set_option maxRecDepth 100000 in
theorem X4W (d:X1 w σ) (h: ∀v w' a,Stp w σ w' a->Sl 1 V3 a v Vv->K v w'):Q0 P F.bK [] w K:=Q1W (by
 unfold Rc;exact H0 (R:=V3) (sz:=1) d (Vv.map S) Vv rfl rfl (by intro v b;obtain ⟨x,_,rfl⟩:=List.mem_map.1 b;rfl) rfl (Q7j _ M5) fun v w' a c b=>h v w' a c b)
theorem X0O {a:Q8} (z:X1 w σ) (h: ∀w' C,Stp w σ w' C->K (I (M9 (Xb a))) w'):Q0 P F.b7 [S a] w K:=Km (by
 unfold Mn Z5 U4 X7 X2;refine X4W z fun v w1 σ1 l p=>?_
 have s:Xb a=Vv.findIdx? fun x=>decide (x=a):=by
  unfold Xb Vv;rw[List.findIdx?_map];rfl
 have q: ∀o,Xb a=o->K (I (M9 o)) w1:=fun o e=>by rw[<-e];exact h _ _ l
 rw[s] at q;have n:Vv.length=42:=rfl;generalize Vv=g at p q n;refine U8 g.length (fun k w'=>w'=w1/\ ∀j (i:j<g.length),j<k-> ¬g[j]=a) ⟨rfl,fun j _ h=>by omega⟩ fun k E d D t=>?_
 obtain ⟨A,f⟩:=t;subst A;refine Q6 p ?_;refine Z4 ?_;refine Q3 (fun r=>?_) (fun r=>?_)
 .have b:k<g.length:=by simpa using r
  refine U2 p b ?_;obtain ⟨B,_⟩:=p.elS b;refine Y4 l.sat B rfl ?_;refine Qs ?_;refine Q3 (fun c=>?_) (fun c=>?_)
  .have c:g[k]=a:=by simpa using c
   exact q (some k) (by
    rw[List.findIdx?_eq_some_iff_getElem];exact ⟨b,by simpa using c,fun j i=>by simpa using f j Q4 i⟩)
  .have c: ¬g[k]=a:=by simpa using c
   (try simp only[↓M1,M1,Mb,reduceIte])
   refine Y9 p.max b ⟨rfl,fun j i u=>?_⟩
   by_cases e:j=k
   .subst e;exact c
   .exact f j i Q4
 .have b: ¬k<g.length:=by simpa using r
  exact q none (by
   rw[List.findIdx?_eq_none_iff];intro m y;obtain ⟨j,i,rfl⟩:=List.getElem_of_mem y
   simpa using f j i Q4))
theorem X4E {o:Option Nat}:decide (M9 o<0)= !o.isSome:=by
 cases o with
 | none=>rfl
 | some i=>
  have: ¬(i:Int)<0:=by omega
  exact decide_eq_false this
def Ou (a:Q8):Bool:=decide (a=[105,110,116])||decide (a=[108,111,97,100])||decide (a=[115,116,111,114,101])||decide (a=[106,117,109,112])||decide (a=[98,114,97,110,99,104])
def Lp (a:Q8):Bool:=decide (a=[119,111,114,100])||decide (a=[110,101,119])||decide (a=[103,101,116])||decide (a=[112,117,116])||decide (a=[99,97,108,108])||decide (a=[97,114,114,97,121])||decide (a=[105,115])||decide (a=[99,97,115,116])
theorem X3m (a:Q8):C4 a=(Ou a,Lp a,(Xb a).isSome):=by
 unfold C4;cases g:Xb a with
 | none=>
  have c:=List.findIdx?_eq_none_iff.1 g
  have d: ∀x∈Vv,¬x=a:=by
   intro x f;obtain ⟨o,q,rfl⟩:=List.mem_map.1 f;have:=c o q
   simpa using this
  have b: ∀x∈Vv,decide (a=x)=false:=fun x f=>by rw[decide_eq_false_iff_not];exact fun e=>d x f e.symm
  have j:Ou a=false:=by
   unfold Ou;rw[b _ M5,b _ M5,b _ M5,b _ M5,b _ M5];rfl
  have k:Lp a=false:=by
   unfold Lp;rw[b _ M5,b _ M5,b _ M5,b _ M5,b _ M5,b _ M5,b _ M5,b _ M5];rfl
  simp[j,k]
 | some i=>
  obtain ⟨h,r,_⟩:=List.findIdx?_eq_some_iff_getElem.1 g;have n:Ve[i].name=a:=by simpa using r
  have p:Ve.getD i ⟨[],false,false⟩=Ve[i]:=by rw[List.getD_eq_getElem?_getD,List.getElem?_eq_getElem h];rfl
  have c: ∀o∈Ve,o.number=Ou o.name/\o.text=Lp o.name:=by decide
  obtain ⟨l,m⟩:=c _ (List.getElem_mem h);simp only[p,Option.isSome_some];rw[l,m,n]
def Rp (a:Q8):Int:=if Ou a then 1 else if Lp a then 2 else if (Xb a).isSome then 0 else-1
theorem X23 {a:Q8} (f:X1 w σ) (h: ∀w' l,Stp w σ w' l->K (I (Rp a)) w'):Q0 P F.bj [S a] w K:=Aq (by
 unfold Of X5 V5;refine Xg (fun x w'=>w'=w/\x= .bool (Ou a)) ?_ (fun x d w' g=>?_)
 .unfold Ou
  simp only[↓M1,M1,Mb,reduceIte]
  repeat' (refine Q3 (fun hh=>?_) (fun hh=>?_))
  all_goals (refine ⟨by trivial,?_⟩;congr 1;simp_all)
 .obtain ⟨rfl,rfl⟩:=g
  cases e:Ou a with
  | true=>
   (try simp only[↓M1,M1,Mb,reduceIte])
   have:=h _ _ (Stp.refl f);unfold Rp at this
   simpa [e] using this
  | false=>
   (try simp only[↓M1,M1,Mb,reduceIte])
   refine Xg (fun x b=>b=w'/\x= .bool (Lp a)) ?_ (fun x d b g=>?_)
   .unfold Lp
    simp only[↓M1,M1,Mb,reduceIte]
    repeat' (refine Q3 (fun hh=>?_) (fun hh=>?_))
    all_goals (refine ⟨by trivial,?_⟩;congr 1;simp_all)
   .obtain ⟨rfl,rfl⟩:=g
    cases k:Lp a with
    | true=>
     (try simp only[↓M1,M1,Mb,reduceIte])
     have:=h _ _ (Stp.refl f);unfold Rp at this
     simpa [e,k] using this
    | false=>
     (try simp only[↓M1,M1,Mb,reduceIte])
     refine X0O f fun w1 σ1 c=>?_;have:=h _ _ c;unfold Rp at this;simp only[e,k,Bool.false_eq_true,if_false] at this;simp only[X4E,↓M1,M1,Mb,reduceIte];cases j:Xb a with
     | none=>rw[j] at this;simp only[Option.isSome_none,↓M1,M1,Mb,reduceIte];simpa using this
     | some i=>rw[j] at this;simp only[Option.isSome_some,↓M1,M1,Mb,reduceIte];simpa using this)
theorem Q8l (a:Q8):decide (Rp a<0)= !(C4 a).2.2/\decide (Rp a=1)=(C4 a).1/\decide (Rp a=2)=(C4 a).2.1:=by
 rw[X3m]
 have d:Ou a=true->Lp a=false/\(Xb a).isSome=true:=by
  intro h;unfold Ou at h;simp only[Bool.or_eq_true,decide_eq_true_eq] at h
  rcases h with (((h | h) | h) | h) | h<;>(subst h;decide)
 have e:Lp a=true->(Xb a).isSome=true:=by
  intro h;unfold Lp at h;simp only[Bool.or_eq_true,decide_eq_true_eq] at h
  rcases h with ((((((h | h) | h) | h) | h) | h) | h) | h<;>(subst h;decide)
 unfold Rp;cases b:Ou a with
 | true=>obtain ⟨f,g⟩:=d b;rw[f,g];decide
 | false=>
  cases c:Lp a with
  | true=>rw[e c];decide
  | false=>cases (Xb a).isSome<;>decide
theorem X71 (s:Q8) (c:UInt8):decide (0<=Lib.indexByte s c)=s.any fun b=>decide (b=c):=by
 induction s with
 | nil=>rfl
 | cons b r g=>
  simp only[Lib.indexByte,List.any_cons,<-g]
  by_cases e:b=c
  .simp[e]
  .have a:(b==c)=false:=by simpa using e
   have f:=Lib.indexByte_ge r c;simp only[a,e,decide_false,Bool.false_or,Bool.false_eq_true,if_false]
   by_cases d:Lib.indexByte r c= -1
   .simp[d]
   .have:(Lib.indexByte r c== -1)=false:=by simpa using d
    simp only[this,Bool.false_eq_true,if_false];rw[Bool.eq_iff_iff,decide_eq_true_eq,decide_eq_true_eq];omega
def JB (w:World) (σ:Q2) (b:Bool) (x:Value) (w':World):Prop:= ∃a,Stp w σ w' a/\x= .bool b
theorem JB.mk {w w':World} {σ a:Q2} {b:Bool} (h:Stp w σ w' a):JB w σ b (.bool b) w':=⟨a,h,rfl⟩
theorem JB.of {w w':World} {σ a:Q2} {b c:Bool} (h:Stp w σ w' a) (e:c=b):JB w σ b (.bool c) w':=⟨a,h,by rw[e]⟩
theorem X5n {s:Q8} {n:Nat} (h:n<s.length):decide ((X6 s n:Int)=10)=decide (s[n]=10):=by
 unfold X6;rw[List.getD_eq_getElem?_getD,List.getElem?_eq_getElem h,Bool.eq_iff_iff,decide_eq_true_eq,decide_eq_true_eq];simp only[Option.getD_some];rw[<-UInt8.toNat_inj];constructor
 .intro e;have:s[n].toNat=10:=by omega
  rw[this];rfl
 .intro e;rw[e];rfl
theorem Vn {α:Type} {xs:List α} {p:α->Bool} {n:Nat} (h:n<xs.length):(xs.take (n+1)).all p=((xs.take n).all p&&p xs[n]):=by
 rw[List.take_add_one,List.getElem?_eq_getElem h,List.all_append];simp
set_option maxRecDepth 9999 in
set_option maxHeartbeats 2000000 in
theorem X0L {i:Ins} {cs:List Value} (hs:X1 w σ) (hi:Qx σ i cs) (h: ∀w' m,Stp w σ w' m->K (I (H1 i)) w'):Q0 P F.bi [.agg cs.toArray] w K:=Ao (by
 obtain ⟨rfl,h1,h2,h3⟩:=hi;unfold Oe;simp only[M8];unfold J5 Y2 Y0 X7 X5 V5 X2;refine J1 hs fun q w1 σ1 O hq=>?_;have U:=O.sat
 (try simp only[↓M1,M1,Mb,reduceIte])
 refine ld U hq rfl ?_;refine X23 U fun w2 σ2 Q=>?_;obtain ⟨t1,X,H⟩:=Q8l i.op;have f:=O.trans Q;have g:=hq.up Q;have e:=f.sat;have p:i.s.length<=140737488355328:=by simp only[U9] at h3;omega
 simp only[t1,↓M1,M1,Mb,reduceIte];unfold H1 at h;cases e1:(C4 i.op).2.2 with
 | false=>
  simp only[e1,Bool.not_false,if_true] at h
  (try simp only[↓M1,M1,Mb,reduceIte])
  exact h _ _ f
 | true=>
 simp only[e1,Bool.not_true,Bool.false_eq_true,if_false] at h;simp only[X,H,↓M1,M1,Mb,reduceIte]
 have k: ∀(b:Bool) (w':World) (m:Q2),Stp w σ w' m->b=(!((!(C4 i.op).1&&decide (i.n≠0))||(!(C4 i.op).2.1&&decide (i.s≠[]))||((C4 i.op).2.1&& !txt i.op i.s)))->
  X0 (.bool (!b)) (K (.int .i64 41) w') (K (.int .i64 0) w'):=by
  intro b w' m u B;subst B;rw[Bool.not_not];cases B:((!(C4 i.op).1&&decide (i.n≠0))||(!(C4 i.op).2.1&&decide (i.s≠[]))||((C4 i.op).2.1&& !txt i.op i.s)) with
  | true=>simp only[B,if_true] at h;(try simp only[↓M1,M1,Mb,reduceIte]);exact h _ _ u
  | false=>simp only[B,Bool.false_eq_true,if_false] at h;(try simp only[↓M1,M1,Mb,reduceIte]);exact h _ _ u
 clear h
 have ae:(C4 i.op).2.1=true->(C4 i.op).1=false:=by
  intro W;rw[<-X,decide_eq_false_iff_not];rw[<-H,decide_eq_true_eq] at W;omega
 cases C:(C4 i.op).2.1 with
 | false=>
  rw[C] at k H;cases y:(C4 i.op).1 with
  | true=>
   rw[y] at k X
   (try simp only[↓M1,M1,Mb,reduceIte])
   simp only[H,↓M1,M1,Mb,reduceIte];refine ld e g rfl ?_
   (try simp only[↓M1,M1,Mb,reduceIte])
   refine L4 ?_;intro d;simp only[↓M1,M1,Mb,reduceIte];exact k _ _ _ f U5
  | false=>
   rw[y] at k X
   (try simp only[↓M1,M1,Mb,reduceIte])
   refine ld e g rfl ?_
   (try simp only[↓M1,M1,Mb,reduceIte])
   by_cases M:i.n=0
   .have d0:decide (i.n=0)=true:=by simpa using M
    simp only[d0,H,↓M1,M1,Mb,reduceIte];refine ld e g rfl ?_
    (try simp only[↓M1,M1,Mb,reduceIte])
    refine L4 ?_;intro d;simp only[↓M1,M1,Mb,reduceIte];exact k _ _ _ f (by simp[M])
   .have d0:decide (i.n=0)=false:=by simpa using M
    simp only[d0,↓M1,M1,Mb,reduceIte];refine L4 ?_;intro d;have E:=k false _ _ f (by simp[M])
    (try simp only[↓M1,M1,Mb,reduceIte] at E⊢)
    exact E
 | true=>
  have y:=ae C;rw[C,y] at k;rw[C] at H;rw[y] at X⊢
  (try simp only[↓M1,M1,Mb,reduceIte])
  refine ld e g rfl ?_
  (try simp only[↓M1,M1,Mb,reduceIte])
  have o: ∀(b c:Bool) (w':World) (m:Q2),decide (i.n=0)=b->Stp w σ w' m->c=(b&&txt i.op i.s)->X0 (.bool (!c)) (K (.int .i64 41) w') (K (.int .i64 0) w'):=by
   intro b c w' m B u t;refine k c w' m u ?_;rw[t,<-B]
   by_cases M:i.n=0<;>simp[M]
  clear k;cases B:decide (i.n=0) with
  | false=>
   have v:=fun w' m u=>o false false w' m B u rfl;clear o;simp only[H,↓M1,M1,Mb,reduceIte];refine Xg (JB w σ false) ?_ (fun x d w' W=>?_)
   .refine ld e g rfl ?_
    (try simp only[↓M1,M1,Mb,reduceIte])
    refine Q3 (fun hh=>?_) (fun hh=>?_)
    .refine O7 (a:=Value.bool false) i.s.length (fun n x w'=>w'=w2/\x=Value.bool false) ⟨rfl,rfl⟩ fun n x w3 d hn l=>?_
     obtain ⟨D,rfl⟩:=l;subst D
     (try simp only[↓M1,M1,Mb,reduceIte])
     refine ld e g rfl ?_
     (try simp only[↓M1,M1,Mb,reduceIte])
     refine Q3 (fun t=>?_) (fun t=>?_)
     .have j:n<i.s.length:=by simpa using t
      (try simp only[↓M1,M1,Mb,reduceIte])
      exact Z9 Q4 j ⟨rfl,rfl⟩
     .exact .mk f
    refine Q3 (fun hh=>?_) (fun hh=>?_)
    .exact .mk f
    refine Xg (fun x w'=>w'=w2/\ ∃b:Bool,x=Value.bool b) ?_ (fun z d w' hz=>?_)
    .refine Q3 (fun hh=>?_) (fun hh=>?_)
     .exact ⟨rfl,_,rfl⟩
     .exact ⟨rfl,_,rfl⟩
    obtain ⟨D,b,rfl⟩:=hz;subst D;refine Q3 (fun hh=>?_) (fun hh=>?_)
    .exact .mk f
    refine Q3 (fun hh=>?_) (fun hh=>?_)
    .exact .mk f
    refine ld e g rfl ?_;refine Q6j i.s p fun w4 r=>?_
    by_cases N:(Xv i.s).2.2=true
    .simp only[N,if_true,↓M1,M1,Mb,reduceIte]
     exact .mk (f.trans (Stp.of_below e r))
    .simp only[N,if_false,↓M1,M1,Mb,reduceIte]
     exact .mk (f.trans (Stp.of_below e r))
   .obtain ⟨m,u,rfl⟩:=W
    have E:=v w' m u
    (try simp only[↓M1,M1,Mb,reduceIte] at E⊢)
    exact E
  | true=>
   have v:=fun c w' m u t=>o true c w' m B u t;clear o;simp only[H,↓M1,M1,Mb,reduceIte];refine Xg (JB w σ (txt i.op i.s)) ?_ (fun x d w' W=>?_)
   .refine ld e g rfl ?_
    (try simp only[↓M1,M1,Mb,reduceIte])
    unfold txt
    by_cases o1:i.op=[119,111,114,100]
    .simp only[if_pos o1,decide_eq_true o1,↓M1,M1,Mb,reduceIte]
     refine ld e g rfl ?_
     (try simp only[↓M1,M1,Mb,reduceIte])
     have ad:decide ((i.s.length:Int)<=64)=decide (i.s.length<=64):=by rw[Bool.eq_iff_iff,decide_eq_true_eq,decide_eq_true_eq];omega
     rw[ad,X71,List.not_any_eq_all_not];cases ao:decide (i.s.length<=64) with
     | false=>
      (try simp only[↓M1,M1,Mb,reduceIte])
      refine O7 (a:=Value.bool false) i.s.length (fun n x w'=>w'=w2/\x=Value.bool false) ⟨rfl,rfl⟩ fun n x w3 d hn l=>?_;obtain ⟨D,rfl⟩:=l;subst D
      (try simp only[↓M1,M1,Mb,reduceIte])
      refine ld e g rfl ?_
      (try simp only[↓M1,M1,Mb,reduceIte])
      refine Q3 (fun t=>?_) (fun t=>?_)
      .have j:n<i.s.length:=by simpa using t
       (try simp only[↓M1,M1,Mb,reduceIte])
       exact Z9 Q4 j ⟨rfl,rfl⟩
      .exact .of f U5
     | true=>
      (try simp only[↓M1,M1,Mb,reduceIte])
      refine ld e g rfl ?_;refine Q6k h3 e fun w4 r=>?_;have J:=Stp.of_below e r;have R:=g.up J;have V:=J.sat;have A:=f.trans J
      (try simp only[↓M1,M1,Mb,reduceIte])
      refine O7 (a:=Value.bool (Lib.validD i.s)) i.s.length (fun n x w'=>w'=w4/\x=Value.bool (Lib.validD i.s&&(i.s.take n).all fun c=> !decide (c=10))) ⟨rfl,by simp⟩ fun n x w3 d hn l=>?_
      obtain ⟨D,rfl⟩:=l;subst D
      (try simp only[↓M1,M1,Mb,reduceIte])
      refine ld V R rfl ?_
      (try simp only[↓M1,M1,Mb,reduceIte])
      refine Q3 (fun t=>?_) (fun t=>?_)
      .have j:n<i.s.length:=by simpa using t
       have L:(Lib.validD i.s&&(i.s.take (n+1)).all fun c=> !decide (c=10))=((Lib.validD i.s&&(i.s.take n).all fun c=> !decide (c=10))&& !decide (i.s[n]=10)):=by rw[Vn j,Bool.and_assoc]
       generalize aj:(Lib.validD i.s&&(i.s.take n).all fun c=> !decide (c=10))=ab at L⊢;cases ab with
       | false=>(try simp only[↓M1,M1,Mb,reduceIte]);exact Z9 Q4 j ⟨rfl,by rw[L];rfl⟩
       | true=>
        (try simp only[↓M1,M1,Mb,reduceIte])
        refine ld V R rfl ?_;refine Dj j ?_;simp only[X5n j,↓M1,M1,Mb,reduceIte];exact Z9 Q4 j ⟨rfl,by rw[L];rfl⟩
      .have j: ¬n<i.s.length:=by simpa using t
       rw[List.take_of_length_le Q4];exact .of A U5
    .simp only[if_neg o1,decide_eq_false o1,↓M1,M1,Mb,reduceIte]
     by_cases o2:i.op=[110,101,119]
     .simp only[if_pos o2,decide_eq_true o2,↓M1,M1,Mb,reduceIte]
      refine ld e g rfl ?_;refine Zi i.s p ?_
      (try simp only[↓M1,M1,Mb,reduceIte])
      exact .mk f
     .simp only[if_neg o2,decide_eq_false o2,↓M1,M1,Mb,reduceIte]
      refine Xg (fun x w'=>w'=w2/\x=Value.bool (decide (i.op=[105,115]\/i.op=[99,97,115,116]))) ?_ (fun z d w' hz=>?_)
      .refine Q3 (fun hh=>?_) (fun hh=>?_)
       .exact ⟨rfl,by simp_all⟩
       .exact ⟨rfl,by simp_all⟩
      obtain ⟨D,rfl⟩:=hz;subst D
      by_cases Y:i.op=[105,115]\/i.op=[99,97,115,116]
      .simp only[if_pos Y,decide_eq_true Y,↓M1,M1,Mb,reduceIte]
       refine ld e g rfl ?_;refine My i.s p ?_;cases hr:right i.s with
       | false=>(try simp only[↓M1,M1,Mb,reduceIte]);exact .mk f
       | true=>
        (try simp only[↓M1,M1,Mb,reduceIte])
        refine ld e g rfl ?_;refine Q24 i.s ?_
        (try simp only[↓M1,M1,Mb,reduceIte])
        exact .mk f
      .simp only[if_neg Y,decide_eq_false Y,↓M1,M1,Mb,reduceIte]
       by_cases Z:i.op=[97,114,114,97,121]
       .simp only[if_pos Z,decide_eq_true Z,↓M1,M1,Mb,reduceIte]
        refine ld e g rfl ?_;refine My i.s p ?_;cases hr:right i.s with
        | false=>(try simp only[↓M1,M1,Mb,reduceIte]);exact .mk f
        | true=>
         (try simp only[↓M1,M1,Mb,reduceIte])
         refine ld e g rfl ?_;refine Q3K i.s p ?_
         (try simp only[↓M1,M1,Mb,reduceIte])
         have e3:decide (((base i.s).2:Int)<3)=decide (Q3w i.s<3):=by
          unfold Q3w;rw[if_pos hr,Bool.eq_iff_iff,decide_eq_true_eq,decide_eq_true_eq];omega
         rw[e3];exact .mk f
       .simp only[if_neg Z,decide_eq_false Z,↓M1,M1,Mb,reduceIte]
        refine ld e g rfl ?_;refine Q6j i.s p fun w4 r=>?_;have A:=f.trans (Stp.of_below e r)
        by_cases N:(Xv i.s).2.2=true
        .simp only[N,if_true,↓M1,M1,Mb,reduceIte]
         exact .mk A
        .have:Jp i.s=false:=by unfold Jp;rw[eq_false_of_ne_true N];rfl
         simp only[N,if_false,↓M1,M1,Mb,reduceIte];exact .of A this.symm
   .obtain ⟨m,u,rfl⟩:=W
    have E:=v _ w' m u rfl;simp only[Bool.true_and] at E
    (try simp only[↓M1,M1,Mb,reduceIte])
    exact E)
end Go.Proofs.Y
namespace Go.Emb
theorem X5c {w:World} {K:Value->World->Prop} {v:Value} (h:K v w):Q1 (.bool true) true w (fun w J=>J v w) K:=by rw[P1];exact h
theorem X5b {w:World} {K:Value->World->Prop} {v:Value} (h:K v w):Q1 (.bool false) false w (fun w J=>J v w) K:=by rw[Zg];exact h
theorem X6g {w:World} {K:Value->World->Prop} {b:Bool} {run:World->(Value->World->Prop)->Prop} (h:K undef w):Q1 undef b w run K:=by rw[Ri];exact h
class Hd (p : Prop) (q : outParam Prop) : Prop where
  h : q -> p
variable {P : Program} {w : World} {K : Value -> World -> Prop} {run : World -> (Value -> World -> Prop) -> Prop} {v u : Value} {b : Bool}
instance:Hd (V1 P .not (.bool b) w K) (K (.bool (!b)) w):=⟨Ss⟩
instance:Hd (Q1 undef b w run K) (K undef w):=⟨X6g⟩
instance {t:TypeId} {k off:Nat} {ft:TypeId} {sz by_:Nat} {z:Value} {a:Addr} [tf:TF P t k off ft] [tz:TZ P ft sz by_ z] [nz:NZ sz]:Hd (fieldAddr P t (.pointer (some a)) k w K) (K (.pointer (some (a.add off))) w):=⟨Xt⟩
instance:Hd (pick P (.bool false) v u w K) (K u w):=⟨X5e⟩
instance:Hd (pick P (.bool true) v u w K) (K v w):=⟨X5f⟩
instance:Hd (Q1 (.bool false) false w run K) (run w K):=⟨X6e⟩
instance:Hd (Q1 (.bool true) true w run K) (run w K):=⟨X6f⟩
instance:Hd (Q1 (.bool false) true w run K) (K undef w):=⟨X5a⟩
instance:Hd (Q1 (.bool true) false w run K) (K undef w):=⟨X5d⟩
instance:Hd (Q1 (.bool false) false w (fun w J=>J v w) K) (K v w):=⟨X5b⟩
instance:Hd (Q1 (.bool true) true w (fun w J=>J v w) K) (K v w):=⟨X5c⟩
end Go.Emb
namespace Go.Proofs.Y
open Go.Emb Go.RowKit Go.Kd Go.Hm
variable {w : World} {K : Value -> World -> Prop} {σ : Q2}
theorem X4T {xs:List Ins} {v:Value} (p:X1 w σ) (o:Sl 3 Qx σ v xs) (h: ∀e w' m,Stp w σ w' m->decide (e=0)=xs.all (fun i=>decide (H1 i=0))->K (I e) w'):Q0 P F.aV [v] w K:=Q1V (by
 unfold Rb Z5 U4 X7 X5 X2;refine U8 xs.length (fun n w'=> ∃m,Stp w σ w' m/\(xs.take n).all (fun i=>decide (H1 i=0))=true) ⟨σ,Stp.refl p,rfl⟩ fun n w1 d y j=>?_;obtain ⟨σ1,a,f⟩:=j;have g:=o.up a;refine Q6 g ?_;refine Z4 ?_;refine Q3 (fun l=>?_) (fun l=>?_)
 .have c:n<xs.length:=by simpa using l
  refine U2 g c ?_;obtain ⟨r,s⟩:=g.elI c;refine Z8 a.sat r rfl ?_;refine X0L a.sat s fun z t k=>?_;refine Sr ?_
  by_cases e:H1 xs[n]=0
  .have:decide (H1 xs[n]=0)=true:=by simpa using e
   simp only[this,↓M1,M1,Mb,reduceIte];exact Y9 o.max c ⟨t,a.trans k,by rw[Vn c,f];simpa using e⟩
  .have:decide (H1 xs[n]=0)=false:=by simpa using e
   simp only[this,↓M1,M1,Mb,reduceIte];refine h _ _ _ (a.trans k) ?_;rw[this]
   symm
   rw[<-Bool.not_eq_true,List.all_eq_true];intro q;have:=q _ (List.getElem_mem c)
   simp at this
   exact e this
 .have c: ¬n<xs.length:=by simpa using l
  rw[List.take_of_length_le Q4] at f;exact h 0 _ _ a (by rw[f];rfl))
theorem X3g {c:Cla} {cs:List Value} (hs:X1 w σ) (hc:W8 σ c cs) (h: ∀w' σ',Stp w σ w' σ'->K (.bool (Jr c)) w'):Q0 P F.bx [.agg cs.toArray] w K:=Q0Q (by
 unfold Ec;simp only[M4];unfold J5 Y2 Z5 U4 X7 X5 X2;obtain ⟨lv,fv,mv,rfl,f1,f2,f3,f4,f5⟩:=hc;refine J1 hs fun q w1 σ1 hk1 hq=>?_;have f1:=f1.up hk1;have f2:=f2.up hk1;have f3:=f3.up hk1;refine U8 c.methods.length (fun n w'=> ∃σ',Stp w1 σ1 w' σ'/\(c.methods.take n).any Lq=false) ⟨σ1,Stp.refl hk1.sat,rfl⟩ fun n w2 d hn hinv=>?_;obtain ⟨σ2,hk2,hno⟩:=hinv;have hq2:=hq.up hk2;have f32:=f3.up hk2;have f12:=f1.up hk2;have f22:=f2.up hk2;have hs2:=hk2.sat
 (try simp only[↓M1,M1,Mb,reduceIte])
 refine ld hs2 hq2 rfl ?_;refine Q6 f32 ?_;refine Z4 ?_;refine Q3 (fun hc=>?_) (fun hc=>?_)
 .have hn':n<c.methods.length:=by simpa using hc
  (try simp only[↓M1,M1,Mb,reduceIte])
  refine ld hs2 hq2 rfl ?_;refine U2 f32 hn' ?_;obtain ⟨pv,cv,hv,p1,r1⟩:=f32.elM hn';refine Z8 hs2 p1 rfl ?_;refine Z0 hs2 (by rfl) rfl (Rep.one r1) fun q3 w3 σ3 hk3 hq3=>?_
  obtain ⟨g1,g2,g3,_,_,_⟩:=(RMe_lift r1 ⟨hk3.le⟩).parts;have hS3:=hk1.trans (hk2.trans hk3)
  have hyes:Lq c.methods[n]=true->K (.bool true) w3:=fun e=>by
   have:=h _ _ hS3;have hm:Jr c=true:=by unfold Jr;rw[I5 hn' e];rfl
   rwa [hm] at this
  have hk23:=hk2.trans hk3;clear h hk2 hk3 hS3;have hmax:=f3.max
  (repeat' (first | (with_reducible intro _) | (with_reducible refine L4 ?_) | (simp only[↓M2,M2,Mb,reduceIte]) | (with_reducible first | refine ld aS aL aR ?_ | refine Y4 aS aL aR ?_ | refine Z8 aS aL aR ?_ | refine Q6 aL ?_ | refine L6 aR ?_ | refine J1 aS ?_ | refine N4 aS aL ?_ | refine V4 aS aR ?_ | refine Z0 aS aR aR (Rep.one Q7) ?_ | refine U7 aS aR aR aR ?_ | (refine J4 (fun hh=>?_) (fun hh=>?_)<;>(try simp only[hh,Bool.not_true,Bool.not_false,↓M2,M2,Mb,reduceIte])) | (refine Q3 (fun hh=>?_) (fun hh=>?_)<;>(try simp only[hh,Bool.not_true,Bool.not_false,↓M2,M2,Mb,reduceIte])))))
  all_goals clear hq hq2 f1 f2 f3 f32 f12 f22 hs hs2 p1 r1 g1 g2 g3 hk1 f4 f5 hq3
  all_goals first
   | (refine hyes ?_;clear hyes hk23;unfold Lq;simp only[Bool.not_false,Bool.not_true,Bool.or_eq_true,decide_eq_true_eq,decide_eq_false_iff_not] at*;omega)
   | (
    have hnx:(c.methods.take (n+1)).any Lq=false:=by
     rw[D6 hn',hno,Bool.false_or];clear hyes hk23;unfold Lq;simp only[Bool.or_eq_false_iff,decide_eq_false_iff_not] at*;omega
    exact Y9 hmax hn' ⟨_,hk23,hnx⟩)
 .have hn': ¬n<c.methods.length:=by simpa using hc
  rw[C0 hn'] at hno;have hS2:=hk1.trans hk2;have hm:Jr c=(decide (32<c.like.length)||decide (32<c.fields.length)||decide (32<c.methods.length)):=by unfold Jr;rw[hno];simp
  rw[hm] at h;have hK:=h _ _ hS2;clear h hk2
  (try simp only[↓M1,M1,Mb,reduceIte])
  refine ld hs2 hq2 rfl ?_;refine Q6 f12 ?_;have d32: ∀k:Nat,decide ((32:Int)<(k:Int))=decide (32<k):=fun k=>by rw[Bool.eq_iff_iff,decide_eq_true_eq,decide_eq_true_eq];omega
  simp only[d32,↓M1,M1,Mb,reduceIte];cases e1:decide (32<c.like.length) with
  | true=>rw[e1] at hK;(try simp only[↓M1,M1,Mb,reduceIte]);simpa using hK
  | false=>
   rw[e1] at hK
   (try simp only[↓M1,M1,Mb,reduceIte])
   refine ld hs2 hq2 rfl ?_;refine Q6 f22 ?_;simp only[d32,↓M1,M1,Mb,reduceIte];cases e2:decide (32<c.fields.length) with
   | true=>rw[e2] at hK;(try simp only[↓M1,M1,Mb,reduceIte]);simpa using hK
   | false=>
    rw[e2] at hK
    (try simp only[↓M1,M1,Mb,reduceIte])
    refine ld hs2 hq2 rfl ?_;refine Q6 f32 ?_;simp only[d32,↓M1,M1,Mb,reduceIte]
    simpa using hK)
theorem Q9h {α:Type} {xs:List α} {p:α->Bool} {n:Nat} (h: ¬n<xs.length):(xs.take n).all p=xs.all p:=by rw[List.take_of_length_le Q4]
set_option maxHeartbeats 4000000 in
theorem Q1F {m:Hm.Met} {pv cv hv:Value} {w1:World} {σ1:Q2} {q:Addr} {z:Bool} (hs:X1 w σ) (ag:Stp w σ w1 σ1) (hq:J7 σ1 q [S m.name,pv,S m.result, .bool m.abs,I m.locals,cv,hv]) (g1:Sl 1 V3 σ1 pv m.params) (g2:Sl 3 Qx σ1 cv m.code) (g3:Sl 4 Uh σ1 hv m.catches)
 (h: ∀w' U,Stp w σ w' U->K (.bool ((z&&m.params.all right)&&if m.abs then decide (m.locals=0)&&decide (m.code=[])&&decide (m.catches=[])
  else decide (m.code≠[])&&decide ((m.params.length:Int)<m.locals)&&m.code.all (fun i=>decide (H1 i=0))&&m.catches.all (K5 m.code.length))) w'):
 lp (α:=Value×Value) (Value.bool z,(.int .i64 0)) w1 fun V C d_ w=>
  fieldAddr P T.c (.pointer (some q)) 1 w fun bp w=>
  Q9 P T.e bp w fun bq w=>
  V9 P .len [T.e] T.d [false] [bq] w fun br w=>
  Y5 P .lss T.d (.tmp 21) (.tmp 24) C.2 br w fun bs w=>
  X0 bs (
   Q1 C.1 true w (fieldAddr P T.c (.pointer (some q)) 1) fun bv w=>
   Q1 C.1 true w (Q9 P T.e bv) fun bw w=>
   Q1 C.1 true w (fun w J=>J C.2 w) fun bx w=>
   Q1 C.1 true w (indexAddr P T.e bw bx) fun bz w=>
   Q1 C.1 true w (Q9 P T.b bz) fun b0 w=>
   Q1 C.1 true w (Q0 P F.h [b0]) fun b1 w=>
   pick P C.1 b1 (.bool false) w fun b2 w=>
   Y5 P .add T.d (.tmp 26) (.const (.int .i64 1)) C.2 (.int .i64 1) w fun bu w=>
   V (b2,bu) w) (
   fieldAddr P T.c (.pointer (some q)) 3 w fun b3 w=>
   Q9 P T.n b3 w fun b4 w=>
   X0 b4 (
    Q1 C.1 true w (fieldAddr P T.c (.pointer (some q)) 4) fun b5 w=>
    Q1 C.1 true w (Q9 P T.d b5) fun b6 w=>
    Q1 C.1 true w (Y5 P .eql T.d (.tmp 42) (.const (.int .i64 0)) b6 (.int .i64 0)) fun b7 w=>
    pick P C.1 b7 (.bool false) w fun N w=>
    Q1 N true w (fieldAddr P T.c (.pointer (some q)) 5) fun b8 w=>
    Q1 N true w (Q9 P T.k b8) fun b9 w=>
    Q1 N true w (V9 P .len [T.k] T.d [false] [b9]) fun ca w=>
    Q1 N true w (Y5 P .eql T.d (.tmp 48) (.const (.int .i64 0)) ca (.int .i64 0)) fun cb w=>
    pick P N cb (.bool false) w fun O w=>
    Q1 O true w (fieldAddr P T.c (.pointer (some q)) 6) fun cc w=>
    Q1 O true w (Q9 P T.m cc) fun cd w=>
    Q1 O true w (V9 P .len [T.m] T.d [false] [cd]) fun ce w=>
    Q1 O true w (Y5 P .eql T.d (.tmp 54) (.const (.int .i64 0)) ce (.int .i64 0)) fun cf w=>
    pick P O cf (.bool false) w fun cg w=>
    K cg w) (
    fieldAddr P T.c (.pointer (some q)) 5 w fun ch w=>
    Q9 P T.k ch w fun ci w=>
    V9 P .len [T.k] T.d [false] [ci] w fun ah w=>
    lp (α:=Value×Value) (C.1,(.int .i64 0)) w fun L j d_ w=>
     fieldAddr P T.c (.pointer (some q)) 6 w fun cj w=>
     Q9 P T.m cj w fun ck w=>
     V9 P .len [T.m] T.d [false] [ck] w fun cl w=>
     Y5 P .lss T.d (.tmp 60) (.tmp 63) j.2 cl w fun cm w=>
     X0 cm (
      fieldAddr P T.c (.pointer (some q)) 6 w fun co w=>
      Q9 P T.m co w fun cp w=>
      indexAddr P T.m cp j.2 w fun cq w=>
      Q9 P T.p cq w fun cr w=>
      Qh P T.p w fun t7 w=>
      M3 P T.p t7 cr w fun _u w=>
      Q1 j.1 true w (fieldAddr P T.p t7 0) fun cs w=>
      Q1 j.1 true w (Q9 P T.d cs) fun ct w=>
      Q1 j.1 true w (Y5 P .geq T.d (.tmp 75) (.const (.int .i64 0)) ct (.int .i64 0)) fun cu w=>
      pick P j.1 cu (.bool false) w fun H w=>
      Q1 H true w (fieldAddr P T.p t7 0) fun cw w=>
      Q1 H true w (Q9 P T.d cw) fun cx w=>
      Q1 H true w (fieldAddr P T.p t7 1) fun cy w=>
      Q1 H true w (Q9 P T.d cy) fun cz w=>
      Q1 H true w (Y5 P .lss T.d (.tmp 80) (.tmp 82) cx cz) fun c3 w=>
      pick P H c3 (.bool false) w fun Q w=>
      Q1 Q true w (fieldAddr P T.p t7 1) fun c4 w=>
      Q1 Q true w (Q9 P T.d c4) fun c5 w=>
      Q1 Q true w (fun w J=>J ah w) fun c6 w=>
      Q1 Q true w (Y5 P .leq T.d (.tmp 87) (.tmp 88) c5 c6) fun c7 w=>
      pick P Q c7 (.bool false) w fun aa w=>
      Q1 aa true w (fieldAddr P T.p t7 2) fun c8 w=>
      Q1 aa true w (Q9 P T.d c8) fun c9 w=>
      Q1 aa true w (Y5 P .geq T.d (.tmp 93) (.const (.int .i64 0)) c9 (.int .i64 0)) fun da w=>
      pick P aa da (.bool false) w fun R w=>
      Q1 R true w (fieldAddr P T.p t7 2) fun db w=>
      Q1 R true w (Q9 P T.d db) fun dc w=>
      Q1 R true w (fun w J=>J ah w) fun dd w=>
      Q1 R true w (Y5 P .lss T.d (.tmp 98) (.tmp 99) dc dd) fun av w=>
      pick P R av (.bool false) w fun D w=>
      Q1 D true w (fieldAddr P T.p t7 3) fun aw w=>
      Q1 D true w (Q9 P T.b aw) fun ax w=>
      Q1 D true w (Q0 P F.d [ax]) fun ay w=>
      pick P D ay (.bool false) w fun az w=>
      Y5 P .add T.d (.tmp 65) (.const (.int .i64 1)) j.2 (.int .i64 1) w fun cn w=>
      L (az,cn) w) (
      Q1 j.1 true w (fun w J=>J ah w) fun a0 w=>
      Q1 j.1 true w (Y5 P .gtr T.d (.tmp 109) (.const (.int .i64 0)) a0 (.int .i64 0)) fun a1 w=>
      pick P j.1 a1 (.bool false) w fun g w=>
      Q1 g true w (fieldAddr P T.c (.pointer (some q)) 4) fun a2 w=>
      Q1 g true w (Q9 P T.d a2) fun a3 w=>
      Q1 g true w (fieldAddr P T.c (.pointer (some q)) 1) fun a4 w=>
      Q1 g true w (Q9 P T.e a4) fun a5 w=>
      Q1 g true w (V9 P .len [T.e] T.d [false] [a5]) fun a6 w=>
      Q1 g true w (Y5 P .gtr T.d (.tmp 114) (.tmp 117) a3 a6) fun a7 w=>
      pick P g a7 (.bool false) w fun A w=>
      Q1 A true w (fieldAddr P T.c (.pointer (some q)) 5) fun a8 w=>
      Q1 A true w (Q9 P T.k a8) fun a9 w=>
      Q1 A true w (Q0 P F.aV [a9]) fun ba w=>
      Q1 A true w (Y5 P .eql T.z (.tmp 123) (.const (.int .i64 0)) ba (.int .i64 0)) fun bb w=>
      pick P A bb (.bool false) w fun bc w=>
      K bc w))):=by
 have bn:=ag.sat;have c0:decide ((m.code.length:Int)=0)=decide (m.code=[]):=by cases m.code<;>simp;omega
 have c1:decide ((m.catches.length:Int)=0)=decide (m.catches=[]):=by cases m.catches<;>simp;omega
 have c2:decide ((0:Int)<m.code.length)=decide (m.code≠[]):=by cases m.code<;>simp
 refine O7 (a:=Value.bool z) m.params.length (fun n x w'=> ∃U,Stp w1 σ1 w' U/\x=Value.bool (z&&(m.params.take n).all right)) ⟨σ1,Stp.refl bn,by simp⟩ fun n x w2 d hn M=>?_
 obtain ⟨σ2,k,rfl⟩:=M;have l:=hq.up k;have W:=g1.up k;have o:=k.sat
 (try simp only[↓M1,M1,Mb,reduceIte])
 refine ld o l rfl ?_;refine Q6 W ?_;refine Z4 ?_;refine Q3 (fun hc=>?_) (fun hc=>?_)
 .have c:n<m.params.length:=by simpa using hc
  have s:(z&&(m.params.take (n+1)).all right)=((z&&(m.params.take n).all right)&&right m.params[n]):=by rw[Vn c,Bool.and_assoc]
  generalize (z&&(m.params.take n).all right)=f at s⊢;cases f with
  | false=>(try simp only[↓M1,M1,Mb,reduceIte]);exact Z9 g1.max c ⟨σ2,k,by rw[s];rfl⟩
  | true=>
   (try simp only[↓M1,M1,Mb,reduceIte])
   refine ld o l rfl ?_
   (try simp only[↓M1,M1,Mb,reduceIte])
   refine U2 W c ?_;obtain ⟨p1,p2⟩:=W.elS c;refine Y4 o p1 rfl ?_;refine My _ (by simp only[U9] at p2;omega) ?_
   (try simp only[↓M1,M1,Mb,reduceIte])
   exact Z9 g1.max c ⟨σ2,k,by rw[s];rfl⟩
 .have c: ¬n<m.params.length:=by simpa using hc
  rw[Q9h c];have ak:=ag.trans k;have af:=g2.up k;have X:=g3.up k;clear ag k hq g1 g2 g3 hn hc;generalize (z&&m.params.all right)=f at h⊢;refine ld o l rfl ?_;cases al:m.abs with
  | true=>
   simp only[al,if_true] at h;have hK:=h _ _ ak;clear h
   (try simp only[↓M1,M1,Mb,reduceIte])
   cases f with
   | false=>(try simp only[↓M1,M1,Mb,reduceIte]);simpa using hK
   | true=>
    (try simp only[↓M1,M1,Mb,reduceIte])
    refine ld o l rfl ?_
    (try simp only[↓M1,M1,Mb,reduceIte])
    cases aq:decide (m.locals=0) with
    | false=>rw[aq] at hK;(try simp only[↓M1,M1,Mb,reduceIte]);simpa using hK
    | true=>
     rw[aq] at hK
     (try simp only[↓M1,M1,Mb,reduceIte])
     refine ld o l rfl ?_;refine Q6 af ?_;simp only[c0,↓M1,M1,Mb,reduceIte];cases am:decide (m.code=[]) with
     | false=>rw[am] at hK;(try simp only[↓M1,M1,Mb,reduceIte]);simpa using hK
     | true=>
      rw[am] at hK
      (try simp only[↓M1,M1,Mb,reduceIte])
      refine ld o l rfl ?_;refine Q6 X ?_;simp only[c1,↓M1,M1,Mb,reduceIte]
      simpa using hK
  | false=>
   simp only[al,Bool.false_eq_true,if_false] at h
   (try simp only[↓M1,M1,Mb,reduceIte])
   refine ld o l rfl ?_;refine Q6 af ?_;refine O7 (a:=Value.bool f) m.catches.length (fun n x w'=> ∃U,Stp w2 σ2 w' U/\x=Value.bool (f&&(m.catches.take n).all (K5 m.code.length))) ⟨σ2,Stp.refl o,by simp⟩ fun n x w4 d hn M=>?_
   obtain ⟨σ4,r,rfl⟩:=M;have E:=l.up r;have Y:=X.up r;have y:=r.sat
   (try simp only[↓M1,M1,Mb,reduceIte])
   refine ld y E rfl ?_;refine Q6 Y ?_;refine Z4 ?_;refine Q3 (fun hc=>?_) (fun hc=>?_)
   .have c:n<m.catches.length:=by simpa using hc
    have s:(f&&(m.catches.take (n+1)).all (K5 m.code.length))=((f&&(m.catches.take n).all (K5 m.code.length))&&K5 m.code.length m.catches[n]):=by rw[Vn c,Bool.and_assoc]
    generalize (f&&(m.catches.take n).all (K5 m.code.length))=bh at s⊢
    (try simp only[↓M1,M1,Mb,reduceIte])
    refine ld y E rfl ?_;refine U2 Y c ?_;obtain ⟨p1,r1⟩:=Y.elK c;have an:m.catches[n].cls.length<=140737488355328:=by have:=r1.2.2.2.2;simp only[U9] at this;omega
    refine Z8 y p1 rfl ?_;refine Z0 y (by rfl) rfl (Rep.one r1) fun q5 w5 σ5 ap t=>?_
    have B:=ap.sat;have ad:=r.trans ap;cases bh with
    | false=>(try simp only[↓M1,M1,Mb,reduceIte]);exact Z9 X.max c ⟨σ5,ad,by rw[s];rfl⟩
    | true=>
     have p: ∀b,K5 m.code.length m.catches[n]=b->Gc m.catches.length (fun n x w'=> ∃U,Stp w2 σ2 w' U/\x=Value.bool (f&&(m.catches.take n).all (K5 m.code.length))) (Value.bool b, .int .i64 (IntKind.i64.wrap (n+1))) w5/\Nb m.catches.length (Value.bool b, .int .i64 (IntKind.i64.wrap (n+1)))<Nb m.catches.length (Value.bool true,I n):=fun b e=>Z9 X.max c ⟨σ5,ad,by rw[s,e];rfl⟩
     unfold K5 at p;generalize m.catches[n]=x at t p an;clear s p1 r1 E l Y h
     (try simp only[↓M1,M1,Mb,reduceIte])
     refine ld B t rfl ?_
     (try simp only[↓M1,M1,Mb,reduceIte])
     cases d1:decide (0<=x.frm) with
     | false=>(try simp only[↓M1,M1,Mb,reduceIte]);exact p _ (by simp[d1])
     | true=>
     (try simp only[↓M1,M1,Mb,reduceIte])
     refine ld B t rfl ?_
     (try simp only[↓M1,M1,Mb,reduceIte])
     refine ld B t rfl ?_
     (try simp only[↓M1,M1,Mb,reduceIte])
     cases d2:decide (x.frm<x.to) with
     | false=>(try simp only[↓M1,M1,Mb,reduceIte]);exact p _ (by simp[d1,d2])
     | true=>
     (try simp only[↓M1,M1,Mb,reduceIte])
     refine ld B t rfl ?_
     (try simp only[↓M1,M1,Mb,reduceIte])
     cases d3:decide (x.to<=(m.code.length:Int)) with
     | false=>(try simp only[↓M1,M1,Mb,reduceIte]);exact p _ (by simp[d1,d2,d3])
     | true=>
     (try simp only[↓M1,M1,Mb,reduceIte])
     refine ld B t rfl ?_
     (try simp only[↓M1,M1,Mb,reduceIte])
     cases d4:decide (0<=x.at_) with
     | false=>(try simp only[↓M1,M1,Mb,reduceIte]);exact p _ (by simp[d1,d2,d3,d4])
     | true=>
     (try simp only[↓M1,M1,Mb,reduceIte])
     refine ld B t rfl ?_
     (try simp only[↓M1,M1,Mb,reduceIte])
     cases d5:decide (x.at_<(m.code.length:Int)) with
     | false=>(try simp only[↓M1,M1,Mb,reduceIte]);exact p _ (by simp[d1,d2,d3,d4,d5])
     | true=>
     (try simp only[↓M1,M1,Mb,reduceIte])
     refine ld B t rfl ?_;refine Zi x.cls an ?_
     (try simp only[↓M1,M1,Mb,reduceIte])
     exact p _ (by simp[d1,d2,d3,d4,d5])
   .have c: ¬n<m.catches.length:=by simpa using hc
    rw[Q9h c];have Z:=ak.trans r;have bl:=af.up r;have bk:=W.up r
    have hh: ∀w' U,Stp w σ w' U->K (.bool ((f&&m.catches.all (K5 m.code.length))&&(decide (m.code≠[])&&decide ((m.params.length:Int)<m.locals)&&m.code.all (fun i=>decide (H1 i=0))))) w':=by
     intro w' U hk;have:=h w' U hk;refine Eq.subst (motive:=fun b=>K (.bool b) w') ?_ this;cases f<;>cases m.catches.all (K5 m.code.length)<;>simp
    clear h r;generalize (f&&m.catches.all (K5 m.code.length))=bi at hh⊢;cases bi with
    | false=>(try simp only[↓M1,M1,Mb,reduceIte]);simpa using hh _ _ Z
    | true=>
     (try simp only[↓M1,M1,Mb,reduceIte])
     simp only[c2,↓M1,M1,Mb,reduceIte];cases ao:decide (m.code≠[]) with
     | false=>rw[ao] at hh;(try simp only[↓M1,M1,Mb,reduceIte]);simpa using hh _ _ Z
     | true=>
      rw[ao] at hh
      (try simp only[↓M1,M1,Mb,reduceIte])
      refine ld y E rfl ?_
      (try simp only[↓M1,M1,Mb,reduceIte])
      refine ld y E rfl ?_;refine Q6 bk ?_
      (try simp only[↓M1,M1,Mb,reduceIte])
      cases ar:decide ((m.params.length:Int)<m.locals) with
      | false=>rw[ar] at hh;(try simp only[↓M1,M1,Mb,reduceIte]);simpa using hh _ _ Z
      | true=>
       rw[ar] at hh
       (try simp only[↓M1,M1,Mb,reduceIte])
       refine ld y E rfl ?_;refine X4T y bl fun e w6 σ6 bm he=>?_;simp only[he,↓M1,M1,Mb,reduceIte]
       simpa using hh _ _ (Z.trans bm)
set_option maxRecDepth 9999 in
set_option maxHeartbeats 2000000 in
theorem X0P {m:Hm.Met} {cs:List Value} (n:X1 w σ) (D:E6 σ m cs) (h: ∀w' E,Stp w σ w' E->K (.bool (T7 m)) w'):Q0 P F.a2 [.agg cs.toArray] w K:=Kn (by
 unfold Mo;simp only[M4];unfold J5 zhi Y2 Z5 Y0 X7 X5 V5 X2;obtain ⟨pv,H,L,rfl,y,z,A,B,C,J⟩:=D;have o:m.name.length<=140737488355328:=by simp only[U9] at B;omega
 have p:m.result.length<=140737488355328:=by simp only[U9] at C;omega
 refine J1 n fun q w1 σ1 a g=>?_;have r:=y.up a;have s:=z.up a;have t:=A.up a;have f:=a.sat;obtain ⟨d,c⟩: ∃b,b=(D3 m.name&&(decide (m.result=[])||right m.result)):=⟨_,rfl⟩
 have k:T7 m=((d&&m.params.all right)&&if m.abs then decide (m.locals=0)&&decide (m.code=[])&&decide (m.catches=[])
  else decide (m.code≠[])&&decide ((m.params.length:Int)<m.locals)&&m.code.all (fun i=>decide (H1 i=0))&&m.catches.all (K5 m.code.length)):=by
  rw[c];unfold T7;cases D3 m.name<;>cases m.params.all right<;>cases decide (m.result=[])<;>cases right m.result<;>rfl
 rw[k] at h;clear k
 (repeat refine Hd.h ?_)
 refine ld f g rfl ?_;refine Q00 m.name o ?_;cases e:D3 m.name with
 | false=>
  have j:d=false:=by rw[c,e];rfl
  (repeat refine Hd.h ?_)
  refine Eq.subst (motive:=fun b=>lp (α:=Value×Value) (Value.bool b, .int .i64 0) w1 _) j ?_;exact Q1F n a g r s t h
 | true=>
  (repeat refine Hd.h ?_)
  refine ld f g rfl ?_
  (repeat refine Hd.h ?_)
  refine Qs ?_;cases l:decide (m.result=[]) with
  | true=>
   have j:d=true:=by rw[c,e,l];rfl
   (repeat refine Hd.h ?_)
   refine Eq.subst (motive:=fun b=>lp (α:=Value×Value) (Value.bool b, .int .i64 0) w1 _) j ?_;exact Q1F n a g r s t h
  | false=>
   (repeat refine Hd.h ?_)
   refine ld f g rfl ?_
   (repeat refine Hd.h ?_)
   refine My m.result p ?_;have j:d=right m.result:=by rw[c,e,l];rfl
   (repeat refine Hd.h ?_)
   refine Eq.subst (motive:=fun b=>lp (α:=Value×Value) (Value.bool b, .int .i64 0) w1 _) j ?_;exact Q1F n a g r s t h)
end Go.Proofs.Y
namespace Go.Emb
theorem Q9X {P:Program} {f:Value} {a:List Value} {w:World} {K b:Value->World->Prop} (h:Y8 P f a w K) (c: ∀v w,K v w->b v w):Y8 P f a w b:=Ex c h
end Go.Emb
namespace Go.Hm
open Go.Kd
variable {l : List Cla} {cs : List Cel} {r : Int}
def El (cs:List Cel) (r:Int):Nat:=(Lk cs r).toNat
def Qp (l:List Cla) (cs:List Cel) (r:Int):List Nat:=(List.range (El cs r)).filter (Uf l (D9 cs r))
theorem X2a:Lk cs r=(El cs r:Int):=by
 unfold El Lk
 split<;>simp
theorem X29 {i:Nat} (h:i<cs.length):Qp l cs i=Q2x l (Qu cs i):=by
 have a:T2 cs (i:Int)=true:=D5.2 ⟨i,rfl,h⟩;have e:Qu cs i=cs[i]:=by unfold Qu;rw[List.getD_eq_getElem?_getD,List.getElem?_eq_getElem h];rfl
 unfold Qp Q2x El Lk D9;rw[if_pos a,if_pos a,C9 h,e,Int.toNat_natCast]
def D4 (l:List Cla) (cs:List Cel) (r:Int):List Val:=(Qp l cs r).map fun (i:Nat)=>Gj cs r (i:Int)
theorem Q7K {i:Nat} (h:i<cs.length):D4 l cs i=K1 l cs i:=by
 unfold D4 K1;rw[X29 h];refine List.map_congr_left fun j a=>?_;have e:Qu cs i=cs[i]:=by unfold Qu;rw[List.getD_eq_getElem?_getD,List.getElem?_eq_getElem h];rfl
 have b:j<cs[i].vals.length:=by
  rw[e] at a;unfold Q2x at a;exact List.mem_range.1 (List.mem_filter.1 a).1
 have hp:Jn cs (i:Int) (j:Int)=0:=by
  unfold Jn;rw[if_pos (D5.2 ⟨i,rfl,h⟩),C9 h,if_pos (by omega)]
 unfold Gj;rw[if_pos hp,C9 h,e,Int.toNat_natCast]
theorem X0R {ok:Q8->Bool} (a: ∀c∈cs,GoodC ok l cs c) {i:Nat} (b:i<El cs r) (e:elem (D9 cs r)=[]):i<(W9 l (D9 cs r)).length:=by
 unfold El Lk at b
 split at b
 .rename_i f
  obtain ⟨j,rfl,d⟩:=D5.1 f;rw[C9 d] at b;rw[Ov d] at e⊢
  rcases (a _ (List.getElem_mem d)).is with h | h
  .exact absurd e h
  .rw[<-h.2];omega
 .simp at b
theorem Q2R (p:Nat->Bool) (i:Nat):(List.range (i+1)).filter p=(List.range i).filter p++(if p i=true then [i] else []):=by
 rw[List.range_succ,List.filter_append]
 congr 1
 cases h:p i<;>simp[List.filter,h]
end Go.Hm
namespace Go.Proofs.Y
open Go.Emb Go.RowKit Go.Kd Go.Hm
variable {w w' : World} {K : Value -> World -> Prop} {σ σ' : Q2} {room : Int} {cs : List Cel} {hp tv : Value} {l : List Cla} {v u : Value}
theorem Q3C (hh:O5 σ hp tv room cs) {r:Int}:(D9 cs r).length<=U9:=by
 obtain ⟨a,f,rfl,e,d⟩:=hh;unfold D9
 split
 .rename_i c
  obtain ⟨i,rfl,b⟩:=D5.1 c;rw[C9 b];obtain ⟨_,_,_,h⟩:=Sl.elO d b;exact h
 .exact Nat.zero_le _
set_option maxHeartbeats 1000000 in
theorem X1e {r:Int} (D:X1 w σ) (hh:O5 σ hp tv room cs) (ht:Tab σ tv l) (ok:Ok l) (j: ∀c∈cs,GoodC I1 l cs c) (hN:El cs r<=1000000000000)
 (h: ∀V w' σ',Stp w σ w' σ'->Sl 1 H9 σ' V (ints (Qp l cs r))->K V w'):Q0 P F.c7 [hp,I r] w K:=Q7T (by
 unfold Q1l J5 Y0 X5 V5 X2;have C:=Q3C hh (r:=r);have E:=fun i (O:i<El cs r) f=>X0R (ok:=I1) j O f;unfold Qp at h;refine Ih D hh ?_;refine Q72 D hh ?_;refine Q3q D ht ok.acy ok.len ok.sm fun fv w1 σ1 s hf=>?_;refine Q9k s.sat (hh.lift ⟨s.le⟩) ?_;rw[X2a];generalize El cs r=n at*;generalize D9 cs r=k at*;refine O7 n (fun i x w'=> ∃σ',Stp w1 σ1 w' σ'/\W1 w1.heap.size T.d 1 H9 σ' w' x (ints ((List.range i).filter (Uf l k)))) ⟨σ1,Stp.refl s.sat,W1.nil⟩ fun i x w2 d O o=>?_;obtain ⟨σ2,y,N⟩:=o;refine Z4 ?_;refine Q3 (fun B=>?_) (fun B=>?_)
 .have m:i<n:=by simpa using B
  have ac:((List.range i).filter (Uf l k)).length<=i:=Nat.le_trans (List.length_filter_le _ _) U5
  have Z:ints ((List.range (i+1)).filter (Uf l k))=ints ((List.range i).filter (Uf l k))++(if Uf l k i=true then [(i:Int)] else []):=by
   rw[Q2R];unfold ints;rw[List.map_append]
   congr 1
   split<;>rfl
  refine Xg (fun z w'=> ∃σ',Stp w1 σ1 w' σ'/\W1 w1.heap.size T.d 1 H9 σ' w' z (ints ((List.range (i+1)).filter (Uf l k)))) ?_ (fun z dd t hz=>?_)
  .refine X1H k (by unfold U9 at C;omega) fun t Y=>?_
   have Q:=Stp.of_below y.sat Y;have b:=y.trans Q;have p:=N.up Q;refine Hl (u:=[]) ?_
   have g: ∀q,Uf l k i=q->X0 (.bool q) (buildSlice P T.o 1 [(0,I i)] t fun L w=>V9 P .append [T.o,T.o] T.o [false,false] [x,L] w fun z w'=> ∃σ',Stp w1 σ1 w' σ'/\W1 w1.heap.size T.d 1 H9 σ' w' z (ints ((List.range (i+1)).filter (Uf l k)))) (∃σ',Stp w1 σ1 t σ'/\W1 w1.heap.size T.d 1 H9 σ' t x (ints ((List.range (i+1)).filter (Uf l k)))):=fun q A=>by
    rw[Z,A];cases q with
    | false=>exact L1 ⟨σ2,b,by simpa using p⟩
    | true=>
     refine W7 ?_;refine H0 (R:=H9) (sz:=1) b.sat [I i] [(i:Int)] rfl rfl (by simp;rfl) rfl ⟨⟨rfl,by omega,by omega⟩,trivial⟩ fun v4 w4 σ4 U J=>?_
     refine Hk (b.trans U) (p.up U) J (by rfl) (by simp[ints];omega) (by simp[ints];omega) fun v5 w5 _ X W _=>?_
     exact ⟨σ4,X,by simpa using W⟩
   by_cases f:elem k=[]
   .rw[decide_eq_true f,Bool.not_true]
    have e:=E i m f
    (repeat refine Hd.h ?_)
    refine Q4l (hf.up b) e fun a ha _=>?_
    (repeat refine Hd.h ?_)
    refine ld (i:=2) b.sat ha rfl ?_
    (repeat refine Hd.h ?_)
    have A:Uf l k i= !((W9 l k)[i].tr):=by
     unfold Uf;rw[decide_eq_true f,Bool.not_true,Bool.false_or,List.getD_eq_getElem?_getD,List.getElem?_eq_getElem e];rfl
    exact g _ A
   .rw[decide_eq_false f,Bool.not_false]
    (repeat refine Hd.h ?_)
    exact g true (by unfold Uf;rw[decide_eq_false f];rfl)
  .obtain ⟨M,b,p⟩:=hz
   (try simp only[↓M1,M1,Mb,reduceIte])
   exact Z9 Q4 m ⟨M,b,p⟩
 .have:i=n:=by simp at B;omega
  subst this;obtain ⟨M,b,H,_⟩:=N.keep y;exact h x w2 M (s.trans b) H)
theorem X6W {v:Val} (k:X1 w σ) (hh:O5 σ hp tv room cs) (b: ∀c∈cs,GoodC I1 l cs c) (h: ∀w' σ',Stp w σ w' σ'->K (.bool (Zj cs v).isSome) w'):Q0 P F.cN [hp, .agg [I v.sort,I v.n,S v.s,I v.ref].toArray] w K:=X0A (by
 unfold Q4a J5 Y2 Y0 X5 V5;refine J1 k fun q w1 σ1 a g=>?_;refine Xt ?_;refine ld (i:=0) a.sat g rfl ?_;refine Qr ?_;unfold Zj at h
 by_cases d:v.sort=4
 .rw[decide_eq_true d]
  (repeat refine Hd.h ?_)
  refine ld (i:=3) a.sat g rfl ?_
  (repeat refine Hd.h ?_)
  refine Ih a.sat (hh.lift ⟨a.le⟩) ?_
  (repeat refine Hd.h ?_)
  refine Hl (u:=[]) ?_
  (repeat refine Hd.h ?_)
  have e:(!decide (D9 cs v.ref=[]))=(if v.sort=4/\T2 cs v.ref=true then some v.ref.toNat else none).isSome:=by
   cases j:T2 cs v.ref with
   | false=>
    rw[if_neg U5];unfold D9;rw[j];rfl
   | true=>
    rw[if_pos ⟨d,rfl⟩];obtain ⟨i,e,f⟩:=D5.1 j;rw[e,Ov f];have:=(b _ (List.getElem_mem f)).kd
    rw[decide_eq_false (by
     intro e;rw[e] at this;exact absurd this (by unfold K3;simp;exact ⟨by decide,fun h=>absurd h M5⟩))]
    rfl
  rw[e];exact h _ _ a
 .rw[decide_eq_false d]
  (repeat refine Hd.h ?_)
  rw[if_neg (fun e=>d e.1)] at h;exact h _ _ a)
theorem X2C {L:Value} {r:Int} (e:Nat->World->Q2->Prop) (f: ∀i w σ,e i w σ->X1 w σ) (k: ∀i w σ w' σ',e i w σ->Stp w σ w' σ'->e i w' σ')
 (hh:O5 σ hp tv room cs) (ht:Tab σ tv l) (ok:Ok l) (m: ∀c∈cs,GoodC I1 l cs c) (Z:El cs r<=1000000000000) (M:e 0 w σ)
 (j: ∀i (hi:i<(D4 l cs r).length) w1 σ1,SLe σ σ1->e i w1 σ1->Y8 P L [.agg [I (D4 l cs r)[i].sort,I (D4 l cs r)[i].n,S (D4 l cs r)[i].s,I (D4 l cs r)[i].ref].toArray] w1 fun _ O=> ∃J,SLe σ1 J/\e (i+1) O J)
 (h: ∀w' σ',SLe σ σ'->e (D4 l cs r).length w' σ'->K (.tuple #[]) w'):Q0 P F.cl [hp,I r,L] w K:=Q5r (by
 unfold Ir;simp only[M4,M8];unfold Z5 U4 X7 X2;refine X1e (f _ _ _ M) hh ht ok m Z fun sv w1 σ1 t C=>?_;refine Q6 C ?_;have V:(ints (Qp l cs r)).length=(D4 l cs r).length:=by simp[ints,D4]
 rw[V];have ac:=C.max;refine U8 (D4 l cs r).length (fun i w'=> ∃σ',SLe σ1 σ'/\e i w' σ') ⟨σ1,SLe.refl _,k _ _ _ _ _ M t⟩ fun i O d hi o=>?_;obtain ⟨J,b,y⟩:=o;have N:=f _ _ _ y;refine Z4 ?_;refine Q3 (fun z=>?_) (fun z=>?_)
 .have g:i<(D4 l cs r).length:=by simpa using z
  have B:i<(ints (Qp l cs r)).length:=by omega
  have ab:i<(Qp l cs r).length:=by simpa [D4] using g
  refine N0 (C.lift b) B fun a ds X _ Y=>?_;obtain ⟨rfl,_⟩:=Y;refine Y4 N X rfl ?_;have A:=hh.lift ((⟨t.le⟩:SLe σ σ1).more b);refine X1h N A fun w3 σ3 D=>?_;refine J0 (vs:=[_,_]) rfl ?_;refine J0 (vs:=[_,_]) rfl ?_;have W:Gj cs r (ints (Qp l cs r))[i]=(D4 l cs r)[i]:=by simp[D4,ints]
  rw[W];refine Z0 (sz:=4) D.sat rfl rfl (by simp;exact ⟨rfl,rfl,rfl,rfl⟩) fun q w4 Q E hq=>?_
  refine Z8 E.sat hq rfl ?_;have R:=k _ _ _ _ _ (k _ _ _ _ _ y D) E;have p:SLe σ1 Q:=(b.more ⟨D.le⟩).more ⟨E.le⟩;refine Q9X (j i g w4 Q ((⟨t.le⟩:SLe σ σ1).more p) R) ?_;rintro _ w5 ⟨σ5,H,U⟩
  (try simp only[↓M1,M1,Mb,reduceIte])
  exact Y9 Q4 g ⟨σ5,p.more H,U⟩
 .have:i=(D4 l cs r).length:=by simp at z;omega
  subst this;exact h _ _ ((⟨t.le⟩:SLe σ σ1).more b) y)
end Go.Proofs.Y
namespace Go.Emb
variable {w w' : World} {σ : Q2} {r : Nat}
theorem C7.kp {D:Nat->Prop} {m:List (Int×Value)} (h:C7 σ w r m) (b:Kpt D w w') (a: ¬D r):C7 σ w' r m:=
 ⟨h.1,(b.block r h.lt a).symm▸h.2⟩
theorem C7.upd {b:Nat} {m:List (Int×Value)} (h:C7 σ w r m) (u:Upd w b w') (a:r≠b):C7 σ w' r m:=C7.kp (D:=fun j=>j=b) h (Kpt.of_upd u rfl) a
theorem U0.updG [Rep H9] {B b:Nat} {e:TypeId} {v:Value} {xs:List Int} (h:U0 B e 1 H9 σ w v xs) (u:Upd w b w') (a:v.ownBlock≠some b):U0 B e 1 H9 σ w' v xs:=
 h.kp (D:=fun j=>j=b) (Kpt.of_upd u rfl) fun k c e=>a (e▸c)
end Go.Emb
namespace Go.Proofs.Y
open Go.Emb Go.RowKit Go.Kd Go.Hm
variable {w w' w0 : World} {K : Value -> World -> Prop} {σ σ' σ0 : Q2} {room : Int} {cs : List Cel} {hp tv : Value} {l : List Cla} {v : Value} {bl r : Nat} {xs : List Nat}
structure RSt (w0 : World) (σ0 : Q2) (bl r : Nat) (w : World) (σ : Q2) (xs : List Nat) : Prop where
  stp : Stp w0 σ0 w σ
  gl : w0.heap.size <= bl
  gr : w0.heap.size <= r
  ne : bl ≠ r
  ex : ∃ lv m, U6 σ w bl [lv] /\ U0 w0.heap.size T.d 1 H9 σ w lv (ints xs) /\ (∀ k, lv.ownBlock = some k -> k ≠ bl /\ k ≠ r) /\ C7 σ w r m /\ ∀ n : Int, (I0 m n).isSome = decide (n ∈ ints xs)
theorem RSt.up (R:RSt w0 σ0 bl r w σ xs) (k:Stp w σ w' σ'):RSt w0 σ0 bl r w' σ' xs:=by
 obtain ⟨f,m,a,b,c,d,e⟩:=R.ex;exact ⟨R.stp.trans k,R.gl,R.gr,R.ne,f,m,a.up k,b.up k,c,d.up k,e⟩
theorem Q4n {m:List (Int×Value)} {k n:Int} {v:Value}:I0 (Cv m k v) n=if k=n then some v else I0 m n:=by
 induction m with
 | nil=>simp[Cv,I0]
 | cons p q d=>
  simp only[Cv]
  split
  .rename_i e
   simp only[I0]
   split
   .rfl
   .rename_i b
    rw[if_neg (fun a:p.1=n=>b (e.symm.trans a))]
  .rename_i e
   simp only[I0]
   split
   .rename_i a
    rw[if_neg (fun c=>e (a.trans c.symm))]
   .exact d
set_option maxHeartbeats 1000000 in
theorem X1g {qs qh:Addr} {v:Val} (R:RSt w0 σ0 bl r w σ xs) (ao:J7 σ qs [.map (some r)]) (an:J7 σ qh [hp]) (hh:O5 σ hp tv room cs) (D: ∀c∈cs,GoodC I1 l cs c) (hc:cs.length<=1048576) (hx:xs.length<=1048576)
 (h: ∀w' σ',SLe σ σ'->RSt w0 σ0 bl r w' σ' (Ha xs (Zj cs v))->K (.tuple #[]) w'):
 Q0 P F.ch [.agg [I v.sort,I v.n,S v.s,I v.ref].toArray, .pointer (some qs), .pointer (some qh), .pointer (some ⟨bl,0,none⟩)] w K:=Q4A (by
 unfold Ft;simp only[M8];unfold Y2 Y0;refine J1 R.stp.sat fun q w1 σ1 d hq=>?_;have R1:=R.up d;have o:=ao.up d;have V:=an.up d;obtain ⟨Z,m,h1,h2,M,Y,h5⟩:=R1.ex;refine Y4 d.sat o rfl ?_;refine Xt ?_;refine ld (i:=3) d.sat hq rfl ?_;rw[Q66 (tz:=inferInstance) Ga Y.2 v.ref]
 have hb: ∃x0,(match I0 m v.ref with | some v=>Value.tuple #[v, .bool true] | none=> .tuple #[I 0, .bool false])= .tuple #[x0, .bool (decide (v.ref∈ints xs))]:=by
  have:=h5 v.ref;cases e:I0 m v.ref with
  | none=>rw[e] at this;exact ⟨I 0,by rw[<-this];rfl⟩
  | some x=>rw[e] at this;exact ⟨x,by rw[<-this];rfl⟩
 obtain ⟨x0,ex⟩:=hb;refine Eq.mpr (congrArg (fun z=>ext P z 0 w1 _) ex) ?_;refine J0 (vs:=[_,_]) rfl ?_;refine Eq.mpr (congrArg (fun z=>ext P z 1 w1 _) ex) ?_;refine J0 (vs:=[_,_]) rfl ?_;refine Y4 d.sat V rfl ?_;refine Z8 d.sat hq rfl ?_;refine X6W d.sat (hh.lift ⟨d.le⟩) D fun w2 σ2 C=>?_;have B:=d.trans C;have b:=R1.up C;cases et:Zj cs v with
 | none=>
  rw[et] at h;simp only[Option.isSome_none]
  (repeat refine Hd.h ?_)
  refine L1 ?_;exact h _ _ ⟨B.le⟩ b
 | some n=>
  rw[et] at h;obtain ⟨W,g,be⟩:=X3p et;simp only[Option.isSome_some]
  (repeat refine Hd.h ?_)
  by_cases f:n∈xs
  .rw[decide_eq_true (show v.ref∈ints xs by rw[g];exact List.mem_map.2 ⟨n,f,rfl⟩)]
   (repeat refine Hd.h ?_)
   refine L1 ?_;rw[X4R f] at h;exact h _ _ ⟨B.le⟩ b
  .have al: ¬v.ref∈ints xs:=by
    rw[g];intro e;obtain ⟨y,hy,ey⟩:=List.mem_map.1 e;have:y=n:=by omega
    exact f (this▸hy)
   rw[decide_eq_false al]
   (repeat refine Hd.h ?_)
   refine W7 ?_;rw[X39 f] at h;have U:=hq.up C;obtain ⟨Z,m,h1,h2,M,Y,h5⟩:=b.ex;refine Y4 C.sat (o.up C) rfl ?_;refine Xt ?_;refine ld (i:=3) C.sat U rfl ?_;refine Q3c Ga Y v.ref (I 1) fun w3 u3 ag=>?_;have S3:Stp w0 σ0 w3 σ2:=u3.stp b.stp b.gr Y.1;have E:=h1.upd u3 b.ne;have af:=h2.updG u3 fun e=>(M r e).2 rfl;refine Q3D E rfl ?_;refine Xt ?_;refine ld (i:=3) S3.sat U rfl ?_;rw[g];refine H0 (R:=H9) (sz:=1) S3.sat [I n] [(n:Int)] rfl rfl (by simp;rfl) rfl ⟨⟨rfl,by omega,by omega⟩,trivial⟩ fun v4 w4 σ4 X W=>?_
   have S4:=S3.trans X;have H:=E.up X;have L:=af.up X;have N:=ag.up X;refine Tw S4.sat S4.bel.size L W (by rfl) (by simp;omega) (by simp;omega) fun v5 w5 ak ap A aj=>?_
   have t:Kpt (fun k=>Z.ownBlock=some k) w4 w5:=ak.mono fun k _ e=>e.1
   have O: ∀k,v5.ownBlock=some k->Z.ownBlock=some k\/w4.heap.size<=k:=fun k p=>by
    rcases aj with ⟨a,a9,ea,eb⟩ | ⟨_,Q⟩
    .left;rw[ea];rw[eb] at p;cases a<;>exact p
    .exact .inr (Q k p)
   have N5:Nxt (fun k=>Z.ownBlock=some k) w4 σ4 w5 σ4:=⟨t,SLe.refl _,fun _ _=>rfl,ap⟩;have S5:Stp w0 σ0 w5 σ4:=S4.nx N5 fun k p=>(L.mem p).1;have ae:=H.kp t fun e=>(M bl e).1 rfl;have ah:=C7.kp N t fun e=>(M r e).2 rfl;have a2:=H.lt;have a3:=N.lt;refine Bn (i:=0) ae U5 (by obtain ⟨a,c,rfl,_⟩:=A;rfl) (by obtain ⟨a,c,rfl,_⟩:=A;rfl) fun w6 u6 J=>?_
   have j: ∀k,v5.ownBlock=some k->k≠bl/\k≠r:=fun k p=>by
    rcases O k p with e | e
    .exact M k e
    .exact ⟨by omega,by omega⟩
   refine h w6 σ4 ((⟨B.le⟩:SLe σ σ2).more ⟨X.le⟩) ⟨u6.stp S5 b.gl J.1,b.gl,b.gr,b.ne,v5,Cv m v.ref (I 1),J,?_,j,ah.upd u6 fun e=>b.ne e.symm,fun z=>?_⟩
   .have:=A.updG u6 fun e=>(j bl e).1 rfl
    simpa using this
   .rw[Q4n,g]
    have:=h5 z
    by_cases e:(n:Int)=z
    .rw[if_pos e];simp[<-e]
    .rw[if_neg e,this]
     refine decide_eq_decide.2 ?_;simp only[List.map_append,List.map_cons,List.map_nil,List.mem_append,List.mem_singleton];exact ⟨.inl,fun h=>h.resolve_right fun e2=>e e2.symm⟩)
end Go.Proofs.Y
namespace Go.Emb
open Go.RowKit Go.Hm
variable {P : Program} {w w' : World} {K : Value -> World -> Prop} {σ : Q2}
def Qy (_:Q2) (x:UInt8) (cs:List Value):Prop:=cs=[.int .u8 (x.toNat:Int)]
instance:Rep Qy:=⟨fun _ h=>h,fun h u hu=>by rw[h] at hu;simp at hu;rw[hu];rfl⟩
def X2m (_:Q2) (x:Nat) (cs:List Value):Prop:=cs=[.int .u64 (x:Int)]/\x<18446744073709551616
instance:Rep X2m:=⟨fun _ h=>h,fun h u hu=>by rw[h.1] at hu;simp at hu;rw[hu];rfl⟩
def Hn (_:Q2) (x:Kd.Q8×Kd.Q8) (cs:List Value):Prop:=cs=[S x.1,S x.2]/\x.1.length<=U9/\x.2.length<=U9
instance:Rep Hn:=⟨fun _ h=>h,fun h u hu=>by rw[h.1] at hu;simp at hu;rcases hu with rfl | rfl<;>rfl⟩
theorem Q9S (s:List UInt8):byteCells ⟨s.toArray⟩=s.map fun x=>Value.int .u8 (x.toNat:Int):=by
 simp[byteCells]
theorem X68 {t g A:TypeId} {B:Nat} {e:TypeId} {v:Value} {xs s:List UInt8} {c:Nat} {z:Value} {cs:List Bool} [ts:TS P t e] [tz:TZ P e 1 c z] (p:P.underlying g=some .string) (o:X1 w σ) (hB:B<=w.heap.size) (i:U0 B e 1 Qy σ w v xs) (r:(z.cells.size==1&&decide (0<1))=true)
 (l:(xs.length+s.length)*c<=140737488355328) (n:xs.length+s.length<=1000000000000)
 (h: ∀f w',Kpt (fun k=>v.ownBlock=some k/\B<=k/\σ k=none) w w'->X1 w' σ->U0 B e 1 Qy σ w' f (xs++s)->((∃a d,v= .slice a xs.length d/\f= .slice a (xs.length+s.length) d)\/(Below w.heap.size w w'/\ ∀k,f.ownBlock=some k->w.heap.size<=k))->K f w'):V9 P .append [t,g] A cs [v,S s] w K:=by
 have b:=Src.ofString w p (⟨s.toArray⟩:ByteArray);rw[Q9S,show (⟨s.toArray⟩:ByteArray).size=s.length by simp[ByteArray.size]] at b
 refine X1Y o hB i (u:=S s) (ys:=s) (news:=s.map fun x=>Value.int .u8 (x.toNat:Int)) b (fun j y q=>?_) r l n h;obtain ⟨m,rfl⟩:=List.getElem?_eq_some_iff.1 q
 show _=_
 rw[Nat.mul_one,List.drop_eq_getElem_cons (by simpa using m)]
 simp
theorem X11 {s d e:TypeId} {v:Value} {xs:List UInt8} [ts:TS P s e] (f:P.underlying e=some (.int .u8)) (c:P.underlying d=some .string) (o:X1 w σ) (p:Sl 1 Qy σ v xs) (h:K (S xs) w):conv P s d v w K:=by
 obtain ⟨a,b,rfl,r,t,l,m⟩:=p;unfold Emb.conv;cases a with
 | none=>
  have q:xs=[]:=List.eq_nil_of_length_eq_zero (by have:=l rfl;omega)
  subst q;rw[Y3 (run_convert_bytes_nil w s e ts.h f _ _ d c)];exact h
 | some a=>
  rw[Y3 (run_convert_bytes_back w s d e a b xs ts.h f c fun j n=>?_)]
  .exact h
  .obtain ⟨cs,g,_,k⟩:=(m a rfl).2 j xs[j] (by simp[n])
   have:=g.cell o (i:=0) (v:= .int .u8 (xs[j].toNat:Int)) (by rw[k];rfl)
   rwa [Nat.mul_one,add_zero] at this
end Go.Emb
namespace Go.Hm
set_option maxRecDepth 100000 in
theorem X6B: ∀y:Nat,y<256->y ||| 128=y % 128+128:=by decide+kernel
theorem Q5X {α β:Type} {f:α->List β} {xs:List α} {i:Nat}:((xs.take i).flatMap f).length<=(xs.flatMap f).length:=by
 have e:xs.flatMap f=(xs.take i).flatMap f++(xs.drop i).flatMap f:=by rw[<-List.flatMap_append,List.take_append_drop]
 rw[e,List.length_append];exact Nat.le_add_right _ _
theorem X5g {a:Nat} (h:a<18446744073709551616):a ^^^ 18446744073709551615=18446744073709551615-a:=by
 have b:(BitVec.ofNat 64 a ^^^ BitVec.allOnes 64).toNat=a ^^^ 18446744073709551615:=by
  rw[BitVec.toNat_xor,BitVec.toNat_ofNat,BitVec.toNat_allOnes]
  congr 1
  exact Nat.mod_eq_of_lt h
 rw[BitVec.xor_allOnes,BitVec.toNat_not,BitVec.toNat_ofNat,Nat.mod_eq_of_lt (show a<2 ^ 64 from h)] at b
 omega
end Go.Hm
namespace Go.Proofs.Y
open Go.Emb Go.RowKit Go.Kd Go.Hm
variable {w w' w0 : World} {K : Value -> World -> Prop} {σ σ' σ0 : Q2}
theorem Q2C:P.underlying T.a3=some (.int .u64):=by kernel_rfl
theorem X0Y:P.underlying T.t=some (.int .u8):=by kernel_rfl
theorem Q6O:P.underlying T.aa=some (.int .i64):=by kernel_rfl
theorem Q06:P.underlying T.b=some .string:=by kernel_rfl
theorem Q4U {n:Nat} (h:K (.int .u8 ((n % 256:Nat):Int)) w):conv P T.a3 T.t (.int .u64 (n:Int)) w K:=by
 rw[Xm Q2C X0Y,show IntKind.u8.wrap (n:Int)=((n % 256:Nat):Int) by simp[IntKind.wrap,IntKind.bits,IntKind.signed]]
 exact h
theorem Pd {n:Int} (h:K (.int .u64 ((Wu n:Nat):Int)) w):conv P T.d T.a3 (I n) w K:=by
 rw[Xm Ga Q2C,show IntKind.u64.wrap n=((Wu n:Nat):Int) by rw[IntKind.wrap_u64];unfold Wu;omega]
 exact h
theorem X6O {t:TypeId} {b c:Operand} {y:Nat} (a:y<256) (h:K (.int .u8 ((y % 128+128:Nat):Int)) w):Y5 P .or t b c (.int .u8 (y:Int)) (.int .u8 128) w K:=by
 have e:bits .or .u8 (y:Int) 128=((y % 128+128:Nat):Int):=by
  have:=u8_or_nat y 128 a M5;rw[X6B y a] at this;exact this
 unfold Y5;rw[Y3 (v:= .int .u8 ((y % 128+128:Nat):Int)) (w':=w) (by rw[<-e];simp[eqGuard,Go.binOp,Op.intBits,bits])]
 exact h
theorem X6i {t:TypeId} {a b:Operand} {n:Nat} (h:K (.int .u64 ((n / 128:Nat):Int)) w):Y5 P .shr t a b (.int .u64 (n:Int)) (.int .u64 7) w K:=by
 unfold Y5;rw[Y3 (v:= .int .u64 ((n / 128:Nat):Int)) (w':=w) (by simp[eqGuard,Go.binOp,Op.shift,IntKind.bits];rw[Int.fdiv_eq_ediv_of_nonneg _ M5])]
 exact h
theorem X6p {n:Int} (b:P0 n) (h:K (.int .u64 ((Zb n:Nat):Int)) w):Q0 P F.cR [I n] w K:=X0G (by
 obtain ⟨f,g⟩:=b;unfold Q4g X2;unfold Y5;rw[Y3 (v:=I (IntKind.i64.wrap (n*2))) (w':=w) (by simp[eqGuard,Go.binOp,Op.shift,IntKind.bits])]
 rw[Xm Q6O Q2C]
 rw[Y3 (v:=I (if 0<=n then 0 else-1)) (w':=w) (by
  simp[eqGuard,Go.binOp,Op.shift,IntKind.bits]
  rw[Int.fdiv_eq_ediv_of_nonneg _ M5]
  split<;>omega)]
 rw[Xm Q6O Q2C]
 have e: ∃a:Nat,IntKind.u64.wrap (IntKind.i64.wrap (n*2))=(a:Int)/\a<18446744073709551616/\(a:Int)=(n*2) % 18446744073709551616:=by
  refine ⟨((n*2) % 18446744073709551616).toNat,?_,by omega,by omega⟩
  rw[IntKind.wrap_u64,IntKind.wrap_i64];omega
 obtain ⟨a,d,c,i⟩:=e;rw[d]
 have key:(.int .u64 ((Zb n:Nat):Int):Value)= .int .u64 (bits .xor .u64 (a:Int) (IntKind.u64.wrap (if 0<=n then 0 else-1))):=by
  by_cases b:0<=n
  .rw[if_pos b,show IntKind.u64.wrap 0=((0:Nat):Int) from rfl,bits_xor_u64_nat a 0 c M5,Nat.xor_zero]
   unfold Zb;rw[if_pos b]
   congr 1;omega
  .rw[if_neg b,show IntKind.u64.wrap (-1)=((18446744073709551615:Nat):Int) from rfl,bits_xor_u64_nat a _ c M5,X5g c]
   unfold Zb;rw[if_neg b]
   congr 1;omega
 rw[Y3 (v:= .int .u64 ((Zb n:Nat):Int)) (w':=w) (by rw[key];simp[eqGuard,Go.binOp,Op.intBits,bits])]
 exact h)
theorem X6o {n:Nat} (C:X1 w σ) (B:n<18446744073709551616) (h: ∀b w' σ',Stp w σ w' σ'->Sl 1 Qy σ' b (U3 n)->K b w'):Q0 P F.cQ [.int .u64 (n:Int)] w K:=X0F (by
 unfold Q4f;refine Uc (fun x w'=> ∃(m:Nat) (p:Q8) (σ':Q2),x.1= .int .u64 (m:Int)/\m<18446744073709551616/\p.length<=20-(U3 m).length/\Stp w σ w' σ'/\W1 w.heap.size T.t 1 Qy σ' w' x.2 p/\p++U3 m=U3 n) (fun x _=>match x.1 with | .int _ m=>m.toNat | _=>0) ⟨n,[],σ,rfl,B,by simp,Stp.refl C,W1.nil,rfl⟩ ?_
 rintro ⟨x,v⟩ d w1 ⟨m,p,σ1,q,A,l,j,c,e⟩;simp only at q c;subst q;refine Yg ?_;have k:=C6 A;have z:=Q9L (v:=m);refine Q3 (fun i=>?_) (fun i=>?_)
 .have a:128<=m:=by have:=of_decide_eq_true i;omega
  refine Q4U ?_;refine X6O Q4 ?_;rw[show m % 256 % 128=m % 128 by omega]
  rw[Q5B a] at e l k;simp only[List.length_cons] at l k;refine Za (x:=UInt8.ofNat (m % 128+128)) j c (by simp[Qy,Value.cells];omega) rfl (by rfl) (by rfl) Q4 Q4 fun s b r t u g f _=>?_
  refine X6i ?_;exact ⟨⟨m / 128,_,t,rfl,by omega,by simp;omega,g,f,by simpa using e⟩,by simp;omega⟩
 .have a:m<128:=by have:=of_decide_eq_false i;omega
  refine Q4U ?_;rw[show m % 256=m by omega]
  rw[Q5C a] at e;refine Za (x:=UInt8.ofNat m) j c (by simp[Qy,Value.cells];omega) rfl (by rfl) (by rfl) Q4 Q4 fun s b r t u g f _=>?_
  obtain ⟨D,y,o,_⟩:=f.keep g;rw[e] at o;exact h b r D y o)
structure WrS (w0 : World) (σ0 : Q2) (bw : Nat) (w : World) (σ : Q2) (xs : Q8) : Prop where
  stp : Stp w0 σ0 w σ
  ge : w0.heap.size <= bw
  ex : ∃ lv, U6 σ w bw [lv] /\ U0 w0.heap.size T.t 1 Qy σ w lv xs /\ ∀ k, lv.ownBlock = some k -> k ≠ bw
variable {bw : Nat} {xs ys s : Q8} {v : Value}
theorem WrS.up (R:WrS w0 σ0 bw w σ xs) (k:Stp w σ w' σ'):WrS w0 σ0 bw w' σ' xs:=by
 obtain ⟨d,a,b,c⟩:=R.ex;exact ⟨R.stp.trans k,R.ge,d,a.up k,b.up k,c⟩
theorem WrS.end (R:WrS w0 σ0 bw w σ xs) {d n:Value} {ys:Q8} (C:U6 σ w bw [d]) (O:U0 w0.heap.size T.t 1 Qy σ w d xs) (E: ∀k,d.ownBlock=some k->k≠bw) {f:World} (y:Kpt (fun k=>d.ownBlock=some k/\w0.heap.size<=k/\σ k=none) w f) (z:X1 f σ) (m:U0 w0.heap.size T.t 1 Qy σ f n (xs++ys)) (u:(∃a l,d= .slice a xs.length l/\n= .slice a (xs.length+ys.length) l)\/(Below w.heap.size w f/\ ∀k,n.ownBlock=some k->w.heap.size<=k)) {K:World->Prop}
 (h: ∀w',WrS w0 σ0 bw w' σ (xs++ys)->K w'):nilCheck P (.pointer (some ⟨bw,0,none⟩)) f fun A w=>fieldAddr P T.a4 A 0 w fun B w=>M3 P T.l B n w fun _u w=>K w:=by
 have q:Kpt (fun k=>d.ownBlock=some k) w f:=y.mono fun k _ e=>e.1
 have p: ∀k,n.ownBlock=some k->d.ownBlock=some k\/w.heap.size<=k:=fun k b=>by
  rcases u with ⟨a,l,M,N⟩ | ⟨_,r⟩
  .left;rw[M];rw[N] at b;cases a<;>exact b
  .exact .inr (r k b)
 have J:Nxt (fun k=>d.ownBlock=some k) w σ f σ:=⟨q,SLe.refl _,fun _ _=>rfl,z⟩;have L:Stp w0 σ0 f σ:=R.stp.nx J fun k b=>(O.mem b).1;have t:U6 σ f bw [d]:=C.kp q fun e=>E bw e rfl;have Q:=C.lt;refine Q4S ?_;refine Xt ?_;refine Bn (i:=0) t U5 (by obtain ⟨a,c,rfl,_⟩:=m;rfl) (by obtain ⟨a,c,rfl,_⟩:=m;rfl) fun U H o=>?_
 have g: ∀k,n.ownBlock=some k->k≠bw:=fun k b=>by
  rcases p k b with e | e
  .exact E k e
  .omega
 exact h U ⟨H.stp L R.ge o.1,R.ge,n,o,m.kp (D:=fun j=>j=bw) (Kpt.of_upd H rfl) fun k b e=>g k b e,g⟩
theorem WrS.put (R:WrS w0 σ0 bw w σ xs) {a u:Value} (l:U6 σ w bw [a]) (j:U0 w0.heap.size T.t 1 Qy σ w a xs) (m: ∀k,a.ownBlock=some k->k≠bw) (o:Sl 1 Qy σ u ys) (n:(xs++ys).length<=1000000000) {K:World->Prop}
 (h: ∀w',WrS w0 σ0 bw w' σ (xs++ys)->K w'):V9 P .append [T.l,T.l] T.l [false,false] [a,u] w fun f w=>nilCheck P (.pointer (some ⟨bw,0,none⟩)) w fun g w=>fieldAddr P T.a4 g 0 w fun i w=>M3 P T.l i f w fun _u w=>K w:=by
 rw[List.length_append] at n;exact Tw R.stp.sat R.stp.bel.size j o (by rfl) Q4 Q4 fun p q c e d b=>R.end l j m c e d b h
theorem WrS.putS (R:WrS w0 σ0 bw w σ xs) {a:Value} (l:U6 σ w bw [a]) (j:U0 w0.heap.size T.t 1 Qy σ w a xs) (m: ∀k,a.ownBlock=some k->k≠bw) (n:(xs++s).length<=1000000000) {K:World->Prop}
 (h: ∀w',WrS w0 σ0 bw w' σ (xs++s)->K w'):V9 P .append [T.l,T.b] T.l [false,false] [a,S s] w fun f w=>nilCheck P (.pointer (some ⟨bw,0,none⟩)) w fun g w=>fieldAddr P T.a4 g 0 w fun i w=>M3 P T.l i f w fun _u w=>K w:=by
 rw[List.length_append] at n;exact X68 Q06 R.stp.sat R.stp.bel.size j (by rfl) Q4 Q4 fun o p c e d b=>R.end l j m c e d b h
set_option maxHeartbeats 1000000 in
theorem X6n {a:List Nat} (R:WrS w0 σ0 bw w σ xs) (o:Sl 1 X2m σ v a) (c:(xs++a.flatMap U3).length<=1000000000) (h: ∀w' σ',SLe σ σ'->WrS w0 σ0 bw w' σ' (xs++a.flatMap U3)->K (.tuple #[]) w'):Q0 P F.s [.pointer (some ⟨bw,0,none⟩),v] w K:=Q0H (by
 unfold Dt;simp only[Z1,Y1];unfold Z5 U4 X7 X2;refine Q6 o ?_;refine U8 a.length (fun i w'=> ∃σ',SLe σ σ'/\WrS w0 σ0 bw w' σ' (xs++(a.take i).flatMap U3)) ⟨σ,SLe.refl _,by simpa using R⟩ fun i w1 d Q j=>?_
 obtain ⟨σ1,f,g⟩:=j;refine Z4 ?_;refine Q3 (fun n=>?_) (fun n=>?_)
 .have b:i<a.length:=by simpa using n
  have k:=o.lift f;obtain ⟨O,J,U,L,M⟩:=k.el b;subst L;refine U2 k b ?_;refine Y4 g.stp.sat J rfl ?_;obtain ⟨H,y,A,B⟩:=g.ex
  have r:xs++(a.take (i+1)).flatMap U3=(xs++(a.take i).flatMap U3)++U3 a[i]:=by
   rw[List.take_add_one,List.getElem?_eq_getElem b,Option.toList_some,List.flatMap_append]
   simp
  have m:((xs++(a.take i).flatMap U3)++U3 a[i]).length<=1000000000:=by
   rw[<-r];refine Nat.le_trans ?_ c;rw[List.length_append,List.length_append];exact Nat.add_le_add_left Q5X _
  refine L9 g.stp.sat ?_;refine J9 (V:= .pointer (some ⟨bw,0,none⟩)) (fun w c=>Q4S (J3 rfl)) ?_;refine J9 (V:= .pointer (some ((⟨bw,0,none⟩:Addr).add 0))) (fun t w c e=>by subst e;exact Xt (J3 rfl)) ?_
  refine J9 (V:=H) (fun t w c e=>by subst e;exact Fw (i:=0) (y.up c.stp) rfl (J3 rfl)) ?_
  refine Hi (w:=w1) (σ:=σ1) (Φ:=fun σ' z=>Sl 1 Qy σ' z (U3 a[i])) (fun w c=>X6o c.sat M fun z w' σ' D p=>Pj c D p) ?_;rintro _ _ _ u W C rfl rfl rfl ⟨N,l,E⟩;refine (g.up l).put (y.up l) (A.up l) B E m fun X q=>?_;rw[<-r] at q
  (try simp only[↓M1,M1,Mb,reduceIte])
  exact Y9 o.max b ⟨N,f.more ⟨l.le⟩,q⟩
 .have e:i=a.length:=by simp at n;omega
  subst e;rw[List.take_length] at g;exact h _ _ f g)
end Go.Proofs.Y
namespace Go.Hm
open Go.Kd
theorem Xd {α:Type} {f:α->Q8} {xs:Q8} {a:List α} {i:Nat} (b:i<a.length):xs++(a.take (i+1)).flatMap f=(xs++(a.take i).flatMap f)++f a[i]:=by
 rw[List.take_add_one,List.getElem?_eq_getElem b,Option.toList_some,List.flatMap_append]
 simp
theorem Me {α:Type} {f:α->Q8} {xs:Q8} {a:List α} {i:Nat} (c:i<a.length) {N:Nat} (b:(xs++a.flatMap f).length<=N):((xs++(a.take i).flatMap f)++f a[i]).length<=N:=by
 rw[<-Xd c];refine Nat.le_trans ?_ b;rw[List.length_append,List.length_append];exact Nat.add_le_add_left Q5X _
theorem Q2F {n:Int} (h: -9223372036854775808<=n/\n<=9223372036854775807):Zb n<18446744073709551616:=by
 unfold Zb
 split<;>omega
end Go.Hm
namespace Go.Proofs.Y
open Go.Emb Go.RowKit Go.Kd Go.Hm
variable {w w' w0 : World} {K : Value -> World -> Prop} {σ σ' σ0 : Q2} {bw : Nat} {xs ys s : Q8} {v : Value}
theorem Q16 {n:Nat} {A:Value->World->Prop} (R:WrS w0 σ0 bw w σ xs) (f:n<18446744073709551616) (e:(xs++U3 n).length<=1000000000) (h: ∀w' σ',SLe σ σ'->WrS w0 σ0 bw w' σ' (xs++U3 n)->A (.tuple #[]) w'):buildSlice P T.ai 1 [(0, .int .u64 (n:Int))] w fun g w=>Q0 P F.s [.pointer (some ⟨bw,0,none⟩),g] w fun i w=>A i w:=by
 refine H0 (R:=X2m) (sz:=1) R.stp.sat [.int .u64 (n:Int)] [n] rfl rfl (by simp;rfl) rfl ⟨⟨rfl,f⟩,trivial⟩ fun s w1 σ1 d a=>?_
 refine X6n (R.up d) a (by simpa using e) fun j k b c=>?_
 rw[show xs++[n].flatMap U3=xs++U3 n by simp] at c
 exact h j k ((⟨d.le⟩:SLe σ σ1).more b) c
theorem X5o {c:List Int} (R:WrS w0 σ0 bw w σ xs) (m:Sl 1 H9 σ v c) (r:(xs++c.flatMap fun n=>U3 (Zb n)).length<=1000000000) (h: ∀w' σ',SLe σ σ'->WrS w0 σ0 bw w' σ' (xs++c.flatMap fun n=>U3 (Zb n))->K (.tuple #[]) w'):Q0 P F.bt [.pointer (some ⟨bw,0,none⟩),v] w K:=Q0G (by
 unfold Ds Z5 U4 X7 X2;refine Q6 m ?_;refine U8 c.length (fun i w'=> ∃σ',SLe σ σ'/\WrS w0 σ0 bw w' σ' (xs++(c.take i).flatMap fun n=>U3 (Zb n))) ⟨σ,SLe.refl _,by simpa using R⟩ fun i w1 d A g=>?_
 obtain ⟨σ1,b,k⟩:=g;refine Z4 ?_;refine Q3 (fun l=>?_) (fun l=>?_)
 .have a:i<c.length:=by simpa using l
  have j:=m.lift b;obtain ⟨z,t,B,u,q⟩:=j.el a;subst u;refine U2 j a ?_;refine Y4 k.stp.sat t rfl ?_;refine X6p q ?_;refine Q16 k (Q2F q) (Me (f:=fun n=>U3 (Zb n)) a r) fun C y o p=>?_;rw[<-Xd (f:=fun n=>U3 (Zb n)) a] at p
  (try simp only[↓M1,M1,Mb,reduceIte])
  exact Y9 m.max a ⟨y,b.more o,p⟩
 .have e:i=c.length:=by simp at l;omega
  subst e;rw[List.take_length] at k;exact h _ _ b k)
theorem X44 {a:List Bool} (R:WrS w0 σ0 bw w σ xs) (o:Sl 1 Q3S σ v a) (A:(xs++a.flatMap Zn).length<=1000000000) (h: ∀w' σ',SLe σ σ'->WrS w0 σ0 bw w' σ' (xs++a.flatMap Zn)->K (.tuple #[]) w'):Q0 P F.bg [.pointer (some ⟨bw,0,none⟩),v] w K:=Ad (by
 unfold Nt Y2 Z5 U4 X7 X2;refine Q6 o ?_;refine U8 a.length (fun i w'=> ∃σ',SLe σ σ'/\WrS w0 σ0 bw w' σ' (xs++(a.take i).flatMap Zn)) ⟨σ,SLe.refl _,by simpa using R⟩ fun i w1 d L j=>?_
 obtain ⟨σ1,c,g⟩:=j;refine Z4 ?_;refine Q3 (fun m=>?_) (fun m=>?_)
 .have b:i<a.length:=by simpa using m
  have k:=o.lift c;obtain ⟨H,C,N,D⟩:=k.el b;subst D;refine U2 k b ?_;refine Y4 g.stp.sat C rfl ?_;refine Xg (fun z w'=>z= .int .u8 (((if a[i] then 1 else 0:UInt8).toNat:Nat):Int)/\w'=w1) ?_ (fun z J O B=>?_)
  .cases a[i] with
   | true=>exact W7 ⟨rfl,rfl⟩
   | false=>exact L1 ⟨rfl,rfl⟩
  obtain ⟨rfl,rfl⟩:=B;obtain ⟨M,q,u,y⟩:=g.ex;refine Q4S ?_;refine Xt ?_;refine Fw (i:=0) q rfl ?_;refine H0 (R:=Qy) (sz:=1) g.stp.sat [.int .u8 (((if a[i] then 1 else 0:UInt8).toNat:Nat):Int)] [if a[i] then 1 else 0] rfl rfl (by simp;rfl) rfl ⟨rfl,trivial⟩ fun s Q r l n=>?_
  refine (g.up l).put (q.up l) (u.up l) y n (Me (f:=Zn) b A) fun E t=>?_;have p:WrS w0 σ0 bw E r ((xs++(a.take i).flatMap Zn)++Zn a[i]):=t;rw[<-Xd (f:=Zn) b] at p
  (try simp only[↓M1,M1,Mb,reduceIte])
  exact Y9 o.max b ⟨r,c.more ⟨l.le⟩,p⟩
 .have e:i=a.length:=by simp at m;omega
  subst e;rw[List.take_length] at g;exact h _ _ c g)
theorem Q9j {a:List Q8} (R:WrS w0 σ0 bw w σ xs) (p:Sl 1 V3 σ v a) (C:(xs++a.flatMap W3).length<=1000000000) (h: ∀w' σ',SLe σ σ'->WrS w0 σ0 bw w' σ' (xs++a.flatMap W3)->K (.tuple #[]) w'):Q0 P F.aC [.pointer (some ⟨bw,0,none⟩),v] w K:=Ae (by
 unfold Nu Y2 Z5 U4 X7 X2;refine Q6 p ?_;refine U8 a.length (fun i w'=> ∃σ',SLe σ σ'/\WrS w0 σ0 bw w' σ' (xs++(a.take i).flatMap W3)) ⟨σ,SLe.refl _,by simpa using R⟩ fun i w1 d J k=>?_
 obtain ⟨σ1,j,n⟩:=k;refine Z4 ?_;refine Q3 (fun o=>?_) (fun o=>?_)
 .have b:i<a.length:=by simpa using o
  have m:=p.lift j;obtain ⟨D,E⟩:=m.elS b;refine U2 m b ?_;refine Y4 n.stp.sat D rfl ?_;refine Pc Q06 ?_;refine Pd ?_;have c:a[i].length<18446744073709551616:=by unfold U9 at E;omega
  rw[Q3R c];have l:=Me (f:=W3) b C
  have g:(((xs++(a.take i).flatMap W3)++U3 a[i].length)++a[i]).length<=1000000000:=by
   unfold W3 at l⊢
   simpa [List.append_assoc] using l
  refine Q16 n c (by rw[List.length_append] at g;omega) fun M z q r=>?_
  obtain ⟨L,y,A,B⟩:=r.ex;refine Q4S ?_;refine Xt ?_;refine Fw (i:=0) y rfl ?_;refine r.putS y A B g fun H t=>?_
  have u:WrS w0 σ0 bw H z ((xs++(a.take i).flatMap W3)++W3 a[i]):=by
   unfold W3 at t⊢
   simpa [List.append_assoc] using t
  rw[<-Xd (f:=W3) b] at u
  (try simp only[↓M1,M1,Mb,reduceIte])
  exact Y9 p.max b ⟨z,j.more q,u⟩
 .have e:i=a.length:=by simp at o;omega
  subst e;rw[List.take_length] at n;exact h _ _ j n)
theorem X4b (e:X1 w σ) (h: ∀bw w' σ',Stp w σ w' σ'->WrS w σ bw w' σ' []->K (.pointer (some ⟨bw,0,none⟩)) w'):Q0 P F.cE [] w K:=Q82 (by
 unfold Q1u;refine W2 (cells:= #[.slice none 0 0]) X3 ?_;refine Q2c (cs:=[.slice none 0 0]) e fun b w1 σ1 c a d=>?_;exact h b w1 σ1 a ⟨a,c,_,d,U0.of_acc W1.nil,nofun⟩)
theorem X2s (e:X1 w σ) (f:Sl 1 Qy σ v xs) (y:xs.length<=1000000000)
 (h: ∀g w',Stp w σ w' σ->U0 w.heap.size T.t 1 Qy σ w' g xs->K g w'):Q0 P F.aE [v] w K:=Rt (by
 unfold Ji;have c:=f;obtain ⟨a,i,rfl,q,r,j,t⟩:=f;refine Ik rfl ?_;refine Q3 (fun d=>?_) (fun d=>?_)
 .have:a=none:=by simpa using d
  have p:=j this;have n:xs=[]:=List.eq_nil_of_length_eq_zero Q4;subst n;exact h _ w (Stp.refl e) (U0.of_acc W1.nil)
 .refine Yh (R:=Qy) (sz:=1) (Stp.refl e) [] [] rfl rfl U5 (by rfl) trivial fun z w1 m l _=>?_
  refine app m l c (by rfl) (by simp only[List.length_nil];omega) (by simp only[List.length_nil];omega) fun A o u k b _=>?_
  exact h _ o k (U0.of_acc b))
theorem X42 (R:WrS w0 σ0 bw w σ xs) (g:xs.length<=1000000000) (h: ∀d w' σ',Stp w0 σ0 w' σ'->U0 w0.heap.size T.t 1 Qy σ' w' d xs->K d w'):Q0 P F.b6 [.pointer (some ⟨bw,0,none⟩)] w K:=Kj (by
 unfold Mj Y2;obtain ⟨p,e,f,o⟩:=R.ex;refine Q4S ?_;refine Xt ?_;refine Fw (i:=0) e rfl ?_;obtain ⟨n,a,b,k,q⟩:=f.keep R.stp;refine X2s a.sat b g fun l m j c=>?_;exact h l m n (a.trans j) (c.mono a.bel.size))
theorem X6L {r:Nat} {a:List (Int×Value)} {k n:Int} (b:C7 σ w r a) (e:(I0 a k).getD (I 0)=I n) (h:K (I n) w):lookup P T.a8 (.map (some r)) (I k) false w K:=by
 rw[X1M (tz:=inferInstance) Ga b.2 k,e];exact h
set_option maxHeartbeats 1000000 in
theorem Q9m {x:Val} {r:Nat} {D:List (Int×Value)} {num:Int->Int} (R:WrS w0 σ0 bw w σ xs) (M:C7 σ0 w0 r D) (o: ∀n,(I0 D n).getD (I 0)=I (num n)) (N:G1 σ x [I x.sort,I x.n,S x.s,I x.ref]) (b:(xs++S1 num x).length<=1000000000) (h: ∀w' σ',SLe σ σ'->WrS w0 σ0 bw w' σ' (xs++S1 num x)->K (.tuple #[]) w'):
 Q0 P F.bF [.pointer (some ⟨bw,0,none⟩), .agg [I x.sort,I x.n,S x.s,I x.ref].toArray, .map (some r)] w K:=Q84 (by
 obtain ⟨_,U,J,L,V⟩:=N;unfold Q1w Y2 X5;unfold S1 at b h;refine J1 R.stp.sat fun q w1 σ1 C B=>?_;have A:=R.up C;refine Xt ?_;refine ld (i:=0) A.stp.sat B rfl ?_;refine Pd ?_;rw[<-List.append_assoc] at b;refine Q16 A (Su _) (by rw[List.length_append] at b;omega) fun O Q p j=>?_
 have d:=B.lift p;have a:=(⟨C.le⟩:SLe σ σ1).more p;have g:=j.stp.sat;have W: ∀{ys:Q8},((xs++U3 (Wu x.sort))++ys).length<=1000000000->xs++(U3 (Wu x.sort)++ys)=(xs++U3 (Wu x.sort))++ys:=fun _=>(List.append_assoc ..).symm;refine Xt ?_;refine ld (i:=0) g d rfl ?_;refine Qr ?_
 by_cases t:x.sort=1
 .rw[decide_eq_true t]
  rw[if_pos t] at b h;refine W7 ?_;refine Xt ?_;refine ld (i:=1) g d rfl ?_;refine H0 (R:=H9) (sz:=1) g [I x.n] [x.n] rfl rfl (by simp;rfl) rfl ⟨⟨rfl,J⟩,trivial⟩ fun s E H f e=>?_
  refine X5o (j.up f) e (by simpa using b) fun l m c k=>?_
  refine h l m ((a.more ⟨f.le⟩).more c) ?_
  simpa using k
 rw[decide_eq_false t];rw[if_neg t] at b h;refine L1 ?_;refine Qr ?_
 by_cases u:x.sort=2
 .rw[decide_eq_true u]
  rw[if_pos u] at b h;refine W7 ?_;refine Xt ?_;refine ld (i:=1) g d rfl ?_;refine Qr ?_;refine H0 (R:=Q3S) (sz:=1) g [.bool (decide (x.n=1))] [decide (x.n=1)] rfl rfl (by simp;rfl) rfl ⟨rfl,trivial⟩ fun s E H f e=>?_
  refine X44 (j.up f) e (by simpa using b) fun l m c k=>?_
  refine h l m ((a.more ⟨f.le⟩).more c) ?_
  simpa using k
 rw[decide_eq_false u];rw[if_neg u] at b h;refine L1 ?_;refine Qr ?_
 by_cases y:x.sort=3
 .rw[decide_eq_true y]
  rw[if_pos y] at b h;refine W7 ?_;refine Xt ?_;refine ld (i:=2) g d rfl ?_;refine H0 (R:=V3) (sz:=1) g [S x.s] [x.s] rfl rfl (by simp;rfl) rfl ⟨⟨rfl,L⟩,trivial⟩ fun s E H f e=>?_
  refine Q9j (j.up f) e (by simpa using b) fun l m c k=>?_
  refine h l m ((a.more ⟨f.le⟩).more c) ?_
  simpa using k
 rw[decide_eq_false y];rw[if_neg y] at b h;refine L1 ?_;refine Qr ?_
 by_cases z:x.sort=4
 .rw[decide_eq_true z]
  rw[if_pos z] at b h;refine W7 ?_;refine Xt ?_;refine ld (i:=3) g d rfl ?_;refine X6L (C7.up M j.stp) (o x.ref) ?_;refine Pd ?_;refine Q16 j (Su _) b fun l m c k=>?_;refine h l m (a.more c) ?_
  simpa using k
 rw[decide_eq_false z];rw[if_neg z] at b h;refine L1 ?_;exact h O Q a (by simpa using j))
theorem Ks {β:Type} {xs:List (Q8×Q8)} {v f:Value} (b:β->(Q8×Q8)->Bool×β) (m:β) (a:β->World->Prop) (D:Nat->Prop) (l: ∀s w,a s w->X1 w σ) (y:a m w) (u:Sl 2 Hn σ v xs)
 (z: ∀s x cs (w1:World) (K:Value->World->Prop),x∈xs->Kpt D w w1->a s w1->Hn σ x cs->cs.length=2->(∀w',Kpt D w w'->a (b s x).2 w'->K (.bool (b s x).1) w')->Y8 P f [.agg cs.toArray] w1 K)
 (h: ∀w',Kpt D w w'->a (U1 b m xs 0).2 w'->K (I (M9 (U1 b m xs 0).1)) w'):Q0 P F.k [v,f] w K:=Jo (by
 unfold I6 Z5 U4 X7 X2
 ((try simp only[↓M1,M1,Mb,reduceIte]);repeat ((first | refine ld Q7 Q7 rfl ?_ | refine Y4 Q7 Q7 rfl ?_ | refine Q6 Q7 ?_);(try simp only[↓M1,M1,Mb,reduceIte])))
 refine U8 xs.length (fun n w'=>Kpt D w w'/\ ∃s,a s w'/\U1 b m xs 0=U1 b s (xs.drop n) n) ⟨Kpt.refl,m,y,rfl⟩ fun n w1 d E i=>?_;obtain ⟨t,s,i,e⟩:=i;have r:=l s w1 i
 ((try simp only[↓M1,M1,Mb,reduceIte]);repeat ((first | refine ld Q7 Q7 rfl ?_ | refine Y4 Q7 Q7 rfl ?_ | refine Q6 Q7 ?_);(try simp only[↓M1,M1,Mb,reduceIte])))
 refine Q3 (fun q=>?_) (fun q=>?_)
 .have c:n<xs.length:=by simpa using q
  refine N0 u c fun p cs A g B=>?_;refine Z8 r A g ?_;refine z s xs[n] cs w1 _ (List.getElem_mem c) t i B g fun C k j=>?_;rw[List.drop_eq_getElem_cons c] at e;simp only[U1] at e;refine Q3 (fun o=>?_) (fun o=>?_)
  .rw[o] at e
   have:=h C k;rw[e] at this;exact this j
  .rw[o] at e
   ((try simp only[↓M1,M1,Mb,reduceIte]);repeat ((first | refine ld Q7 Q7 rfl ?_ | refine Y4 Q7 Q7 rfl ?_ | refine Q6 Q7 ?_);(try simp only[↓M1,M1,Mb,reduceIte])))
   exact Y9 u.max c ⟨k,_,j,by simpa using e⟩
 .have c: ¬n<xs.length:=by simpa using q
  rw[List.drop_eq_nil_of_le Q4] at e;have:=h w1 t;rw[e] at this;exact this i)
theorem Q2S {β:Type} {xs:List (Q8×Q8)} {v f:Value} (b:β->(Q8×Q8)->Bool×β) (d:β) (a:β->World->Prop) (D:Nat->Prop) (c: ∀s w,a s w->X1 w σ) (e:a d w) (k:Sl 2 Hn σ v xs)
 (g: ∀s x cs (w1:World) (K:Value->World->Prop),x∈xs->Kpt D w w1->a s w1->Hn σ x cs->cs.length=2->(∀w',Kpt D w w'->a (b s x).2 w'->K (.bool (b s x).1) w')->Y8 P f [.agg cs.toArray] w1 K)
 (h: ∀w',Kpt D w w'->a (U1 b d xs 0).2 w'->K (.bool (U1 b d xs 0).1.isSome) w'):Q0 P F.o [v,f] w K:=Yw (by
 unfold F5 X5;refine Ks b d a D c e k g fun w1 j i=>?_
 (try simp only[↓M1,M1,Mb,reduceIte])
 rw[Hb];exact h w1 j i)
theorem Q51 {xs:List (Q8×Q8)} {v f:Value} (p:(Q8×Q8)->Bool) (c:X1 w σ) (k:Sl 2 Hn σ v xs)
 (e: ∀x cs (w1:World) (K:Value->World->Prop),x∈xs->X1 w1 σ->Hn σ x cs->cs.length=2->(∀w',Below w1.heap.size w1 w'->K (.bool (p x)) w')->Y8 P f [.agg cs.toArray] w1 K)
 (h: ∀w',Below w.heap.size w w'->K (I (M9 (xs.findIdx? p))) w'):Q0 P F.k [v,f] w K:=by
 refine Ks (fun (_:Unit) x=>(p x,())) () (fun _ w'=>Below w.heap.size w w') (fun _=>False) (fun _ w' b=>c.below b) (Below.refl _ _) k (fun s x cs w1 K l g a j i d=>e x cs w1 K l (c.below a) j i fun w' b=>d w' (.of_below (bt a b)) (bt a b)) fun w' g a=>?_;rw[I8]
 simpa using h w' a
theorem Q2G {xs:List (Q8×Q8)} {v f:Value} (p:(Q8×Q8)->Bool) (c:X1 w σ) (k:Sl 2 Hn σ v xs)
 (e: ∀x cs (w1:World) (K:Value->World->Prop),x∈xs->X1 w1 σ->Hn σ x cs->cs.length=2->(∀w',Below w1.heap.size w1 w'->K (.bool (p x)) w')->Y8 P f [.agg cs.toArray] w1 K)
 (h: ∀w',Below w.heap.size w w'->K (.bool (xs.any p)) w'):Q0 P F.o [v,f] w K:=by
 refine Q2S (fun (_:Unit) x=>(p x,())) () (fun _ w'=>Below w.heap.size w w') (fun _=>False) (fun _ w' b=>c.below b) (Below.refl _ _) k (fun s x cs w1 K l g a j i d=>e x cs w1 K l (c.below a) j i fun w' b=>d w' (.of_below (bt a b)) (bt a b)) fun w' g a=>?_;rw[I8]
 simpa using h w' a
end Go.Proofs.Y
namespace Go.Hm
open Go.Kd
variable {tq : Val -> Option Nat} {xs : List Nat} {vs : List Val}
theorem Q8V {j:Nat} (a:j<vs.length):Vf tq xs (vs.take (j+1))=Ha (Vf tq xs (vs.take j)) (tq vs[j]):=by
 unfold Vf;rw[List.take_add_one,List.getElem?_eq_getElem a,Option.toList_some,List.foldl_append];rfl
theorem X0x {n:Nat} (c: ∀p x,tq p=some x->x<n) (a:xs.Nodup) (b: ∀x∈xs,x<n):(Vf tq xs vs).length<=n:=
 Q7J (Cu vs a) fun x d=>by
  rcases (Tt vs).1 d with h | ⟨p,_,h⟩
  .exact b x h
  .exact c p x h
end Go.Hm
namespace Go.Proofs.Y
open Go.Emb Go.RowKit Go.Kd Go.Hm
variable {w w' : World} {K : Value -> World -> Prop} {σ σ' : Q2} {room : Int} {cs : List Cel} {hp tv : Value} {l : List Cla} {v : Value} {bl r : Nat}
set_option maxHeartbeats 2000000 in
theorem X49 {v:Val} (hs:X1 w σ) (hh:O5 σ hp tv room cs) (ht:Tab σ tv l) (ok:Ok l) (f: ∀c∈cs,GoodC I1 l cs c) (hc:cs.length<=1048576) (hN: ∀r,El cs r<=1000000000000)
 (h: ∀v' w' σ',Stp w σ w' σ'->Sl 1 H9 σ' v' (ints (I3 l cs v))->K v' w'):Q0 P F.cs [hp, .agg [I v.sort,I v.n,S v.s,I v.ref].toArray] w K:=Q6x (by
 unfold Q0f;simp only[Z1,Y1,M4];unfold U4 X7 X2;obtain ⟨ah,eh⟩: ∃a,hp= .pointer (some a):=by obtain ⟨a,_,e,_⟩:=hh;exact ⟨a,e⟩
 refine V4 hs (by rw[eh];rfl) fun qh w1 σ1 k1 O=>?_
 refine J1 k1.sat fun qv w2 σ2 k2 W=>?_;refine I4 k2.sat fun bl w3 σ3 an Z A=>?_;refine Q9w Z.sat fun r w4 hr E N=>?_;refine U7 E.sat rfl rfl rfl fun qs w5 σ5 C U=>?_;refine Pb ?_;have B:=k1.trans k2;have S3:=B.trans Z;have S5:=(S3.trans E).trans C;refine Z8 C.sat (((W.up Z).up E).up C) rfl ?_;have br:=A.lt;have R0:RSt w σ bl r w5 σ5 []:=⟨S5,Nat.le_trans B.bel.size an,Nat.le_trans S3.bel.size hr,by omega,_,[],(A.up E).up C,U0.of_acc W1.nil,nofun,N.up C,fun n=>rfl⟩
 have g:=(((O.up k2).up Z).up E).up C;have y:=hh.lift ⟨S5.le⟩;have aw:=ht.lift ⟨S5.le⟩;clear k1 k2 Z E C B S3 W A N O;refine Z6 (first:=[]) (caps:=[.pointer (some qs), .pointer (some qh), .pointer (some ⟨bl,0,none⟩)]) ?_
 refine X1g R0 U g y f hc U5 fun w6 σ6 a0 R6=>?_;refine U8 cs.length (fun i w'=> ∃σ',SLe σ6 σ'/\RSt w σ bl r w' σ' (N6 (K1 l cs) (Zj cs) v i)) ⟨σ6,SLe.refl _,R6⟩ fun i w7 d hi L=>?_;obtain ⟨σ7,aa,R7⟩:=L;have b:=a0.more aa;have s7:=R7.stp.sat;obtain ⟨lv,m,h1,h2,h3,h4,h5⟩:=R7.ex;refine Q3D h1 rfl ?_;refine Sh h2 ?_;refine Z4 ?_;have a4:=Q4C (out:=K1 l cs) (tq:=Zj cs) (v:=v) Kz i;have M:=Q22 (out:=K1 l cs) (tq:=Zj cs) (v:=v) Kz i;refine Q3 (fun q=>?_) (fun q=>?_)
 .have z:i<(N6 (K1 l cs) (Zj cs) v i).length:=by simpa [ints] using q
  have ay:=M _ (List.getElem_mem z)
  have av:N6 (K1 l cs) (Zj cs) v (i+1)=Vf (Zj cs) (N6 (K1 l cs) (Zj cs) v i) (K1 l cs (N6 (K1 l cs) (Zj cs) v i)[i]):=by
   rw[N6,List.getElem?_eq_getElem z]
  obtain ⟨σf,sf,a2,Y,ar⟩:=h2.freeze s7;have J:i<(ints (N6 (K1 l cs) (Zj cs) v i)).length:=by simpa [ints] using z
  obtain ⟨ds,e1,e2,e3⟩:=Y.el J;obtain ⟨rfl,_⟩:=e3;have ex:(ints (N6 (K1 l cs) (Zj cs) v i))[i]=(((N6 (K1 l cs) (Zj cs) v i)[i]:Nat):Int):=by simp[ints]
  rw[ex] at e1;have Q:=(g.lift b).lift a2;have ak:U6 σf w7 bl [lv]:=⟨(ar bl fun e=>(h3 bl e.symm).1 rfl).trans h1.1,h1.2⟩;refine L9 sf ?_;refine J9 (V:=hp) (fun w p=>Y4 p.sat (Q.up p.stp) rfl (J3 rfl)) ?_;refine J9 (V:=lv) (fun w p=>Q3D (ak.up p.stp) rfl (J3 rfl)) ?_;refine J9 (V:= .pointer (some (Ij 1 lv i))) (fun t w p e=>by subst e;exact U2 (Y.up p.stp) J (J3 rfl)) ?_
  refine J9 (V:=I ((N6 (K1 l cs) (Zj cs) v i)[i]:Nat)) (fun t w p e=>by subst e;exact Y4 p.sat (e1.up p.stp) rfl (J3 rfl)) ?_
  rintro _ _ _ _ w8 am rfl rfl rfl rfl;have k8:=Stp.of_below s7 am.stp.bel;have R8:=R7.up k8;generalize hX:N6 (K1 l cs) (Zj cs) v i=X at*;have eo:D4 l cs ((X[i]:Nat):Int)=K1 l cs X[i]:=Q7K ay;have aq:X.Nodup:=by rw[<-hX];exact Vk i
  refine X2C (l:=l) (cs:=cs) (tv:=tv) (room:=room) (σ:=σ7) (fun j w' σ'=>SLe σ7 σ'/\RSt w σ bl r w' σ' (Vf (Zj cs) X ((K1 l cs X[i]).take j))) (fun _ _ _ R=>R.2.stp.sat) (fun _ _ _ _ _ R k=>⟨R.1.more ⟨k.le⟩,R.2.up k⟩) (y.lift b) (aw.lift b) ok f (hN _) ⟨SLe.refl _,R8⟩ (fun j hj w9 σ9 a1 D=>?_) (fun w9 σ9 a1 D=>?_)
  .have ap:j<(K1 l cs X[i]).length:=by rw[<-eo];exact hj
   have ev:(D4 l cs ((X[i]:Nat):Int))[j]=(K1 l cs X[i])[j]:=by simp only[eo]
   rw[ev];refine Z6 (first:=[]) (caps:=[.pointer (some qs), .pointer (some qh), .pointer (some ⟨bl,0,none⟩)]) ?_
   have o:=b.more D.1;refine X1g D.2 (U.lift o) (g.lift o) (y.lift o) f hc (Nat.le_trans (X0x Kz aq M) hc) fun wA σA ab RA=>⟨σA,ab,D.1.more ab,?_⟩;rw[Q8V ap];exact RA
  ·(try simp only[↓M1,M1,Mb,reduceIte])
   refine Y9 Q4 Q4 ⟨σ9,aa.more D.1,?_⟩;rw[av];have:=D.2
   rwa [eo,List.take_length] at this
 .have H:(N6 (K1 l cs) (Zj cs) v i).length<=i:=by simp[ints] at q;omega
  refine Q3D h1 rfl ?_;obtain ⟨σ8,S8,ax,_⟩:=h2.keep R7.stp;refine h lv w7 σ8 S8 ?_;unfold I3;rw[X0I H hi];exact ax)
def VB (v:Val):Prop:=P0 v.sort/\P0 v.n/\v.s.length<=U9/\P0 v.ref
theorem Q5D:VB Val.zero:=⟨by decide,by decide,by decide,by decide⟩
theorem X3Z (hh:O5 σ hp tv room cs) {c:Cel} (d:c∈cs) {x:Val} (g:x∈c.vals):VB x:=by
 obtain ⟨a,m,rfl,k,h⟩:=hh;obtain ⟨i,e,rfl⟩:=List.mem_iff_getElem.1 d;obtain ⟨n,_,b,_⟩:=Sl.elO h e;obtain ⟨j,f,rfl⟩:=List.mem_iff_getElem.1 g;exact (Sl.elV b f).2.2
theorem X6a (hh:O5 σ hp tv room cs) {r:Int} {x:Val} (c:x∈D4 l cs r):VB x:=by
 unfold D4 at c;obtain ⟨i,_,rfl⟩:=List.mem_map.1 c;unfold Gj
 split
 .rename_i a
  unfold Jn at a
  split at a
  .rename_i d
   obtain ⟨j,rfl,b⟩:=D5.1 d;rw[C9 b] at a⊢;rw[List.getD_eq_getElem?_getD];cases e:cs[j].vals[((i:Nat):Int).toNat]? with
   | none=>exact Q5D
   | some y=>exact X3Z hh (List.getElem_mem b) (List.mem_of_getElem? e)
  .exact absurd a M5
 .exact Q5D
theorem Q2q {x:Nat} (h:x<cs.length):D9 cs (x:Int)=Fv cs x:=by
 rw[Ov h];unfold Fv Qu;rw[List.getD_eq_getElem?_getD,List.getElem?_eq_getElem h];rfl
theorem X40 {t e:TypeId} {n sz b:Nat} {z:Value} [ta:TA P t n e] [tz:TZ P e sz b z] {a:Addr} {k:Nat} (c:k<n) (h:K (.pointer (some (a.add (k*sz)))) w):indexAddr P t (.pointer (some a)) (I k) w K:=by
 rw[Q7t Q4 Q4]
 simpa using h
theorem Q1B {xs:List Nat} {v:Value} {i:Nat} (j:X1 w σ) (h:Sl 1 H9 σ v (ints xs)) (f:i<xs.length) (g:K (I (xs[i]:Nat)) w):indexAddr P T.o v (I i) w fun t w=>Q9 P T.d t w K:=by
 have b:i<(ints xs).length:=by simpa using f
 refine N0 h b fun a k c _ d=>?_;obtain ⟨rfl,_⟩:=d;refine Y4 j c rfl ?_;have e:(ints xs)[i]=((xs[i]:Nat):Int):=by simp
 rw[e];exact g
end Go.Proofs.Y
namespace Go.Hm
open Go.Kd
structure Alike (l m : List Cla) : Prop where
  lk : lk l = lk m
  len : l.length = m.length
  weigh : weigh l [] = weigh m []
section
variable {l m : List Cla} (h : Alike l m)
include h
end
theorem X4Q {l:List Cla} {frm:Nat}: ∀(f:Nat) (out:List Nat) (i:Nat),∀y∈Ql l frm f out i,y∈out\/frm<=y:=by
 intro f
 induction f with
 | zero=>intro out i y hy;exact .inl hy
 | succ f c=>
  intro out i y hy;simp only[Ql] at hy
  split at hy
  .exact .inl hy
  .split at hy
   .exact .inl hy
   .rename_i d _
    rcases List.mem_append.1 hy with hy | hy
    .exact Mf (p:=fun y=>frm<=y) _ _ (fun b x _ z a=>c b _ z a) y hy
    .simp at hy;omega
theorem X34 {a:List Cla} (g:A9 a): ∀j∈L3 a 8,8<=j/\j<a.length:=by
 intro j c;unfold L3 at c;have e:=Mf (p:=fun y=>8<=y) _ _ (fun b x _ z d=>X4Q _ b x z d) j c
 have f:=Mf (p:=fun y=>y<a.length) _ _ (fun b x i z d=>(Q7L g (by omega) _ b x (by
  have:=List.mem_of_mem_drop i
  simpa using this) z d).imp id (·.1)) j c
 exact ⟨e.resolve_left (by simp),f.resolve_left (by simp)⟩
end Go.Hm
namespace Go.Proofs.Y
open Go.Emb Go.RowKit Go.Kd Go.Hm
end Go.Proofs.Y
namespace Go.Proofs.Y
open Go.Emb Go.RowKit Go.Kd Go.Hm
variable {w : World} {K : Value -> World -> Prop} {σ : Q2} {l : List Cla}
theorem X2v {v:Value} {n:Q8} (b:X1 w σ) (c:Tab σ v l) (ok:Ok l) (a:n.length<=U9) (h: ∀w' d,Stp w σ w' d->K (S (E7 l n)) w'):Q0 P F.ae [v,S n] w K:=
 X48 ok _ (.inr (Nat.lt_succ_self _)) a b c h
end Go.Proofs.Y
namespace Go.Hm
open Go.Kd Go.Emb
def Gp (rs:List Nat) (n:Int):Option Value:=(rs.findIdx? fun (x:Nat)=>decide ((x:Int)=n)).map fun i=>I (i:Nat)
theorem X30 {rs:List Nat} {n:Int}:(Gp rs n).getD (I 0)=I (Wp rs n):=by
 unfold Gp Wp;cases rs.findIdx? fun (x:Nat)=>decide ((x:Int)=n)<;>rfl
theorem X2Z {n:Int}:Gp [] n=none:=rfl
theorem X1T {rs:List Nat} {n:Int}:(Gp rs n).isSome=decide (n∈ints rs):=by
 unfold Gp;rw[Option.isSome_map,List.findIdx?_isSome,Bool.eq_iff_iff]
 simp[List.any_eq_true]
theorem X1S {rs:List Nat} {x:Nat} {n:Int} (h:x∉rs):Gp (rs++[x]) n=if (x:Int)=n then some (I (rs.length:Nat)) else Gp rs n:=by
 unfold Gp;rw[List.findIdx?_append]
 by_cases e:(x:Int)=n
 .have:(rs.findIdx? fun (y:Nat)=>decide ((y:Int)=n))=none:=by
   rw[List.findIdx?_eq_none_iff];intro y a
   simp
   intro b;have:y=x:=by omega
   exact h (this▸a)
  rw[this,if_pos e]
  simp[e]
 .rw[if_neg e]
  simp[e]
variable {l : List Cla} {cs : List Cel} {vs : List Val} {rs : List Nat}
theorem Q95 {i:Nat} (a:i<vs.length):N3 l cs (vs.take (i+1))=E1 (N3 l cs (vs.take i)) (I3 l cs vs[i]):=by
 unfold N3;rw[List.take_add_one,List.getElem?_eq_getElem a,Option.toList_some,List.foldl_append];rfl
theorem Q2z {xs:List Nat} (a:xs.Nodup) (h: ∀x∈xs,x<cs.length):xs.length<=cs.length:=H6 _ _ a h
theorem X4O {v:Val} {b:List Val} {j:Nat}:(E1 (N3 l cs b) ((I3 l cs v).take j)).length<=cs.length:=Q2z (Q11 Fx) fun x a=>by
 rcases Sc.1 a with h | h
 .exact Rn h
 .exact Q3J (List.mem_of_mem_take h)
theorem Q8N {i:Nat} (a:i<rs.length):V7 cs (rs.take (i+1))=Qm (V7 cs (rs.take i)) (Fv cs rs[i]):=by
 unfold V7;rw[List.map_take,List.map_take,Q2V (by simpa using a)]
 simp
theorem Pr: ∀{rs:List Nat},(V7 cs rs).length<=rs.length:=by
 have: ∀(xs o:List Q8),(E1 o xs).length<=o.length+xs.length:=by
  intro xs
  induction xs with
  | nil=>intro o;simp[E1]
  | cons x xs a=>
   intro o;have:=a (Qm o x);have b:(Qm o x).length<=o.length+1:=by unfold Qm;split<;>simp
   show (E1 (Qm o x) xs).length<=_
   simp only[List.length_cons];omega
 intro rs;have:=this (rs.map (Fv cs)) []
 simpa [V7] using this
end Go.Hm
namespace Go.Proofs.Y
open Go.Emb Go.RowKit Go.Kd Go.Hm
variable {w w' w0 : World} {K : Value -> World -> Prop} {σ σ' σ0 : Q2} {room : Int} {cs : List Cel} {hp tv : Value} {l : List Cla} {r : Nat} {refs : List Nat}
theorem X6K {b:List (Int×Value)} {k:Int} {A:Value->World->Prop} (d:C7 σ w r b) (h:A (.bool (I0 b k).isSome) w):lookup P T.a8 (.map (some r)) (I k) true w fun a w=>ext P a 0 w fun _t33 w=>ext P a 1 w fun c w=>A c w:=by
 rw[Q66 (tz:=inferInstance) Ga d.2 k];cases e:I0 b k with
 | none=>
  rw[e] at h;refine J0 (vs:=[_,_]) rfl ?_;refine J0 (vs:=[_,_]) rfl ?_;exact h
 | some v=>
  rw[e] at h;refine J0 (vs:=[_,_]) rfl ?_;refine J0 (vs:=[_,_]) rfl ?_;exact h
structure QSt (w0 : World) (σ0 : Q2) (r : Nat) (w : World) (σ : Q2) (lv : Value) (xs : List Nat) : Prop where
  stp : Stp w0 σ0 w σ
  gr : w0.heap.size <= r
  acq : U0 w0.heap.size T.d 1 H9 σ w lv (ints xs)
  ne : ∀ k, lv.ownBlock = some k -> k ≠ r
  ex : ∃ m, C7 σ w r m /\ ∀ n : Int, I0 m n = Gp xs n
theorem QSt.up {a:Value} (R:QSt w0 σ0 r w σ a refs) (k:Stp w σ w' σ'):QSt w0 σ0 r w' σ' a refs:=by
 obtain ⟨m,b,c⟩:=R.ex;exact ⟨R.stp.trans k,R.gr,R.acq.up k,R.ne,m,b.up k,c⟩
set_option maxHeartbeats 1000000 in
theorem Q75 {vs:List Val} {v:Value} (hs:X1 w σ) (hh:O5 σ hp tv room cs) (ht:Tab σ tv l) (ok:Ok l) (H: ∀c∈cs,GoodC I1 l cs c) (hc:cs.length<=1048576) (hN: ∀r,El cs r<=1000000000000) (hv:Sl 4 G1 σ v vs)
 (h: ∀v' r mm w' σ',Stp w σ w' σ'->Sl 1 H9 σ' v' (ints (N3 l cs vs))->C7 σ' w' r mm->(∀n,I0 mm n=Gp (N3 l cs vs) n)->K (.tuple #[v', .map (some r)]) w'):Q0 P F.ca [hp,v] w K:=Q83 (by
 unfold Q1v;simp only[M4,M8];unfold Z5 X7 X5 X2;refine Q9w hs fun r w1 hr k1 am=>?_;refine Q6 hv ?_;refine O7 vs.length (fun i U w'=> ∃σ',QSt w σ r w' σ' U (N3 l cs (vs.take i))) ⟨σ,k1,hr,U0.of_acc W1.nil,nofun,[],am,fun n=>by simp[N3,X2Z,I0]⟩ fun i U w2 d hi o=>?_
 obtain ⟨σ2,f⟩:=o;refine Z4 ?_;refine Q3 (fun A=>?_) (fun A=>?_)
 .have p:i<vs.length:=by simpa using A
  have C:=hv.up f.stp;obtain ⟨p1,p2⟩:=Sl.elV C p;refine U2 C p ?_;refine Z8 f.stp.sat p1 rfl ?_;refine Z0 (sz:=4) f.stp.sat rfl rfl (Rep.one p2) fun qv w3 σ3 Q O=>?_;refine Z8 Q.sat O rfl ?_;have S3:=f.stp.trans Q;refine X49 Q.sat (hh.lift ⟨S3.le⟩) (ht.lift ⟨S3.le⟩) ok H hc hN fun rv w4 V k4 hX=>?_;have R4:=(f.up Q).up k4;have an: ∀j,(E1 (N3 l cs (vs.take i)) ((I3 l cs vs[i]).take j)).length<=cs.length:=fun j=>X4O;have aj: ∀x∈I3 l cs vs[i],x<cs.length:=fun x hx=>Q3J hx;have bo:(I3 l cs vs[i]).length<=cs.length:=X3a;have et:=Q95 (l:=l) (cs:=cs) p;generalize I3 l cs vs[i]=X at*;have af:(ints X).length=X.length:=by simp
  clear f Q k4 O S3 p1 p2 C;refine Q6 hX ?_;rw[af];refine O7 X.length (fun j U w'=> ∃σ',SLe V σ'/\QSt w σ r w' σ' U (E1 (N3 l cs (vs.take i)) (X.take j))) ⟨V,SLe.refl _,by simpa [E1] using R4⟩ fun j s w5 d2 hj o=>?_
  obtain ⟨σ5,D,b⟩:=o;refine Z4 ?_;refine Q3 (fun u=>?_) (fun u=>?_)
  .have q:j<X.length:=by simpa using u
   refine Xg (fun ax w'=> ∃σ',SLe V σ'/\QSt w σ r w' σ' ax (E1 (N3 l cs (vs.take i)) (X.take (j+1)))) ?_ (fun z dd w6 hz=>?_)
   .have a6:=an j
    have bq:=aj _ (List.getElem_mem q);rw[Q2V q];generalize E1 (N3 l cs (vs.take i)) (X.take j)=Y at*;have s5:=b.stp.sat;refine Q1B s5 (hX.lift D) q ?_;obtain ⟨m,E,W⟩:=b.ex;refine X6K E ?_;rw[W,X1T];refine Ss ?_
    have t:((X[j]:Nat):Int)∈ints Y↔X[j]∈Y:=⟨fun e=>by
     obtain ⟨y,hy,ey⟩:=List.mem_map.1 e;have ey:y=X[j]:=by omega
     exact ey▸hy,fun e=>List.mem_map.2 ⟨_,e,rfl⟩⟩
    by_cases g:X[j]∈Y
    .rw[decide_eq_true (t.2 g),Bool.not_true]
     refine L1 ?_;rw[Qm,if_pos g];exact ⟨σ5,D,b⟩
    .rw[decide_eq_false (fun e=>g (t.1 e)),Bool.not_false]
     refine W7 ?_;rw[Qm,if_neg g];have ag:(ints Y).length=Y.length:=by simp
     refine Sh b.acq ?_;rw[ag];refine Q3c Ga E _ _ fun w6 u6 ah=>?_;have S6:Stp w σ w6 σ5:=u6.stp b.stp b.gr E.1;have A6:=b.acq.updG u6 fun e=>b.ne r e rfl;refine H0 (R:=H9) (sz:=1) S6.sat [I (X[j]:Nat)] [((X[j]:Nat):Int)] rfl rfl (by simp;rfl) rfl ⟨⟨rfl,by omega,by omega⟩,trivial⟩ fun v7 w7 σ7 Z av=>?_
     have S7:=S6.trans Z;have J:=ah.up Z;have A7:=A6.up Z;refine Tw S7.sat S7.bel.size A7 av (by rfl) (by simp;omega) (by simp;omega) fun v8 w8 al ap ao ak=>?_
     have M:Kpt (fun k=>s.ownBlock=some k) w7 w8:=al.mono fun k _ e=>e.1
     have L: ∀k,v8.ownBlock=some k->s.ownBlock=some k\/w7.heap.size<=k:=fun k B=>by
      rcases ak with ⟨a,ad,ea,eb⟩ | ⟨_,N⟩
      .left
       have ae:s= .slice a _ ad:=ea;rw[ae];rw[eb] at B;cases a<;>exact B
      .exact .inr (N k B)
     have N8:Nxt (fun k=>s.ownBlock=some k) w7 σ7 w8 σ7:=⟨M,SLe.refl _,fun _ _=>rfl,ap⟩;have S8:Stp w σ w8 σ7:=S7.nx N8 fun k B=>(A7.mem B).1;have ai:=C7.kp J M fun e=>b.ne r e rfl;have a5:=J.lt;refine ⟨σ7,D.more ⟨Z.le⟩,S8,b.gr,by simpa using ao,fun k B=>?_,_,ai,fun n=>?_⟩
     .rcases L k B with e | e
      .exact b.ne k e
      .omega
     .rw[Q4n,W,X1S g]
   .obtain ⟨σ6,aw,R6⟩:=hz
    (try simp only[↓M1,M1,Mb,reduceIte])
    exact Z9 Q4 q ⟨σ6,aw,R6⟩
  .have e:j=X.length:=by simp at u;omega
   subst e;rw[List.take_length,<-et] at b
   (try simp only[↓M1,M1,Mb,reduceIte])
   exact Z9 hv.max p ⟨σ5,b⟩
 .have e:i=vs.length:=by simp at A;omega
  subst e;rw[List.take_length] at f;obtain ⟨m,E,W⟩:=f.ex;obtain ⟨V,S4,ar,b0,o4⟩:=f.acq.keep f.stp;refine h U r m w2 V S4 ar ⟨(o4 r fun e=>f.ne r e.symm rfl).trans E.1,E.2⟩ W)
end Go.Proofs.Y
namespace Go.Hm
open Go.Kd Go.Emb
def I7 (l:List Cla) (a:List Q8):List (Q8×Q8):=a.map fun k=>(k,E7 l k)
end Go.Hm
namespace Go.Proofs.Y
open Go.Emb Go.RowKit Go.Kd Go.Hm
variable {w w' : World} {K : Value -> World -> Prop} {σ σ' : Q2} {room : Int} {cs : List Cel} {hp tv : Value} {l : List Cla} {refs : List Nat}
theorem X0k {x:Q8×Q8} {q:Addr} (b:X1 w σ) (a:J7 σ q [S x.1,S x.2]) (h:K (S x.1) w):indexAddr P T.a5 (.pointer (some q)) (.int .i64 0) w fun t w=>Q9 P T.b t w K:=by
 refine X40 (k:=0) M5 ?_;refine ld (i:=0) b a rfl ?_;exact h
theorem X5W {x:Q8×Q8} {q:Addr} (b:X1 w σ) (a:J7 σ q [S x.1,S x.2]) (h:K (S x.2) w):indexAddr P T.a5 (.pointer (some q)) (.int .i64 1) w fun t w=>Q9 P T.b t w K:=by
 refine X40 (k:=1) M5 ?_;refine ld (i:=1) b a rfl ?_;exact h
theorem Q3Y {x:Q8×Q8} {k:Q8} {cs:List Value} {b:Addr} (e:X1 w σ) (f:Hn σ x cs) (c:J7 σ b [S k]) (h: ∀w',Below w.heap.size w w'->K (.bool (decide (x.1=k))) w'):Q0 P F.ci [.agg cs.toArray, .pointer (some b)] w K:=Q4B (by
 obtain ⟨rfl,_⟩:=f;unfold Fu Z5 X2;refine J1 e fun q w1 σ1 a d=>?_;refine X0k a.sat d ?_;refine Y4 a.sat (c.up a) rfl ?_;refine Qs ?_;exact h _ a.bel)
theorem Q53 {x:Q8×Q8} {k:Q8} {cs:List Value} {b:Addr} (e:X1 w σ) (f:Hn σ x cs) (c:J7 σ b [S k]) (h: ∀w',Below w.heap.size w w'->K (.bool (decide (x.1=k))) w'):Q0 P F.cp [.agg cs.toArray, .pointer (some b)] w K:=Q5t (by
 obtain ⟨rfl,_⟩:=f;unfold Iu Z5 X2;refine J1 e fun q w1 σ1 a d=>?_;refine X0k a.sat d ?_;refine Y4 a.sat (c.up a) rfl ?_;refine Qs ?_;exact h _ a.bel)
theorem X5m {a b:Q8}:P.built T.a5 [(0,S a),(1,S b)]=some #[S a,S b]:=by kernel_rfl
set_option maxHeartbeats 1000000 in
theorem Q74 {v:Value} (hs:X1 w σ) (hh:O5 σ hp tv room cs) (ht:Tab σ tv l) (ok:Ok l) (hc:cs.length<=1048576) (O: ∀k,(E7 l k).length<=U9) (hv:Sl 1 H9 σ v (ints refs)) (hr: ∀x∈refs,x<cs.length) (hn:refs.length<=cs.length)
 (h: ∀B w' σ',Stp w σ w' σ'->Sl 2 Hn σ' B (I7 l (V7 cs refs))->K B w'):Q0 P F.bX [hp,v] w K:=Q6D (by
 unfold Q0l;simp only[Z1,Y1,D0,M4];unfold Z5 X7 X5 X2;have J:(ints refs).length=refs.length:=by simp
 refine Q6 hv ?_;rw[J];refine O7 refs.length (fun i m w'=> ∃σ',Stp w σ w' σ'/\U0 w.heap.size T.a5 2 Hn σ' w' m (I7 l (V7 cs (refs.take i)))) ⟨σ,Stp.refl hs,U0.of_acc W1.nil⟩ fun i m w2 d hi o=>?_;obtain ⟨σ2,f,C⟩:=o;refine Z4 ?_;refine Q3 (fun j=>?_) (fun j=>?_)
 .have b:i<refs.length:=by simpa using j
  refine Xg (fun m w'=> ∃σ',Stp w σ w' σ'/\U0 w.heap.size T.a5 2 Hn σ' w' m (I7 l (V7 cs (refs.take (i+1))))) ?_ (fun z dd w6 hz=>?_)
  .have s:=hr _ (List.getElem_mem b)
   have aw:(V7 cs (refs.take i)).length<=refs.length:=Nat.le_trans Pr (by simp;omega)
   rw[Q8N b];generalize V7 cs (refs.take i)=ks at*;refine Q1B f.sat (hv.up f) b ?_;refine Ih f.sat (hh.lift ⟨f.le⟩) ?_
   have q:(Fv cs refs[i]).length<=U9:=by
    rw[<-Q2q s];exact Q3C hh
   rw[Q2q s];generalize Fv cs refs[i]=k at*;refine U7 f.sat rfl rfl rfl fun qk w3 σ3 k3 A=>?_;refine Pb ?_;have D:=f.trans k3;have A3:=C.up k3;obtain ⟨σf,sf,ac,Z,_⟩:=A3.freeze D.sat;refine Q2G (fun x=>decide (x.1=k)) sf Z (fun x cs w4 K hx s4 hR hl hK=>?_) fun w4 L=>?_
   .refine Z6 (first:=[]) (caps:=[.pointer (some qk)]) ?_
    exact Q3Y s4 hR (A.lift ac) hK
   have k4:=Stp.of_below D.sat L;have g:=D.trans k4;have A4:=A3.up k4;refine Ss ?_
   have n:(I7 l ks).any (fun x=>decide (x.1=k))=decide (k∈ks):=by
    unfold I7;rw[List.any_map,Bool.eq_iff_iff]
    simp[List.any_eq_true]
   rw[n]
   by_cases c:k∈ks
   .rw[decide_eq_true c,Bool.not_true]
    refine L1 ?_;rw[Qm,if_pos c];exact ⟨σ3,g,A4⟩
   .rw[decide_eq_false c,Bool.not_false]
    refine W7 ?_;rw[Qm,if_neg c];have M:=hh.lift ⟨g.le⟩;have W:=ht.lift ⟨g.le⟩;have y:=A.up k4;refine L9 g.sat ?_;refine J9 (V:=S k) (fun w a=>Y4 a.sat (y.up a.stp) rfl (J3 rfl)) ?_;refine J9 (V:=tv) (fun w a=>Q72 a.sat (M.lift ⟨a.stp.le⟩) (J3 rfl)) ?_;refine J9 (V:=S k) (fun w a=>Y4 a.sat (y.up a.stp) rfl (J3 rfl)) ?_;refine J9 (V:=S (E7 l k)) (fun t t2 w a e H=>by subst e;subst H;exact X2v a.sat (W.lift ⟨a.stp.le⟩) ok q fun w' σ' p=>Qv p.bel rfl) ?_
    refine J9 (V:= .agg #[S k,S (E7 l k)]) (fun t t2 w a e H=>by subst e;subst H;exact W2 X5m (J3 rfl)) ?_
    refine Hi (w:=w4) (σ:=σ3) (Φ:=fun σ' B=>Sl 2 Hn σ' B [(k,E7 l k)]) (fun t w a e=>by
     subst e;exact H0 (R:=Hn) (sz:=2) a.sat [.agg #[S k,S (E7 l k)]] [(k,E7 l k)] rfl rfl (by simp;rfl) rfl ⟨⟨rfl,q,O k⟩,trivial⟩ fun B w' σ' p X=>Pj a p X) ?_
    rintro _ _ _ _ _ u w5 av rfl rfl rfl rfl rfl ⟨σ5,k5,hu⟩;have E:=g.trans k5;have A5:=A4.up k5;refine Tw E.sat E.bel.size A5 hu (by rfl) (by simp[I7];omega) (by simp[I7];omega) fun v8 w8 N U Q ar=>?_
    have N8:Nxt (fun k=>m.ownBlock=some k) w5 σ5 w8 σ5:=⟨N.mono fun k _ e=>e.1,SLe.refl _,fun _ _=>rfl,U⟩;exact ⟨σ5,E.nx N8 fun k p=>(A5.mem p).1,by simpa [I7] using Q⟩
  .obtain ⟨σ6,S6,A6⟩:=hz
   (try simp only[↓M1,M1,Mb,reduceIte])
   exact Z9 Q4 b ⟨σ6,S6,A6⟩
 .have e:i=refs.length:=by simp at j;omega
  subst e;rw[List.take_length] at C;obtain ⟨σ4,g,Y,_⟩:=C.keep f;exact h m w2 σ4 g Y)
variable {w0 : World} {σ0 : Q2} {r bw : Nat} {xs : Q8} {q : Addr} {num : Int -> Int} {mm : List (Int × Value)}
theorem Q18 {n:Int} (R:WrS w0 σ0 bw w σ xs) (b:J7 σ q [.pointer (some ⟨bw,0,none⟩)]) (a:(xs++U3 (Wu n)).length<=1000000000) (h: ∀w' σ',SLe σ σ'->WrS w0 σ0 bw w' σ' (xs++U3 (Wu n))->K (.tuple #[]) w'):
 Y8 P (.func (.func F.co) (List.toArray []) (List.toArray [.pointer (some q)])) [I n] w K:=
 Z6 (first:=[]) (caps:=[.pointer (some q)]) (Q5s (by
  unfold Is;refine Y4 R.stp.sat b rfl ?_;refine Pd ?_;exact Q16 R (Su n) a h))
theorem X5x {x:Nat} {v:Value} {A:World->Prop} (R:WrS w0 σ0 bw w σ xs) (hx:x<cs.length) (hh:O5 σ hp tv room cs) (hq:J7 σ q [.pointer (some ⟨bw,0,none⟩)]) (hm:C7 σ0 w0 r mm) (p: ∀n,(I0 mm n).getD (I 0)=I (num n)) (W:Sl 1 H9 σ v (ints (Qp l cs x))) (hb:(xs++(D4 l cs x).flatMap (S1 num)).length<=1000000000)
 (h: ∀w' σ',SLe σ σ'->WrS w0 σ0 bw w' σ' (xs++(D4 l cs x).flatMap (S1 num))->A w'):
 lp (α:=Value) (.int .i64 0) w fun a g d_ w=>
  Y5 P .lss T.d (.tmp 88) (.tmp 87) g (I (ints (Qp l cs x)).length) w fun M w=>
  X0 M (
   indexAddr P T.o v g w fun N w=>
   Q9 P T.d N w fun O w=>
   Q0 P F.ay [hp,I x,O] w fun C w=>
   ext P C 0 w fun Q w=>
   ext P C 1 w fun ae w=>
   Qh P T.i w fun B w=>
   M3 P T.i B Q w fun _u w=>
   Q9 P T.ac (.pointer (some q)) w fun U w=>
   Q9 P T.i B w fun y w=>
   Q0 P F.bF [U,y, .map (some r)] w fun X w=>
   Y5 P .add T.d (.tmp 88) (.const (.int .i64 1)) g (.int .i64 1) w fun z w=>
   a z w) (
   A w):=by
 have k:(ints (Qp l cs x)).length=(Qp l cs x).length:=by simp
 rw[k];have Y:(D4 l cs x).length=(Qp l cs x).length:=by unfold D4;simp
 refine U8 (Qp l cs x).length (fun j w'=> ∃σ',SLe σ σ'/\WrS w0 σ0 bw w' σ' (xs++((D4 l cs x).take j).flatMap (S1 num))) ⟨σ,SLe.refl _,by simpa using R⟩ fun j w1 d hj m=>?_
 obtain ⟨σ1,b,i⟩:=m;refine Z4 ?_;refine Q3 (fun H=>?_) (fun H=>?_)
 .have o:j<(Qp l cs x).length:=by simpa using H
  have c:j<(D4 l cs x).length:=by omega
  have ev:(D4 l cs x)[j]=Gj cs x ((Qp l cs x)[j]:Nat):=List.getElem_map _;have u:VB (D4 l cs x)[j]:=X6a hh (List.getElem_mem c);refine Q1B i.stp.sat (W.lift b) o ?_;refine X1h i.stp.sat (hh.lift b) fun w2 σ2 D=>?_;rw[<-ev];refine J0 (vs:=[_,_]) rfl ?_;refine J0 (vs:=[_,_]) rfl ?_;have Z:G1 σ2 (D4 l cs x)[j] [I (D4 l cs x)[j].sort,I (D4 l cs x)[j].n,S (D4 l cs x)[j].s,I (D4 l cs x)[j].ref]:=⟨rfl,u⟩;refine Z0 (sz:=4) D.sat rfl rfl (Rep.one Z) fun ad w3 σ3 J t=>?_;have E:=(i.up D).up J;refine Y4 E.stp.sat (((hq.lift b).up D).up J) rfl ?_;refine Z8 E.stp.sat t rfl ?_;refine Q9m E hm p (x:=(D4 l cs x)[j]) ⟨rfl,u⟩ (Me (f:=S1 num) c hb) fun w4 σ4 L V=>?_;rw[<-Xd (f:=S1 num) c] at V
  (try simp only[↓M1,M1,Mb,reduceIte])
  exact Y9 (by rw[<-k];exact W.max) o ⟨σ4,((b.more ⟨D.le⟩).more ⟨J.le⟩).more L,V⟩
 .have e:j=(Qp l cs x).length:=by simp at H;omega
  subst e;rw[<-Y,List.take_length] at i;exact h _ _ b i
set_option maxHeartbeats 4000000 in
theorem X4i {vs:List Val} {vl rl:Value} (hs:X1 w σ) (hh:O5 σ hp tv room cs) (ht:Tab σ tv l) (ok:Ok l) (ay: ∀c∈cs,GoodC I1 l cs c) (hc:cs.length<=1048576) (hN: ∀r,El cs r<=1000000000000) (b4: ∀k,(E7 l k).length<=U9) (W:Sl 4 G1 σ vl vs) (V:Sl 1 H9 σ rl (ints refs)) (hr: ∀x∈refs,x<cs.length) (hn:refs.length<=cs.length)
 (hm:C7 σ w r mm) (ab: ∀n,(I0 mm n).getD (I 0)=I (num n)) (hb:(Q01 num l cs vs refs).length<=1000000000)
 (h: ∀v' w' σ',Stp w σ w' σ'->U0 w.heap.size T.t 1 Qy σ' w' v' (Q01 num l cs vs refs)->K v' w'):Q0 P F.cF [hp,vl,rl, .map (some r)] w K:=Q85 (by
 unfold Q1x;simp only[M4,M8];unfold Z5 U4 X7 V5 X2;have aj:(ints refs).length=refs.length:=by simp
 have c2:=Pr (cs:=cs) (rs:=refs);have c5:=W.max
 have eB:(V7 cs refs).flatMap (Q6J l)=(I7 l (V7 cs refs)).flatMap (fun x=>W3 x.1++W3 x.2):=by
  unfold I7;rw[List.flatMap_map];rfl
 have eD:refs.flatMap (fun (r:Nat)=>(K1 l cs r).flatMap (S1 num))=refs.flatMap (fun (r:Nat)=>(D4 l cs (r:Int)).flatMap (S1 num)):=by
  rw[List.flatMap_def,List.flatMap_def]
  congr 1
  exact List.map_congr_left fun x hx=>by rw[Q7K (hr x hx)]
 have eT:Q01 num l cs vs refs=U3 (V7 cs refs).length++(I7 l (V7 cs refs)).flatMap (fun x=>W3 x.1++W3 x.2)++U3 refs.length++refs.flatMap (Db cs (V7 cs refs))++refs.flatMap (fun (r:Nat)=>(D4 l cs (r:Int)).flatMap (S1 num))++U3 vs.length++vs.flatMap (S1 num):=by
  rw[<-eB,<-eD];rfl
 rw[eT] at hb h;have lk:(I7 l (V7 cs refs)).length=(V7 cs refs).length:=by unfold I7;simp
 have a1:=hb;rw[List.length_append] at hb;have bv:(U3 (V7 cs refs).length++(I7 l (V7 cs refs)).flatMap (fun x=>W3 x.1++W3 x.2)++U3 refs.length++refs.flatMap (Db cs (V7 cs refs))++refs.flatMap (fun (r:Nat)=>(D4 l cs (r:Int)).flatMap (S1 num))++U3 vs.length).length<=1000000000:=by omega
 rw[List.length_append] at hb;have bu:(U3 (V7 cs refs).length++(I7 l (V7 cs refs)).flatMap (fun x=>W3 x.1++W3 x.2)++U3 refs.length++refs.flatMap (Db cs (V7 cs refs))++refs.flatMap (fun (r:Nat)=>(D4 l cs (r:Int)).flatMap (S1 num))).length<=1000000000:=by omega
 rw[List.length_append] at hb;have bs:(U3 (V7 cs refs).length++(I7 l (V7 cs refs)).flatMap (fun x=>W3 x.1++W3 x.2)++U3 refs.length++refs.flatMap (Db cs (V7 cs refs))).length<=1000000000:=by omega
 rw[List.length_append] at hb;have br:(U3 (V7 cs refs).length++(I7 l (V7 cs refs)).flatMap (fun x=>W3 x.1++W3 x.2)++U3 refs.length).length<=1000000000:=by omega
 rw[List.length_append] at hb;have a0:(U3 (V7 cs refs).length++(I7 l (V7 cs refs)).flatMap (fun x=>W3 x.1++W3 x.2)).length<=1000000000:=by omega
 have bq:(U3 (V7 cs refs).length).length<=1000000000:=by rw[List.length_append] at a0;omega
 clear hb eB eD eT
 have b2: ∀x∈refs,(Fv cs x).length<=U9:=fun x hx=>by
  rw[<-Q2q (hr x hx)];exact Q3C hh
 refine X4b hs fun bw w1 σ1 k1 R1=>?_;refine U7 k1.sat rfl rfl rfl fun q9 w2 σ2 k2 o=>?_;have R2:=R1.up k2;refine Pb ?_;refine Y4 k2.sat o rfl ?_;refine Pb ?_;have S2:=R2.stp;refine Q74 k2.sat (hh.lift ⟨S2.le⟩) (ht.lift ⟨S2.le⟩) ok hc b4 (V.lift ⟨S2.le⟩) hr hn fun kv w3 σ3 k3 ak=>?_;have R3:=R2.up k3;have al:=o.up k3;clear R1 R2 k1 k2 k3 o S2;generalize V7 cs refs=g at*;refine Q6 ak ?_;rw[lk];have t: ∀n:Nat,n<=9223372036854775807->Wu (n:Int)=n:=fun n hn=>Q3R Q4;refine Q18 R3 al (by rw[t _ Q4];simpa using bq) fun w4 σ4 bb R4=>?_
 rw[t _ Q4,List.nil_append] at R4;have J:=ak.lift bb;have a5:=al.lift bb;clear R3 ak al;refine Q6 J ?_;refine U8 (I7 l g).length (fun i w'=> ∃σ',SLe σ4 σ'/\WrS w σ bw w' σ' (U3 g.length++((I7 l g).take i).flatMap (fun x=>W3 x.1++W3 x.2))) ⟨σ4,SLe.refl _,by simpa using R4⟩ fun i w5 d hi m=>?_
 obtain ⟨σ5,Y,R5⟩:=m;refine Z4 ?_;refine Q3 (fun e=>?_) (fun e=>?_)
 .have a:i<(I7 l g).length:=by simpa using e
  have L:=J.lift Y;obtain ⟨c0,p1,p2,p3⟩:=L.el a;obtain ⟨rfl,g1,g2⟩:=p3;refine U2 L a ?_;refine Z8 R5.stp.sat p1 rfl ?_;refine Z0 (sz:=2) R5.stp.sat rfl rfl (by intro u hu;simp at hu;rcases hu with rfl | rfl<;>rfl) fun c8 w6 σ6 k6 ac=>?_
  refine X0k k6.sat ac ?_;refine X5W k6.sat ac ?_;refine H0 (R:=V3) (sz:=1) k6.sat [S (I7 l g)[i].1,S (I7 l g)[i].2] [(I7 l g)[i].1,(I7 l g)[i].2] rfl rfl (by simp;exact ⟨rfl,rfl⟩) rfl ⟨⟨rfl,g1⟩,⟨rfl,g2⟩,trivial⟩ fun s w7 σ7 k7 b5=>?_
  have H:=(R5.up k6).up k7;refine Z6 (first:=[.pointer (some ⟨bw,0,none⟩)]) (caps:=[]) ?_
  refine Q9j H b5 (by simpa [List.append_assoc] using Me (f:=fun x=>W3 x.1++W3 x.2) a a0) fun w8 σ8 A B=>?_
  have U:WrS w σ bw w8 σ8 ((U3 g.length++((I7 l g).take i).flatMap (fun x=>W3 x.1++W3 x.2))++(W3 (I7 l g)[i].1++W3 (I7 l g)[i].2)):=by simpa using B
  rw[<-Xd (f:=fun x=>W3 x.1++W3 x.2) a] at U
  (try simp only[↓M1,M1,Mb,reduceIte])
  exact Y9 J.max a ⟨σ8,((Y.more ⟨k6.le⟩).more ⟨k7.le⟩).more A,U⟩
 have ei:i=(I7 l g).length:=by simp at e;omega
 subst ei;rw[List.take_length] at R5;have L:=J.lift Y;have am:=a5.lift Y;clear J a5 R4;have ad:=V.lift ⟨R5.stp.le⟩;refine Q6 ad ?_;rw[aj];refine Q18 R5 am (by rw[t _ Q4];exact br) fun w6 σ6 bc R6=>?_
 rw[t _ Q4] at R6;have a3:=L.lift bc;have an:=am.lift bc;clear R5 L am ad;have M:=V.lift ⟨R6.stp.le⟩;refine Q6 M ?_;rw[aj];refine U8 refs.length (fun i w'=> ∃σ',SLe σ6 σ'/\WrS w σ bw w' σ' ((U3 g.length++(I7 l g).flatMap (fun x=>W3 x.1++W3 x.2)++U3 refs.length)++(refs.take i).flatMap (Db cs g))) ⟨σ6,SLe.refl _,by simpa using R6⟩ fun i w7 d hi m=>?_
 obtain ⟨σ7,Q,H⟩:=m;refine Z4 ?_;refine Q3 (fun e=>?_) (fun e=>?_)
 .have a:i<refs.length:=by simpa using e
  refine Xg (fun _ w'=> ∃σ',SLe σ6 σ'/\WrS w σ bw w' σ' ((U3 g.length++(I7 l g).flatMap (fun x=>W3 x.1++W3 x.2)++U3 refs.length)++(refs.take (i+1)).flatMap (Db cs g))) ?_ (fun z dd w8 hz=>?_)
  .have C:=Me (f:=Db cs g) a bs
   rw[Xd (f:=Db cs g) a];have D:=hr _ (List.getElem_mem a);have b3:=b2 _ (List.getElem_mem a);generalize (U3 g.length++(I7 l g).flatMap (fun x=>W3 x.1++W3 x.2)++U3 refs.length)++(refs.take i).flatMap (Db cs g)=aq at*;unfold Db at C⊢;rw[<-List.append_assoc] at C⊢;refine Q1B H.stp.sat (M.lift Q) a ?_;have bz:=hh.lift ⟨H.stp.le⟩;refine Ih H.stp.sat bz ?_;rw[Q2q D]
   have ax:Lk cs (refs[i]:Nat)=((Qu cs refs[i]).vals.length:Nat):=by
    unfold Lk Qu;rw[if_pos (D5.2 ⟨refs[i],rfl,D⟩),C9 D,List.getD_eq_getElem?_getD,List.getElem?_eq_getElem D];rfl
   have c4:(Qu cs refs[i]).vals.length<=1000000000000:=by
    have:=hN (refs[i]:Nat);unfold El at this;rw[ax] at this
    simpa using this
   generalize Fv cs refs[i]=k at*;refine U7 H.stp.sat rfl rfl rfl fun qk w8 σ8 k8 a6=>?_;refine Pb ?_;have B:=H.up k8;have b1:=(a3.lift Q).up k8;refine Q51 (fun x=>decide (x.1=k)) k8.sat b1 (fun x cs w9 K hx s9 hR hl hK=>?_) fun w9 bx=>?_
   .refine Z6 (first:=[]) (caps:=[.pointer (some qk)]) ?_
    exact Q53 s9 hR a6 hK
   have X:=Stp.of_below k8.sat bx;have U:=B.up X;have a7:=a6.up X
   have bp:(I7 l g).findIdx? (fun x=>decide (x.1=k))=g.findIdx? (fun y=>decide (y=k)):=by
    unfold I7;rw[List.findIdx?_map];rfl
   rw[bp];have o:=((an.lift Q).up k8).up X;refine Q18 U o (by rw[List.length_append] at C;omega) fun bf Z b j=>?_
   refine Y4 j.stp.sat (a7.lift b) rfl ?_;refine X1H k (by unfold U9 at b3;omega) fun ca az=>?_
   have v:=Stp.of_below j.stp.sat az;have p:=j.up v;refine Hl ?_;have bd:=((Q.more ⟨k8.le⟩).more ⟨X.le⟩).more (b.more ⟨v.le⟩)
   by_cases ee:elem k=[]
   .rw[decide_eq_true ee,Bool.not_true]
    refine L1 ?_;rw[if_pos ee,List.append_nil];exact ⟨Z,bd,p⟩
   .rw[decide_eq_false ee,Bool.not_false]
    refine W7 ?_;rw[if_neg ee] at C⊢;refine Q9k p.stp.sat (hh.lift ⟨p.stp.le⟩) ?_;rw[ax];refine Q18 p ((o.lift b).up v) (by rw[t _ Q4];exact C) fun cb ar O E=>?_
    rw[t _ Q4] at E;exact ⟨ar,bd.more O,E⟩
  .obtain ⟨σ8,A,B⟩:=hz
   (try simp only[↓M1,M1,Mb,reduceIte])
   exact Y9 Q4 a ⟨σ8,A,B⟩
 have ei:i=refs.length:=by simp at e;omega
 subst ei;rw[List.take_length] at H;have ao:=an.lift Q;clear R6 a3 an M;have N:=V.lift ⟨H.stp.le⟩;refine Q6 N ?_;rw[aj];generalize U3 g.length++(I7 l g).flatMap (fun x=>W3 x.1++W3 x.2)++U3 refs.length++refs.flatMap (Db cs g)=aq at*;refine U8 refs.length (fun i w'=> ∃σ',SLe σ7 σ'/\WrS w σ bw w' σ' (aq++(refs.take i).flatMap (fun (r:Nat)=>(D4 l cs (r:Int)).flatMap (S1 num)))) ⟨σ7,SLe.refl _,by simpa using H⟩ fun i w8 d hi m=>?_
 obtain ⟨σ8,A,B⟩:=m;refine Z4 ?_;refine Q3 (fun e=>?_) (fun e=>?_)
 .have a:i<refs.length:=by simpa using e
  have C:=Me (f:=fun (r:Nat)=>(D4 l cs (r:Int)).flatMap (S1 num)) a bu;have D:=hr _ (List.getElem_mem a);refine Q1B B.stp.sat (N.lift A) a ?_;have a2:=hh.lift ⟨B.stp.le⟩;refine X1e B.stp.sat a2 (ht.lift ⟨B.stp.le⟩) ok ay (hN _) fun sv w9 σ9 X a9=>?_;have U:=B.up X;refine Q6 a9 ?_;refine X5x U D (a2.lift ⟨X.le⟩) ((ao.lift A).up X) hm ab a9 C fun bf Z b j=>?_;rw[<-Xd (f:=fun (r:Nat)=>(D4 l cs (r:Int)).flatMap (S1 num)) a] at j
  (try simp only[↓M1,M1,Mb,reduceIte])
  exact Y9 Q4 a ⟨Z,(A.more ⟨X.le⟩).more b,j⟩
 have ei:i=refs.length:=by simp at e;omega
 subst ei;rw[List.take_length] at B;have ap:=ao.lift A;clear H ao N;have af:=W.lift ⟨B.stp.le⟩;refine Q6 af ?_;refine Q18 B ap (by rw[t _ Q4];exact bv) fun w9 σ9 b7 U=>?_
 rw[t _ Q4] at U;have o:=ap.lift b7;have ag:=W.lift ⟨U.stp.le⟩;clear B ap af;refine Q6 ag ?_;generalize aq++refs.flatMap (fun (r:Nat)=>(D4 l cs (r:Int)).flatMap (S1 num))++U3 vs.length=be at*;refine U8 vs.length (fun i w'=> ∃σ',SLe σ9 σ'/\WrS w σ bw w' σ' (be++(vs.take i).flatMap (S1 num))) ⟨σ9,SLe.refl _,by simpa using U⟩ fun i bf d hi m=>?_
 obtain ⟨Z,b,j⟩:=m;refine Z4 ?_;refine Q3 (fun e=>?_) (fun e=>?_)
 .have a:i<vs.length:=by simpa using e
  have ae:=ag.lift b;obtain ⟨p1,p2⟩:=Sl.elV ae a;refine U2 ae a ?_;refine Z8 j.stp.sat p1 rfl ?_;refine Z0 (sz:=4) j.stp.sat rfl rfl (Rep.one p2) fun c9 ca df v a4=>?_;have p:=j.up v;refine Y4 p.stp.sat ((o.lift b).up v) rfl ?_;refine Z8 p.stp.sat a4 rfl ?_;refine Q9m p hm ab (x:=vs[i]) (Rep.up v.le p2) (Me (f:=S1 num) a a1) fun cb ar O E=>?_;rw[<-Xd (f:=S1 num) a] at E
  (try simp only[↓M1,M1,Mb,reduceIte])
  exact Y9 W.max a ⟨ar,(b.more ⟨v.le⟩).more O,E⟩
 have ei:i=vs.length:=by simp at e;omega
 subst ei;rw[List.take_length] at j;refine Y4 j.stp.sat (o.lift b) rfl ?_;exact X42 j a1 h)
end Go.Proofs.Y
namespace Go.Hm
open Go.Kd Go.Emb
def Q02 (l:List Cla) (cs:List Cel) (vs:List Val):Q8:=Q01 (Wp (N3 l cs vs)) l cs vs (N3 l cs vs)
def Q12 (ok:Q8->Bool) (cs:List Cel) (vs:List Val):Bool:=vs.any fun v=>decide (Yt ok cs v=[])
def Ue (ok:Q8->Bool) (l:List Cla) (cs:List Cel) (vs:List Val) (o b:Int):Int×Q8:=
 if 64<vs.length\/Q12 ok cs vs=true then (120,[]) else if o<((N3 l cs vs).length:Int) then (121,[]) else if b<((Q02 l cs vs).length:Int) then (122,[]) else (0,Q02 l cs vs)
end Go.Hm
namespace Go.Proofs.Y
open Go.Emb Go.RowKit Go.Kd Go.Hm
variable {w w' : World} {K : Value -> World -> Prop} {σ σ' : Q2} {room : Int} {cs : List Cel} {hp tv : Value} {l : List Cla} {vs : List Val}
structure SendOk (l : List Cla) (cs : List Cel) : Prop where
  ok : Ok l
  good : ∀ c ∈ cs, GoodC I1 l cs c
  len : cs.length <= 1048576
  sz : ∀ r, El cs r <= 1000000000000
  pr : ∀ k, (E7 l k).length <= U9
  b : ∀ vs : List Val, vs.length <= 64 -> Q12 I1 cs vs = false -> (∀ v ∈ vs, VB v) -> (Q02 l cs vs).length <= 1000000000
theorem X2x {x:Val} {c:List Value} {d:Addr} (i:X1 w σ) (f:Glb σ) (hh:O5 σ hp tv room cs) (j:G1 σ x c) (g:J7 σ d [hp]) (h: ∀w',Below w.heap.size w w'->K (.bool (decide (Yt I1 cs x=[]))) w'):Q0 P F.cv [.agg c.toArray, .pointer (some d)] w K:=Q6C (by
 obtain ⟨rfl,_,_,e,_⟩:=j;unfold Q0k V5;refine J1 i fun q w1 σ1 a b=>?_;refine Y4 a.sat (g.up a) rfl ?_;refine Z8 a.sat b rfl ?_;refine X6V a.sat (f.lift ⟨a.le⟩) (hh.lift ⟨a.le⟩) e fun m n k=>?_;refine Qs (u:=[]) ?_;exact h _ (a.trans k).bel)
set_option maxHeartbeats 1000000 in
theorem X5q {vl:Value} {o b:Int} (hs:X1 w σ) (hg:Glb σ) (hh:O5 σ hp tv room cs) (Y:Tab σ tv l) (f:SendOk l cs) (Q:Sl 4 G1 σ vl vs)
 (h: ∀v' w' σ',Stp w σ w' σ'->U0 w.heap.size T.t 1 Qy σ' w' v' (Ue I1 l cs vs o b).2->K (.tuple #[v',I (Ue I1 l cs vs o b).1]) w'):Q0 P F.cM [hp,vl, .agg [I o,I b].toArray] w K:=Q94 (by
 unfold Q3b;simp only[M8];unfold Y2 Y0 X7 X5 X2;obtain ⟨ah,eh⟩: ∃a,hp= .pointer (some a):=by obtain ⟨a,_,e,_⟩:=hh;exact ⟨a,e⟩
 refine V4 hs (by rw[eh];rfl) fun qh w1 σ1 k1 N=>?_
 refine J1 k1.sat fun ql w2 σ2 H O=>?_;have t:=k1.trans H;have p:=Q.up t;unfold Ue at h;refine Q6 p ?_;refine Gb ?_
 by_cases u:64<vs.length
 .rw[decide_eq_true (by omega:(64:Int)<(vs.length:Nat))]
  rw[if_pos (.inl u)] at h
  (repeat refine Hd.h ?_)
  refine W7 ?_;exact h _ _ _ t (U0.of_acc W1.nil)
 rw[decide_eq_false (by omega: ¬(64:Int)<(vs.length:Nat))]
 (repeat refine Hd.h ?_)
 refine Pb ?_;have g:=N.up H
 (repeat refine Hd.h ?_)
 refine Sz (fun x=>decide (Yt I1 cs x=[])) H.sat p (fun x c w3 K Z s3 hR hl hK=>?_) fun w3 J=>?_
 .refine Z6 (first:=[]) (caps:=[.pointer (some qh)]) ?_
  exact X2x s3 (hg.lift ⟨t.le⟩) (hh.lift ⟨t.le⟩) hR g hK
 have V:=Stp.of_below H.sat J;have m:=t.trans V
 (repeat refine Hd.h ?_)
 cases d:Q12 I1 cs vs with
 | true=>
  rw[d,if_pos (.inr rfl)] at h;unfold Q12 at d;rw[d];refine W7 ?_;exact h _ _ _ m (U0.of_acc W1.nil)
 | false=>
 rw[d,if_neg (by rintro (e | e);exact u e;cases e)] at h
 have y:=f.b vs Q4 d fun v U=>by
  obtain ⟨i,hi,rfl⟩:=List.mem_iff_getElem.1 U;exact (Sl.elV p hi).2.2
 unfold Q12 at d;rw[d];refine L1 ?_;have j:=g.up V;have k:=O.up V;have R:=Q.up m;refine Y4 m.sat j rfl ?_;refine Q75 m.sat (hh.lift ⟨m.le⟩) (Y.lift ⟨m.le⟩) f.ok f.good f.len f.sz R fun rl r mm w4 σ4 q C hm M=>?_;have s:=m.trans q;have A: ∀x∈N3 l cs vs,x<cs.length:=fun x Z=>Rn Z;have L:(N3 l cs vs).length<=cs.length:=Q2z Fx A;unfold Q02 at y h;generalize N3 l cs vs=refs at*;refine J0 (vs:=[_,_]) rfl ?_;refine J0 (vs:=[_,_]) rfl ?_;refine Q6 C ?_;rw[show (ints refs).length=refs.length by simp]
 refine Xt ?_;refine ld (i:=0) q.sat (k.up q) rfl ?_;refine Gb ?_
 by_cases E:o<(refs.length:Int)
 .rw[decide_eq_true E]
  rw[if_pos E] at h;refine W7 ?_;exact h _ _ _ s (U0.of_acc W1.nil)
 rw[decide_eq_false E];rw[if_neg E] at h;refine L1 ?_;refine Y4 q.sat (j.up q) rfl ?_;refine X4i q.sat (hh.lift ⟨s.le⟩) (Y.lift ⟨s.le⟩) f.ok f.good f.len f.sz f.pr (Q.up s) C A L hm (num:=Wp refs) (fun n=>by rw[M,X30]) y fun bv w5 σ5 W z=>?_
 have X:=s.trans W;refine Sh z ?_;refine Xt ?_;refine ld (i:=1) W.sat ((k.up q).up W) rfl ?_;refine Gb ?_;generalize Q01 (Wp refs) l cs vs refs=B at*
 by_cases D:b<(B.length:Int)
 .rw[decide_eq_true D]
  rw[if_pos D] at h;refine W7 ?_;exact h _ _ _ X (U0.of_acc W1.nil)
 rw[decide_eq_false D];rw[if_neg D] at h;refine L1 ?_;exact h _ _ _ X (z.mono s.bel.size))
theorem Q6I {x:Val} {o b:Int} (p:X1 w σ) (m:Glb σ) (hh:O5 σ hp tv room cs) (q:Tab σ tv l) (u:SendOk l cs) (r:VB x)
 (h: ∀k w' σ',Stp w σ w' σ'->U0 w.heap.size T.t 1 Qy σ' w' k (Ue I1 l cs [x] o b).2->K (.tuple #[k,I (Ue I1 l cs [x] o b).1]) w'):Q0 P F.aD [hp, .agg [I x.sort,I x.n,S x.s,I x.ref].toArray, .agg [I o,I b].toArray] w K:=X0H (by
 unfold Q4h;simp only[M8];refine J1 p fun y w1 σ1 j f=>?_;refine J1 j.sat fun v B E c e=>?_;refine Z8 c.sat (f.up c) rfl ?_;refine H0 (R:=G1) (sz:=4) c.sat [.agg [I x.sort,I x.n,S x.s,I x.ref].toArray] [x] rfl rfl (by simp;rfl) rfl ⟨⟨rfl,r⟩,trivial⟩ fun A C H d i=>?_
 refine Z8 d.sat (e.up d) rfl ?_;have a:=(j.trans c).trans d;refine X5q d.sat (m.lift ⟨a.le⟩) (hh.lift ⟨a.le⟩) (q.lift ⟨a.le⟩) u i fun z D J t g=>?_;refine J0 (vs:=[_,_]) rfl ?_;refine J0 (vs:=[_,_]) rfl ?_;exact h _ _ _ (a.trans t) (g.mono a.bel.size))
variable {v : Value}
theorem Q6e {c:Cla} {n:Q8} (h:Ct c n=none):G2 c n=none:=by
 unfold G2 Ct at*;rw[List.findIdx?_eq_none_iff] at h;rw[List.find?_eq_none];intro m a;have:=h m a
 simpa using this
theorem Q9y {c:Cla} {n:Q8} {i:Nat} (h:Ct c n=some i): ∃a:i<c.methods.length,G2 c n=some c.methods[i]:=by
 unfold G2 Ct at*;obtain ⟨a,e,d⟩:=List.findIdx?_eq_some_iff_getElem.1 h;refine ⟨a,List.find?_eq_some_iff_getElem.2 ⟨e,i,a,rfl,fun j b=>?_⟩⟩;have:=d j b
 simpa using this
theorem Q5W {n:Q8} (h:lk l n=none):Z7 l n=none:=by
 cases b:Z7 l n with
 | none=>rfl
 | some i=>obtain ⟨c,a,_⟩:=Vu b;rw[h] at a;cases a
set_option maxHeartbeats 1000000 in
theorem X24 {n:Q8} (ok:Ok l): ∀(k:Nat) {c:Cla} {cs:List Value} {w:World} {σ:Q2} {K:Value->World->Prop},K2 l c.name<k->lk l c.name=some c->X1 w σ->Sl 8 W8 σ v l->W8 σ c cs->
 (∀pv cv hv w' Z,Stp w σ w' Z->E6 Z (o2 (W6 l c n)) [S (o2 (W6 l c n)).name,pv,S (o2 (W6 l c n)).result, .bool (o2 (W6 l c n)).abs,I (o2 (W6 l c n)).locals,cv,hv]->
  K (.tuple #[S (o1 (W6 l c n)), .agg [S (o2 (W6 l c n)).name,pv,S (o2 (W6 l c n)).result, .bool (o2 (W6 l c n)).abs,I (o2 (W6 l c n)).locals,cv,hv].toArray, .bool (W6 l c n).isSome]) w')->
 Q0 P F.aI [v, .agg cs.toArray,S n] w K:=by
 intro k
 induction k with
 | zero=>
  intro c cs w σ K hk;omega
 | succ k ih=>
  intro c cs w σ K hk hc hs hv hr h;refine Ax ?_;obtain ⟨lv,fv,mv,rfl,g1,g2,g3,g4,g5⟩:=hr;have D:=Q63 ok.acy hc n;generalize hf:(fun u=>match lk l u with | none=>none | some d=>match G2 d n with | some m=>some (u,m) | none=>W6 l d n)=f at D
  unfold Om;simp only[Z1,Y1,M4,M8];unfold Y2 Z5 U4 X7 X5 X2;refine J1 hs fun a w1 σ1 E ap=>?_;refine I4 E.sat fun b w2 σ2 hb O ay=>?_;have M:w.heap.size<=b:=Qk hb E;have aq:=ap.up O;have g1:=(g1.up E).up O;refine U8 c.like.length (fun i w'=> ∃Z,Stp w σ w' Z/\SLe σ2 Z/\U6 Z w' b [S [], .slice none 0 0,S [], .bool false,I 0, .slice none 0 0, .slice none 0 0]/\(c.like.take i).findSome? f=none) ⟨σ2,E.trans O,SLe.refl _,ay,rfl⟩ fun i w3 d hi ae=>?_;obtain ⟨σ3,e,Y,ah,B⟩:=ae;have X:=hv.up e;have L:=aq.lift Y;have C:=g1.lift Y
  (try simp only[↓M1,M1,Mb,reduceIte])
  refine ld e.sat L rfl ?_;refine Q6 C ?_;refine Z4 ?_;refine Q3 (fun hh=>?_) (fun hh=>?_)
  .have g:i<c.like.length:=by simpa using hh
   (try simp only[↓M1,M1,Mb,reduceIte])
   refine ld e.sat L rfl ?_;refine U2 C g ?_;obtain ⟨p0,_⟩:=C.elS g;refine Y4 e.sat p0 rfl ?_;obtain ⟨d,hd⟩:=ok.full c (L5 hc).2.1 _ (List.getElem_mem g);obtain ⟨N,bl,_⟩:=L5 hd;have p:f c.like[i]=match G2 d n with | some m=>some (c.like[i],m) | none=>W6 l d n:=by rw[<-hf];simp only[hd]
   refine Fy e.sat X hd fun j hj bn=>?_;obtain ⟨af,aw⟩:=List.getElem?_eq_some_iff.1 hj;refine U2 X af ?_;obtain ⟨bx,bj,bz,p1,r1⟩:=X.elC af;rw[aw] at p1 r1;refine Z8 e.sat p1 rfl ?_;refine Z0 e.sat (by rfl) rfl (Rep.one r1) fun q w4 σ4 o R=>?_
   refine Z8 o.sat R rfl ?_;refine Q9E o.sat (RCl_lift r1 ⟨o.le⟩) fun w5 σ5 t=>?_;refine Yg ?_;rw[Vs];have z:=(e.trans o).trans t;have H:=(ah.step o).step t;have a2:=R.up t;have r5:=RCl_lift r1 ⟨(o.trans t).le⟩;have W:=t.sat;have a6:SLe σ2 σ5:=Y.more ⟨(o.trans t).le⟩;clear R p1 r1 p0 L C o t;cases ho:Ct d n with
   | some i2=>
    obtain ⟨av,a1⟩:=Q9y ho;rw[a1] at p;simp only[Option.isSome_some,M9,↓M1,M1,Mb,reduceIte];obtain ⟨_,_,a0,_,_⟩:=r5.parts;obtain ⟨pv,cv,bu,p2,r2⟩:=a0.elM av;refine L9 W ?_
    (repeat refine J9 Md ?_)
    (intros;(repeat (rename_i hx;subst hx));(try simp only[↓M2,M2,Mb,reduceIte]))
    rename_i w6 ac;refine Qt (H.step ac.stp) (z.trans ac.stp) M rfl rfl (Rep.one r2) fun w8 ao az=>?_;refine M6 az rfl ?_;have Q:=D.trans (Yj g B p);rw[Q] at h;rw[N];exact h _ _ _ w8 σ5 ao.stp r2
   | none=>
    rw[Q6e ho] at p;simp only[Option.isSome_none,↓M1,M1,Mb,reduceIte];refine Z8 W a2 rfl ?_;have br:=Qw ok.acy hc (by simp[V8,List.getElem_mem g]:c.like[i]∈V8 c) hd
    refine ih (by rw[N];omega) (by rw[N];exact hd) W (hv.up z) r5 fun pv cv bv w8 σ8 A U=>?_
    refine J0 (vs:=[_,_,_]) rfl ?_;refine J0 (vs:=[_,_,_]) rfl ?_;refine J0 (vs:=[_,_,_]) rfl ?_;refine Z0 A.sat (by rfl) rfl (Rep.one U) fun q w9 σ9 y a3=>?_
    have ab:=(z.trans A).trans y;have ai:=(H.step A).step y;have V:=RMe_lift U ⟨y.le⟩;have a7:SLe σ2 σ9:=a6.more ⟨(A.trans y).le⟩;have a4:=y.sat;cases Q:W6 l d n with
    | some r=>
     obtain ⟨s,m⟩:=r;rw[Q] at p V a3;clear U A y;simp only[Q,Option.isSome_some,↓M1,M1,Mb,reduceIte];refine L9 a4 ?_
     (repeat refine J9 Md ?_)
     (intros;(repeat (rename_i hx;subst hx));(try simp only[↓M2,M2,Mb,reduceIte]))
     rename_i b0 J;refine Qt (ai.step J.stp) (ab.trans J.stp) M rfl rfl (Rep.one V) fun a9 aa ag=>?_;refine M6 ag rfl ?_;have ax:=D.trans (Yj g B p);rw[ax] at h;exact h _ _ _ a9 σ9 aa.stp V
    | none=>
     rw[Q] at p;simp only[Option.isSome_none,↓M1,M1,Mb,reduceIte];refine Y9 (by have:=g1.max;omega) g ⟨σ9,ab,a7,ai,?_⟩
     rw[Yk g B];exact p
  .have g: ¬i<c.like.length:=by simpa using hh
   rw[List.take_of_length_le Q4] at B;refine Ib ?_;refine Qt ah e M rfl rfl (Rep.one (Xr (σ:=σ3))) fun w5 z H=>?_;refine M6 H rfl ?_;have Q:=D.trans B;rw[Q] at h;exact h _ _ _ w5 σ3 z.stp Xr
set_option maxHeartbeats 1000000 in
theorem X0N {k n:Q8} (hs:X1 w σ) (hv:Sl 8 W8 σ v l) (ok:Ok l)
 (h: ∀pv cv hv w' O,Stp w σ w' O->E6 O (o2 (W5 l k n)) [S (o2 (W5 l k n)).name,pv,S (o2 (W5 l k n)).result, .bool (o2 (W5 l k n)).abs,I (o2 (W5 l k n)).locals,cv,hv]->
  K (.tuple #[S (o1 (W5 l k n)), .agg [S (o2 (W5 l k n)).name,pv,S (o2 (W5 l k n)).result, .bool (o2 (W5 l k n)).abs,I (o2 (W5 l k n)).locals,cv,hv].toArray, .bool (W5 l k n).isSome]) w'):
 Q0 P F.b8 [v,S k,S n] w K:=Ko (by
 unfold Mq;simp only[Z1,Y1,M4,M8];unfold Y2 Z5 X5;refine I4 hs fun b w1 σ1 hb V az=>?_;refine Xq V.sat (hv.up V) ?_;unfold W5 at h;generalize hF:(fun c:Cla=>(G2 c n).map (c.name,·))=F1 at h;have ae: ∀c,F1 c=(G2 c n).map (c.name,·):=fun c=>by rw[<-hF]
 refine Q2s (fun m x w'=> ∃s B O,m=(chain l s).length/\x=I (M9 (Z7 l s))/\chain l k=B++chain l s/\Stp w σ w' O/\U6 O w' b [S [], .slice none 0 0,S [], .bool false,I 0, .slice none 0 0, .slice none 0 0]/\B.findSome? F1=none)
  (chain l k).length ⟨k,[],σ1,rfl,rfl,rfl,V,az,rfl⟩ ?_
 rintro Q m x d w2 ⟨s,B,σ2,rfl,rfl,a,C,ak,f⟩ D;have J:=hv.up C;have ab:=C.sat;refine Yg ?_;rw[Vs];cases A:lk l s with
 | some c=>
  obtain ⟨ai,ax,i,R,X⟩:=L5 A;obtain ⟨o,U⟩:=List.getElem?_eq_some_iff.1 X;simp only[R,Option.isSome_some,M9,↓M1,M1,Mb,reduceIte];refine U2 J o ?_;obtain ⟨lv,fv,mv,z,N⟩:=J.elC o;rw[U] at z N;refine Z8 ab z rfl ?_;refine Q9E ab N fun w3 σ3 p=>?_;refine Yg ?_;rw[Vs];have g:=C.trans p;have t:=J.up p;have y:=ak.step p;have u:=p.sat;replace z:=z.up p;replace N:=RCl_lift N ⟨p.le⟩;have j:chain l s=c::chain l c.super:=by rw[Cb ok.acy s,A]
  cases Y:Ct c n with
  | some i2=>
   obtain ⟨ay,a3⟩:=Q9y Y;simp only[Option.isSome_some,M9,↓M1,M1,Mb,reduceIte];obtain ⟨_,_,a2,_,_⟩:=N.parts;obtain ⟨pv,cv,bc,p2,r2⟩:=a2.elM ay;clear p;refine L9 u ?_
   (repeat refine J9 Md ?_)
   (intros;(repeat (rename_i hx;subst hx));(try simp only[↓M2,M2,Mb,reduceIte]))
   rename_i w4 ah;refine Qt (y.step ah.stp) (g.trans ah.stp) hb rfl rfl (Rep.one r2) fun w8 av a1=>?_;refine M6 a1 rfl ?_
   have E:(chain l k).findSome? F1=some (c.name,c.methods[i2]):=by
    rw[a,List.findSome?_append,f,j,List.findSome?_cons,ae,a3];rfl
   rw[E] at h;exact h _ _ _ w8 σ3 av.stp r2
  | none=>
   simp only[Option.isSome_none,↓M1,M1,Mb,reduceIte];refine U2 t o ?_
   (try simp only[↓M1,M1,Mb,reduceIte])
   refine ld u z rfl ?_;refine Xq u t ?_;refine D (chain l c.super).length _ _ (by rw[j,List.length_cons];omega) ⟨c.super,B++[c],σ3,rfl,rfl,by rw[a,j];simp,g,y,?_⟩
   rw[List.findSome?_append,f]
   simp[ae,Q6e Y]
 | none=>
  rw[Q5W A];simp only[Option.isSome_none,↓M1,M1,Mb,reduceIte];have am:(chain l k).findSome? F1=none:=by rw[a,Nd A,List.append_nil];exact f
  rw[am] at h;clear D f a;refine Xq ab J ?_
  refine Q2s (fun m x w'=> ∃s B O,m=(chain l s).length/\x=I (M9 (Z7 l s))/\chain l k=B++chain l s/\Stp w σ w' O/\U6 O w' b [S [], .slice none 0 0,S [], .bool false,I 0, .slice none 0 0, .slice none 0 0]/\B.findSome? (fun c=>W6 l c n)=none)
   (chain l k).length ⟨k,[],σ2,rfl,rfl,rfl,C,ak,rfl⟩ ?_
  rintro Q m x d w3 ⟨s,B,σ3,rfl,rfl,a,g,y,f⟩ D;have t:=hv.up g;have u:=g.sat;refine Yg ?_;rw[Vs];cases A:lk l s with
  | some c=>
   obtain ⟨ai,ax,i,R,X⟩:=L5 A;obtain ⟨o,U⟩:=List.getElem?_eq_some_iff.1 X;simp only[R,Option.isSome_some,M9,↓M1,M1,Mb,reduceIte];refine U2 t o ?_;obtain ⟨lv,fv,mv,z,N⟩:=t.elC o;rw[U] at z N;refine Z8 u z rfl ?_;have j:chain l s=c::chain l c.super:=by rw[Cb ok.acy s,A]
   refine X24 ok _ (Nat.lt_succ_self _) (by rw[ai];exact A) u t N fun pv cv bd w8 σ8 W Z=>?_
   refine J0 (vs:=[_,_,_]) rfl ?_;refine J0 (vs:=[_,_,_]) rfl ?_;refine J0 (vs:=[_,_,_]) rfl ?_;refine Z0 W.sat (by rfl) rfl (Rep.one Z) fun q w9 σ9 H a4=>?_
   have e:=W.trans H;have ag:=g.trans e;have al:=y.step e;have aa:=RMe_lift Z ⟨H.le⟩;have ac:=H.sat;have an:=t.up e;replace z:=z.up e;cases Y:W6 l c n with
   | some r=>
    obtain ⟨s,m⟩:=r;rw[Y] at aa a4;clear Z W H e;simp only[Y,Option.isSome_some,↓M1,M1,Mb,reduceIte];refine L9 ac ?_
    (repeat refine J9 Md ?_)
    (intros;(repeat (rename_i hx;subst hx));(try simp only[↓M2,M2,Mb,reduceIte]))
    rename_i bg L;refine Qt (al.step L.stp) (ag.trans L.stp) hb rfl rfl (Rep.one aa) fun a6 af aj=>?_;refine M6 aj rfl ?_
    have E:(chain l k).findSome? (fun c=>W6 l c n)=some (s,m):=by
     rw[a,List.findSome?_append,f,j,List.findSome?_cons,Y];rfl
    unfold W6 at E;rw[E] at h;exact h _ _ _ a6 σ9 af.stp aa
   | none=>
    simp only[Option.isSome_none,↓M1,M1,Mb,reduceIte];refine U2 an o ?_
    (try simp only[↓M1,M1,Mb,reduceIte])
    refine ld ac z rfl ?_;refine Xq ac an ?_;refine D (chain l c.super).length _ _ (by rw[j,List.length_cons];omega) ⟨c.super,B++[c],σ9,rfl,rfl,by rw[a,j];simp,ag,al,?_⟩
    rw[List.findSome?_append,f]
    simp[Y]
  | none=>
   rw[Q5W A];simp only[Option.isSome_none,↓M1,M1,Mb,reduceIte];have M:(chain l k).findSome? (fun c=>W6 l c n)=none:=by rw[a,Nd A,List.append_nil];exact f
   refine Ib ?_;refine Qt y g hb rfl rfl (Rep.one (Xr (σ:=σ3))) fun w7 ar a0=>?_;refine M6 a0 rfl ?_;unfold W6 at M;rw[M] at h;exact h _ _ _ w7 σ3 ar.stp Xr)
end Go.Proofs.Y
namespace Go.Hm
open Go.Kd
theorem Q2Y: ∀(xs:List Q8) (x:Q8),xs≠[]->H3 (xs++[x])=H3 xs++[44]++x
 | [],_,h=>absurd rfl h
 | [a],x,_=>by simp[H3]
 | a::b::r,x,_=>by
  have:=Q2Y (b::r) x (by simp)
  simp only[List.cons_append] at this⊢;simp only[H3,this]
  simp
theorem Q2Z {xs:List Q8} {n:Nat} (h:n<xs.length):H3 (xs.take (n+1))=H3 (xs.take n)++(if 0<n then [44] else [])++xs[n]:=by
 rw[List.take_add_one,List.getElem?_eq_getElem h];simp only[Option.toList_some];cases n with
 | zero=>simp[H3]
 | succ n=>
  rw[Q2Y _ _ (by intro e;have:=congrArg List.length e;simp only[List.length_take,List.length_nil] at this;omega)]
  simp
end Go.Hm
namespace Go.Proofs.Y
open Go.Emb Go.RowKit Go.Kd Go.Hm
variable {w : World} {K : Value -> World -> Prop} {σ : Q2}
theorem Q88 {m:Hm.Met} {cs:List Value} (C:X1 w σ) (A:E6 σ m cs) (s:SmM m) (r:NmM m) (h: ∀w' E,Stp w σ w' E->K (S (Xs m)) w'):Q0 P F.aO [.agg cs.toArray] w K:=Q0P (by
 obtain ⟨pv,H,R,rfl,f,J,L,M,N,O⟩:=A;unfold Eb Y2 Z5 X7 X5 V5 X2;refine J1 C fun q w1 σ1 g j=>?_;have f:=f.up g
 have z: ∀n,(H3 (m.params.take n)).length<=101000000:=fun n=>by
  have:=Sd (m.params.take n) fun x t=>r.2 x (List.mem_of_mem_take t);have y:(m.params.take n).length<=1000000:=by rw[List.length_take];have:=s.1;omega
  have Q:(m.params.take n).length*101<=1000000*101:=Nat.mul_le_mul_right _ y;omega
 have c:=g.sat;refine O7 m.params.length (fun n a w'=>w'=w1/\a=S ([40]++H3 (m.params.take n))) ⟨rfl,by simp[H3]⟩ fun n a U d B i=>?_
 obtain ⟨D,rfl⟩:=i;subst D;have o:=z n
 (try simp only[↓M1,M1,Mb,reduceIte])
 refine ld c j rfl ?_;refine Q6 f ?_;refine Z4 ?_;refine Q3 (fun p=>?_) (fun p=>?_)
 .have b:n<m.params.length:=by simpa using p
  have t:=r.2 _ (List.getElem_mem b);refine L4 ?_;obtain ⟨u,_⟩:=f.elS b;refine Q3 (fun k=>?_) (fun k=>?_)
  .have e:0<n:=by have:=of_decide_eq_true k;omega
   refine K4 (by simp only[List.length_append,List.length_cons,List.length_nil];omega) ?_
   intro d
   (try simp only[↓M1,M1,Mb,reduceIte])
   refine ld c j rfl ?_;refine U2 f b ?_;refine Y4 c u rfl ?_;refine K4 (by simp only[List.length_append,List.length_cons,List.length_nil];omega) ?_
   (try simp only[↓M1,M1,Mb,reduceIte])
   refine Z9 f.max b ⟨rfl,?_⟩;rw[Q2Z b,if_pos e];simp
  .have e: ¬0<n:=by have:=of_decide_eq_false k;omega
   intro d
   (try simp only[↓M1,M1,Mb,reduceIte])
   refine ld c j rfl ?_;refine U2 f b ?_;refine Y4 c u rfl ?_;refine K4 (by simp only[List.length_append,List.length_cons,List.length_nil];omega) ?_
   (try simp only[↓M1,M1,Mb,reduceIte])
   refine Z9 f.max b ⟨rfl,?_⟩;rw[Q2Z b,if_neg e];simp
 .have b: ¬n<m.params.length:=by simpa using p
  rw[List.take_of_length_le Q4] at o⊢;refine K4 (by simp only[List.length_append,List.length_cons,List.length_nil];omega) ?_
  (try simp only[↓M1,M1,Mb,reduceIte])
  refine ld c j rfl ?_;refine K4 (by simp only[List.length_append,List.length_cons,List.length_nil];have:=r.1;omega) ?_
  exact h _ _ g)
end Go.Proofs.Y
namespace Go.Hm
open Go.Kd
def Edge (l:List Cla) (i j:Nat):Prop:= ∃c,l[i]? =some c/\ ∃u∈V8 c,Z7 l u=some j
inductive Thr (E : Nat -> Nat -> Prop) (n : Nat) : Nat -> Nat -> Prop
  | one {i j : Nat} : E i j -> Thr E n i j
  | more {i m j : Nat} : E i m -> m < n -> Thr E n m j -> Thr E n i j
theorem Thr.cut {E:Nat->Nat->Prop} {n i j:Nat} (h:Thr E (n+1) i j):Thr E n i j\/(Thr E n i n/\Thr E n n j):=by
 induction h with
 | one h=>exact .inl (.one h)
 | @more i m j d f _ c=>
  by_cases e:m<n
  .rcases c with c | ⟨a,b⟩
   .exact .inl (.more d e c)
   .exact .inr ⟨.more d e a,b⟩
  .obtain rfl:m=n:=by omega
   rcases c with c | ⟨a,b⟩
   .exact .inr ⟨.one d,c⟩
   .exact .inr ⟨.one d,b⟩
theorem Thr.join {E:Nat->Nat->Prop} {n i k j:Nat} (h:Thr E n i k) (a:k<n) (g:Thr E n k j):Thr E n i j:=by
 induction h with
 | one h=>exact .more h a g
 | more b c _ d=>exact .more b c (d a g)
theorem Q5T {l:List Cla} (f:A9 l) {i j:Nat} (e:i<l.length):Edge l i j↔j<l.length/\ ∃u∈V8 l[i],u=Y7 l j/\Z7 l u=some j:=by
 unfold Edge;rw[List.getElem?_eq_getElem e];constructor
 .rintro ⟨c,d,u,b,a⟩
  cases d;exact ⟨(G4 a).1,u,b,(G4 a).2.symm,a⟩
 .rintro ⟨_,u,b,_,a⟩
  exact ⟨_,rfl,u,b,a⟩
theorem X2X {l:List Cla} (b:A9 l) {i:Nat} (a:i<l.length):lk l (Y7 l i)=some l[i]:=by
 have:=Zh b a
 rwa [List.getD_eq_getElem?_getD,List.getElem?_eq_getElem a] at this
theorem X3n {l:List Cla} (b:A9 l) {i j:Nat} (a:i<l.length) (h:Thr (Edge l) l.length i j):j<l.length/\Ls (lk l) (Y7 l i) (Y7 l j):=by
 induction h with
 | one h=>
  obtain ⟨d,u,f,e,g⟩:=(Q5T b a).1 h;obtain ⟨c,m,_⟩:=Vu g;refine ⟨d,_,X2X b a,u,f,?_⟩;subst e;exact .refl m
 | more d k _ n=>
  obtain ⟨o,p⟩:=n k;obtain ⟨_,u,f,e,g⟩:=(Q5T b a).1 d;refine ⟨o,_,X2X b a,u,f,?_⟩;subst e;exact p.reach
theorem X20 {l:List Cla} (y:A9 l) {a b:Q8} (h:Hm.Reach (lk l) a b): ∀i j,Z7 l a=some i->Z7 l b=some j->i=j\/Thr (Edge l) l.length i j:=by
 induction h with
 | refl _=>
  intro i j g f;rw[g] at f;cases f;exact .inl rfl
 | step p t s v=>
  rename_i a u b c;intro i j g f;obtain ⟨d,q⟩:=s.left;obtain ⟨_,_,k,n,r⟩:=L5 q;obtain ⟨w,e,m,_⟩:=Vu g;rw[p] at e;cases e;have o:Edge l i k:=⟨c,m,u,t,n⟩
  rcases v k j n f with rfl | hT
  .exact .inr (.one o)
  .exact .inr (.more o (G4 n).1 hT)
theorem X36 {l:List Cla} (e:A9 l) {i j:Nat} (m:i<l.length) (n:j<l.length) (h:Ls (lk l) (Y7 l i) (Y7 l j)):Thr (Edge l) l.length i j:=by
 obtain ⟨c,f,u,r,o⟩:=h;rw[X2X e m] at f;cases f;obtain ⟨d,p⟩:=o.left;obtain ⟨_,_,k,b,q⟩:=L5 p;have g:Edge l i k:=⟨_,List.getElem?_eq_getElem m,u,r,b⟩
 have a:Z7 l (Y7 l j)=some j:=by
  have:=e.find (List.getElem?_eq_getElem n);unfold Y7;rw[List.getD_eq_getElem?_getD,List.getElem?_eq_getElem n];exact this
 rcases X20 e o k j b a with rfl | hT
 .exact .one g
 .exact .more g (G4 b).1 hT
theorem X56 {l:List Cla} (b:A9 l) {i j:Nat} (a:i<l.length) (c:j<l.length):Thr (Edge l) l.length i j↔Vx l (Y7 l i) (Y7 l j)=true:=by
 rw[Mv];exact ⟨fun h=>(X3n b a h).2,X36 b a c⟩
def Jf (l:List Cla):List (List Bool):=(List.range l.length).map fun i=>(List.range l.length).map fun j=>Vx l (Y7 l i) (Y7 l j)
def Gy (m:Nat->Nat->Bool) (i j:Nat) (b:Bool):Nat->Nat->Bool:=fun x y=>if x=i/\y=j then b else m x y
structure Clos (E : Nat -> Nat -> Prop) (n k i j : Nat) (m : Nat -> Nat -> Bool) : Prop where
  sound : ∀ a b, m a b = true -> Thr E n a b
  full : ∀ a b, a < n -> b < n -> Thr E k a b -> m a b = true
  done : ∀ a b, a < n -> b < n -> (a < i \/ (a = i /\ b < j)) -> Thr E (k + 1) a b -> m a b = true
theorem Clos.next {E:Nat->Nat->Prop} {n k i j:Nat} {m:Nat->Nat->Bool} (h:Clos E n k i j m) (q:k<n) (s:i<n) (t:j<n):Clos E n k i (j+1) (Gy m i j (m i j||(m i k&&m k j))):=by
 have f: ∀a b,m a b=true->Gy m i j (m i j||(m i k&&m k j)) a b=true:=by
  intro a b c;unfold Gy
  split
  .rename_i e;rw[<-e.1,<-e.2,c];rfl
  .exact c
 refine ⟨fun a b c=>?_,fun a b o p l=>f a b (h.full a b o p l),fun a b o p r l=>?_⟩
 .unfold Gy at c
  split at c
  .rename_i e
   obtain ⟨rfl,rfl⟩:=e;simp only[Bool.or_eq_true,Bool.and_eq_true] at c
   rcases c with d | ⟨d,g⟩
   .exact h.sound _ _ d
   .exact (h.sound _ _ d).join q (h.sound _ _ g)
  .exact h.sound _ _ c
 .by_cases e:a=i/\b=j
  .obtain ⟨rfl,rfl⟩:=e
   unfold Gy;rw[if_pos ⟨rfl,rfl⟩]
   rcases l.cut with d | ⟨d,g⟩
   .rw[h.full _ _ s t d];rfl
   .rw[h.full _ _ s q d,h.full _ _ q t g];simp
  .refine f a b (h.done a b o p ?_ l)
   rcases r with d | ⟨d,g⟩
   .exact .inl d
   .right;refine ⟨d,?_⟩
    have:b≠j:=fun u=>e ⟨d,u⟩;omega
theorem Clos.row {E:Nat->Nat->Prop} {n k i:Nat} {m:Nat->Nat->Bool} (h:Clos E n k i n m):Clos E n k (i+1) 0 m:=
 ⟨h.sound,h.full,fun a b d e f c=>h.done a b d e (by omega) c⟩
theorem Clos.round {E:Nat->Nat->Prop} {n k:Nat} {m:Nat->Nat->Bool} (h:Clos E n k n 0 m):Clos E n (k+1) 0 0 m:=
 ⟨h.sound,fun a b c e d=>h.done a b c e (.inl c) d,fun a b c e f d=>by omega⟩
theorem Clos.start {E:Nat->Nat->Prop} {n:Nat} {m:Nat->Nat->Bool} (h: ∀a b,a<n->(m a b=true↔E a b)) (g: ∀a b,n<=a->m a b=false):Clos E n 0 0 0 m:=by
 refine ⟨fun a b c=>?_,fun a b d i f=>?_,fun a b d i j f=>by omega⟩
 .by_cases d:a<n
  .exact .one ((h a b d).1 c)
  .rw[g a b (by omega)] at c;cases c
 .cases f with
  | one e=>exact (h a b d).2 e
  | more _ k _=>omega
theorem Clos.all {l:List Cla} (c:A9 l) {m:Nat->Nat->Bool} (h:Clos (Edge l) l.length l.length 0 0 m) {i j:Nat} (a:i<l.length) (b:j<l.length):m i j=Vx l (Y7 l i) (Y7 l j):=by
 rw[Bool.eq_iff_iff,<-X56 c a b];exact ⟨h.sound i j,h.full i j a b⟩
end Go.Hm
namespace Go.Emb
open Go.RowKit Go.Hm
variable {P : Program} {w w0 w' : World} {K : Value -> World -> Prop} {σ σ0 σ1 σ' : Q2}
theorem X60 {t e:TypeId} {a n:Nat} {z:Value} [ts:TS P t e] [tz:TZ P e 1 a z] (j:X1 w σ) (m:z.cells= #[z]) (p:n<=1000000) (o:a*n<=281474976710656)
 (h: ∀b w',w.heap.size<=b->Stp w σ w' σ->U6 σ w' b (List.replicate n z)->K (.slice (some ⟨b,0,none⟩) n n) w'):Q2t P t (I n) (I n) w K:=by
 obtain ⟨i,k,d,g,c⟩:=tz.info
 have f:(i.bytes:Int)*(n:Int)<=281474976710656:=by
  rw[g];have:((a*n:Nat):Int)<=281474976710656:=by omega
  rwa [Int.natCast_mul] at this
 have l:=run_makeSlice (P:=P) w t e i z ts.h k c .i64 .i64 (n:Int) (n:Int) Q4 (Int.le_refl _) (by rw[d];simp only[Int.toNat_natCast];omega) f Q4
 unfold Q2t;rw[Y3 l];simp only[Int.toNat_natCast,d,Nat.mul_one];refine h _ _ (Nat.le_refl _) (Stp.own j _) ⟨j.none (Nat.le_refl _),e,?_⟩;rw[heap_alloc_new,m];have:madeCells #[z] n=(List.replicate n z).toArray:=by rw[<-toList_madeCells_one,Array.toArray_toList]
 rw[this]
def Q6T (n:Nat) (_:Q2) (b:Nat) (cs:List Value):Prop:=cs=[.slice (some ⟨b,0,none⟩) n n]
instance (n:Nat):Rep (Q6T n):=⟨fun _ h=>h,fun h u hu=>by rw[h] at hu;simp at hu;subst hu;rfl⟩
def X14 (σ:Q2) (xs:List Bool) (cs:List Value):Prop:= ∃v,cs=[v]/\Sl 1 Q3S σ v xs
instance:Rep X14:=⟨fun k h=>by obtain ⟨v,h1,h2⟩:=h;exact ⟨v,h1,h2.le k⟩,fun h u hu=>by
 obtain ⟨v,rfl,a,cap,rfl,_⟩:=h
 simp at hu;subst hu;rfl⟩
def bools (n:Nat) (f:Nat->Bool):List Value:=(List.range n).map fun j=> .bool (f j)
theorem Q13 {n:Nat} {f:Nat->Bool}:(bools n f).length=n:=by simp[bools]
theorem Q5J {n j:Nat} {f:Nat->Bool} (h:j<n):(bools n f)[j]? =some (.bool (f j)):=by simp[bools,h]
theorem Q5K {n j:Nat} {f:Nat->Bool} {b:Bool}:(bools n f).set j (.bool b)=bools n (fun x=>if x=j then b else f x):=by
 apply List.ext_getElem?;intro k;rw[List.getElem?_set]
 by_cases a:k<n
 .by_cases e:j=k
  .subst e;simp[bools,a]
  .have c: ¬k=j:=fun h=>e h.symm
   simp[bools,a,e,c]
 .simp[bools,a]
  intro e;omega
theorem Q8s {n:Nat}:List.replicate n (Value.bool false)=bools n fun _=>false:=by
 apply List.ext_getElem?;intro k
 by_cases a:k<n<;>simp[bools,a]
def Xu (σ:Q2) (w:World) (a:List Nat) (n:Nat) (m:Nat->Nat->Bool):Prop:=a.Nodup/\ ∀i (h:i<a.length),U6 σ w a[i] (bools n (m i))
theorem Xu.up {a:List Nat} {n:Nat} {m:Nat->Nat->Bool} (h:Xu σ w a n m) (k:Stp w σ w' σ'):Xu σ' w' a n m:=⟨h.1,fun i b=>(h.2 i b).up k⟩
theorem Xu.kp {a:List Nat} {n:Nat} {m:Nat->Nat->Bool} {D:Nat->Prop} (h:Xu σ w a n m) (k:Kpt D w w') (d: ∀b∈a,¬D b):Xu σ w' a n m:=⟨h.1,fun i c=>(h.2 i c).kp k (d _ (List.getElem_mem c))⟩
theorem Xu.lt {a:List Nat} {n:Nat} {m:Nat->Nat->Bool} (h:Xu σ w a n m) {b:Nat} (d:b∈a):b<w.heap.size/\σ b=none:=by
 obtain ⟨i,c,rfl⟩:=List.getElem_of_mem d;exact ⟨(h.2 i c).lt,(h.2 i c).1⟩
theorem Xu.snoc {d:List Nat} {n b:Nat} {m:Nat->Nat->Bool} {f:Nat->Bool} (h:Xu σ w d n m) (l:b∉d) (p:U6 σ w b (bools n f)):Xu σ w (d++[b]) n (fun x=>if x=d.length then f else m x):=by
 refine ⟨by rw[List.nodup_append];exact ⟨h.1,by simp,fun a k c g e=>by simp at g;subst g;subst e;exact l k⟩,fun i o=>?_⟩
 rw[List.length_append,List.length_singleton] at o
 by_cases j:i<d.length
 .rw[List.getElem_append_left j]
  simp only[if_neg (show¬i=d.length by omega)]
  exact h.2 i j
 .obtain rfl:i=d.length:=by omega
  simp only[List.getElem_concat_length,if_true];exact p
theorem Xu.congr {a:List Nat} {n:Nat} {m m':Nat->Nat->Bool} (h:Xu σ w a n m) (c: ∀i,i<a.length->m i=m' i):Xu σ w a n m':=⟨h.1,fun i b=>c i b▸h.2 i b⟩
theorem Xu.keep {a:List Nat} {n:Nat} {m:Nat->Nat->Bool} (U:0<n) (u:n<=1000000): ∀{σ:Q2},Xu σ w a n m->Stp w0 σ0 w σ->(∀b∈a,w0.heap.size<=b)-> ∃σ',Stp w0 σ0 w σ'/\SLe σ σ'/\ ∀i (h:i<a.length),Sl 1 Q3S σ' (.slice (some ⟨a[i],0,none⟩) n n) ((List.range n).map (m i)):=by
 intro σ h C D
 have key: ∀k,k<=a.length-> ∃σ',Stp w0 σ0 w σ'/\SLe σ σ'/\(∀i (h:i<a.length),i<k->J7 σ' ⟨a[i],0,none⟩ (bools n (m i)))/\ ∀i (h:i<a.length),k<=i->σ' a[i]=none:=by
  intro k
  induction k with
  | zero=>intro _;exact ⟨σ,C,SLe.refl _,fun i _ h=>by omega,fun i c _=>(h.2 i c).1⟩
  | succ k M=>
   intro R;obtain ⟨σ1,f,g,l,s⟩:=M Q4;have d:k<a.length:=by omega
   have L:U6 σ1 w a[k] (bools n (m k)):=⟨s k d (Nat.le_refl _),(h.2 k d).2⟩;obtain ⟨Q,z,A,r,B⟩:=L.keep f (D _ (List.getElem_mem d));refine ⟨Q,z,g.more ⟨r⟩,fun i c H=>?_,fun i c J=>?_⟩
   .by_cases e:i=k
    .subst e;exact A
    .exact (l i c Q4).le r
   .rw[B]
    .exact s i c Q4
    .intro e
     have:=List.nodup_iff_pairwise_ne.1 h.1;rw[List.pairwise_iff_getElem] at this;exact this k i d c Q4 e.symm
 obtain ⟨σ1,f,g,l,_⟩:=key a.length (Nat.le_refl _);refine ⟨σ1,f,g,fun i c=>⟨some ⟨a[i],0,none⟩,n,by simp,by simp,by simp only[maxLen];omega,fun e=>(by cases e),?_⟩⟩
 intro b E;obtain rfl:=Option.some.inj E;refine ⟨fun _=>rfl,fun j x p=>?_⟩;have t:j<n:=by have:=(List.getElem?_eq_some_iff.1 p).1;simpa using this
 obtain ⟨V,P7,e,y,N,O⟩:=l i c c;have q:x=m i j:=by simp[t] at p;exact p.symm
 refine ⟨[.bool x],⟨Qf rfl _,P7,e,y,by rw[P6];exact N,fun k v o=>?_⟩,rfl,rfl⟩
 obtain rfl:k=0:=by cases k with
  | zero=>rfl
  | succ k=>simp at o
 simp at o
 rw[Vm,<-o,q];have:=O j _ (Q5J t)
 simpa using this
theorem Q2E {t e:TypeId} {sz b:Nat} {z:Value} [ts:TS P t e] [tz:TZ P e sz b z] {a:Addr} {n c i:Nat} (f:i<n) (d:K (.pointer (some (a.add (i*sz)))) w):indexAddr P t (.slice (some a) n c) (I i) w K:=by
 rw[Ix Q4 Q4]
 simpa using d
theorem Xu.nx {D:Nat->Prop} {a:List Nat} {n:Nat} {m:Nat->Nat->Bool} (h:Xu σ w a n m) (k:Nxt D w σ w' σ') (d: ∀b∈a,¬D b):Xu σ' w' a n m:=
 ⟨h.1,fun i c=>(h.2 i c).nx k (d _ (List.getElem_mem c))⟩
theorem Xu.set {a:List Nat} {n i j:Nat} {b:Bool} {m:Nat->Nat->Bool} (h:Xu σ w a n m) (f:i<a.length) (o:Upd w a[i] w') (g:U6 σ w' a[i] ((bools n (m i)).set j (.bool b))):Xu σ w' a n (Gy m i j b):=by
 refine ⟨h.1,fun k c=>?_⟩
 by_cases e:k=i
 .subst e
  rw[Q5K] at g;have:Gy m k j b k=fun x=>if x=j then b else m k x:=by funext x;simp[Gy]
  rw[this];exact g
 .have:Gy m i j b k=m k:=by funext x;simp[Gy,e]
  rw[this];refine (h.2 k c).upd o fun d=>e ?_
  rcases Nat.lt_trichotomy k i with hlt | hlt | hlt
  .have:=List.nodup_iff_pairwise_ne.1 h.1
   rw[List.pairwise_iff_getElem] at this;exact absurd d (this k i c f hlt)
  .exact hlt
  .have:=List.nodup_iff_pairwise_ne.1 h.1
   rw[List.pairwise_iff_getElem] at this;exact absurd d.symm (this i k f c hlt)
end Go.Emb
namespace Go.Proofs.Y
open Go.Emb Go.RowKit Go.Kd Go.Hm
variable {w : World} {K : Value -> World -> Prop} {σ : Q2} {l : List Cla} {v : Value}
def Nh (l:List Cla) (i j:Nat):Bool:=match l[i]? with
 | none=>false
 | some c=>(V8 c).any fun u=>decide (Z7 l u=some j)
theorem X1v (l:List Cla) (i j:Nat):Nh l i j=true↔Hm.Edge l i j:=by
 unfold Nh Hm.Edge;cases h:l[i]? with
 | none=>simp
 | some c=>simp[List.any_eq_true]
theorem X1w {l:List Cla} {i j:Nat} (h:l.length<=i):Nh l i j=false:=by
 unfold Nh;rw[List.getElem?_eq_none h]
set_option maxRecDepth 9999 in
set_option maxHeartbeats 4000000 in
theorem Q6i (hs:X1 w σ) (hl:Sl 8 W8 σ v l) (ho:A9 l) (hpos:0<l.length) (hlen:l.length<=1000) (hsm: ∀c∈l,Qe c)
 (h: ∀v' w' σ',Stp w σ w' σ'->Sl 1 X14 σ' v' (Jf l)->K v' w'):Q0 P F.aH [v] w K:=Au (by
 unfold Oi;simp only[Z1,Y1,D0,En];unfold Z5 U4 W0 zgf X7 X5 X2;refine Q14 (R:=Q6T l.length) (e:=T.a7) (Stp.refl hs) M5 fun x0 w1 hk1 ha1 _=>?_;refine O7 l.length (fun n x w'=> ∃σ' bs,Stp w σ w' σ'/\W1 w.heap.size T.a7 1 (Q6T l.length) σ' w' x bs/\Xu σ' w' bs l.length (Nh l)/\bs.length=n/\ ∀b∈bs,w.heap.size<=b/\x.ownBlock≠some b) ⟨σ,[],hk1,ha1,⟨List.nodup_nil,by simp⟩,rfl,by simp⟩ fun n x w2 d hn hinv=>?_
 obtain ⟨σ2,bs,hS2,ha2,hM2,hbl,hb2⟩:=hinv;refine Q6 (hl.up hS2) ?_;refine Z4 ?_;refine Q3 (fun hc=>?_) (fun hc=>?_)
 .have hn':n<l.length:=by simpa using hc
  have hl2:=hl.up hS2;refine Q6 hl2 ?_;refine X60 hS2.sat rfl Q4 Q4 fun b w3 hb3 hk3 hm3=>?_;rw[Q8s] at hm3;obtain ⟨lv,fv,mv,p1,r1⟩:=hl2.elC hn';obtain ⟨g1,_,_,g4,g5⟩:=r1.parts;have hsmc:=hsm _ (List.getElem_mem hn');have hs3:=hk3.sat;refine L9 hs3 ?_
  (repeat refine J9 Md ?_)
  refine Q5b (w:=w3) (σ:=σ2) (R:=V3) (sz:=1) (e:=T.b) [l[n].super] (fun t w hb e=>?_) ?_
  .subst e;exact Yh hb.stp [_] [l[n].super] rfl rfl (by simp;rfl) rfl ⟨⟨rfl,g5⟩,trivial⟩ fun v' w' hk ha _=>Q7d hb hk ha
  (repeat refine J9 Md ?_)
  rintro t24 t25 t30 t31 t26 t27 t32 w4 hb4 rfl rfl rfl rfl rfl ⟨f27,a27⟩ rfl;refine Hk f27 a27 g1 rfl (by simp;have:=hsmc.1;omega) (by simp;have:=hsmc.1;omega) fun v5 w5 hn5 hS5 ha5 hat5=>?_
  obtain ⟨σ6,hS6,hv6,le6,_⟩:=ha5.keep hS5;have hv6:Sl 1 V3 σ6 v5 (V8 l[n]):=hv6;have hb3w:w.heap.size<=b:=Nat.le_trans hS2.bel.size hb3;have hm6:=hm3.up hS6;have ha6:=(ha2.up hk3).up hS6;have hM6:=(hM2.up hk3).up hS6;have hS26:=(hS2.trans hk3).trans hS6;have hxb: ∀k,x.ownBlock=some k->k≠b:=fun k e=>by have:=(ha2.mem k e).2.1;omega
  have hbbs:b∉bs:=fun e=>by have:=(hM2.lt e).1;omega
  clear hm3 ha2 hM2 hS6 hS5 ha5 a27 f27 hn5 hat5
  refine U8 (V8 l[n]).length (fun k w'=>Stp w σ w' σ6/\W1 w.heap.size T.a7 1 (Q6T l.length) σ6 w' x bs/\Xu σ6 w' bs l.length (Nh l)/\U6 σ6 w' b (bools l.length fun j=>((V8 l[n]).take k).any fun u=>decide (Z7 l u=some j)))
   ⟨hS26,ha6,hM6,hm6⟩ fun k w7 d7 hk hinv=>?_
  obtain ⟨hS7,ha7,hM7,hm7⟩:=hinv;refine Q6 hv6 ?_;refine Z4 ?_;refine Q3 (fun hc=>?_) (fun hc=>?_)
  .have hk':k<(V8 l[n]).length:=by simpa using hc
   refine L4 ?_;refine U2 hv6 hk' ?_;obtain ⟨p2,p3⟩:=hv6.elS hk';refine Y4 hS7.sat p2 rfl ?_;refine Xq hS7.sat (hl.up hS7) ?_;refine Yg ?_;rw[Vs]
   have hnx: ∀f:Nat->Bool,(∀j,f j=(((V8 l[n]).take k).any (fun u=>decide (Z7 l u=some j))||decide (Z7 l (V8 l[n])[k]=some j)))->f=fun j=>((V8 l[n]).take (k+1)).any fun u=>decide (Z7 l u=some j):=by
    intro f hf;funext j;rw[hf,D6 hk']
   cases hfc:Z7 l (V8 l[n])[k] with
   | none=>
    simp only[Option.isSome_none,↓M1,M1,Mb,reduceIte];intro d;refine Y9 hv6.max hk' ⟨hS7,ha7,hM7,?_⟩;rw[<-hnx (fun j=>((V8 l[n]).take k).any fun u=>decide (Z7 l u=some j)) (fun j=>by rw[hfc];simp)]
    exact hm7
   | some j=>
    have hj:=(G4 hfc).1;simp only[Option.isSome_some,M9,↓M1,M1,Mb,reduceIte];refine Q2E hj ?_;rw[Nat.mul_one];refine Bn hm7 (by rw[Q13];exact hj) (by rfl) (by rfl) fun w8 u8 hm8=>?_
    intro d;rw[Q5K] at hm8;refine Y9 hv6.max hk' ⟨u8.stp hS7 hb3w hm7.1,ha7.kp (D:=(· =b)) (.of_upd u8 rfl) hxb,hM7.kp (D:=(· =b)) (.of_upd u8 rfl) (fun c hc e=>hbbs (e▸hc)),?_⟩;rw[<-hnx (fun x=>if x=j then true else _) (fun i=>?_)]
    .exact hm8
    .rw[hfc]
     by_cases e:i=j
     .subst e;simp
     .have: ¬j=i:=fun e'=>e e'.symm
      simp[e,this]
  .have hk': ¬k<(V8 l[n]).length:=by simpa using hc
   have hk0:k=(V8 l[n]).length:=by omega
   subst hk0;rw[List.take_of_length_le (Nat.le_refl _)] at hm7
   have hef:(fun j=>(V8 l[n]).any fun u=>decide (Z7 l u=some j))=Nh l n:=by
    funext j;unfold Nh;rw[List.getElem?_eq_getElem hn']
   rw[hef] at hm7
   have hM8:=(hM7.snoc hbbs hm7).congr (m':=Nh l) (fun i _=>by
    by_cases e:i=bs.length
    .rw[if_pos e,e,hbl]
    .rw[if_neg e])
   refine Za (R:=Q6T l.length) (x:=b) hS7 ha7 rfl rfl rfl rfl Q4 Q4 fun s v' w9 σ9 hnx hS9 ha9 hat=>?_
   have hdis: ∀c∈bs++[b],w.heap.size<=c/\x.ownBlock≠some c:=by
    intro c hc
    rcases List.mem_append.1 hc with hc | hc
    .exact hb2 c hc
    .simp at hc;subst hc;exact ⟨hb3w,fun e=>hxb _ e rfl⟩
   have hlt9: ∀c∈bs++[b],c<w7.heap.size:=fun c hc=>(hM8.lt hc).1;refine H8 ?_;refine Z9 Q4 hn' ⟨σ9,bs++[b],hS9,ha9,hM8.nx hnx (fun c hc=>(hdis c hc).2),by rw[List.length_append,hbl];rfl,fun c hc=>⟨(hdis c hc).1,fun e=>?_⟩⟩
   rcases hat with hat | hat
   .exact (hdis c hc).2 (hat▸e)
   .have:=hat c e;have:=hlt9 c hc;omega
 .have hn0:n=l.length:=by
   have: ¬n<l.length:=by simpa using hc
   omega
  obtain ⟨σ8,hS8,hv8,le8,old8⟩:=ha2.keep hS2;have hlb:bs.length=l.length:=by omega
  have hM8:Xu σ8 w2 bs l.length (Nh l):=⟨hM2.1,fun i hi=>⟨(old8 _ (fun e=>(hb2 _ (List.getElem_mem hi)).2 e.symm)).trans (hM2.2 i hi).1,(hM2.2 i hi).2⟩⟩
  have hpx: ∀i (hi:i<bs.length),J7 σ8 (Ij 1 x i) [.slice (some ⟨bs[i],0,none⟩) l.length l.length]:=fun i hi=>by
   obtain ⟨cs,h1,_,h2⟩:=hv8.el hi;have h2:cs=_:=h2;subst h2;exact h1
  clear ha2 hM2 hS2 le8 old8;refine U8 l.length (fun k w'=> ∃m,Stp w σ w' σ8/\Xu σ8 w' bs l.length m/\Clos (Hm.Edge l) l.length k 0 0 m) ⟨Nh l,hS8,hM8,Clos.start (fun a b _=>X1v l a b) (fun a b h=>X1w h)⟩ fun k w3 d3 hk3 hinv=>?_;obtain ⟨m3,hS3,hM3,hC3⟩:=hinv;refine Q6 (hl.up hS3) ?_;refine Z4 ?_;refine Q3 (fun hc=>?_) (fun hc=>?_)
  .have hk':k<l.length:=by simpa using hc
   refine U8 l.length (fun i w'=> ∃m,Stp w σ w' σ8/\Xu σ8 w' bs l.length m/\Clos (Hm.Edge l) l.length k i 0 m) ⟨m3,hS3,hM3,hC3⟩ fun i w4 d4 hi4 hinv=>?_;obtain ⟨m4,hS4,hM4,hC4⟩:=hinv;refine Q6 (hl.up hS4) ?_;refine Z4 ?_;refine Q3 (fun hc=>?_) (fun hc=>?_)
   .have hi':i<l.length:=by simpa using hc
    refine U8 l.length (fun j w'=> ∃m,Stp w σ w' σ8/\Xu σ8 w' bs l.length m/\Clos (Hm.Edge l) l.length k i j m) ⟨m4,hS4,hM4,hC4⟩ fun j w5 d5 hj5 hinv=>?_;obtain ⟨m5,hS5,hM5,hC5⟩:=hinv;refine Q6 (hl.up hS5) ?_;refine Z4 ?_;refine Q3 (fun hc=>?_) (fun hc=>?_)
    .have hj':j<l.length:=by simpa using hc
     have hi6:i<bs.length:=by omega
     have hk6:k<bs.length:=by omega
     have px_i:=hpx i hi6;have px_k:=hpx k hk6
     have hrd: ∀{w':World} {K:Value->World->Prop} {a b:Nat} {ha:a<bs.length},Hst w5 σ8 w' σ8->b<l.length->K (.bool (m5 a b)) w'->Q9 P T.n (.pointer (some ((⟨bs[a],0,none⟩:Addr).add (b*1)))) w' K:=fun hst hb hK=>by
      rw[Nat.mul_one];exact Yo (((hM5.up hst.stp).2 _ _).cell (Q5J hb)) hK
     refine L9 hS5.sat ?_
     (repeat (apply J9;(· intros;(repeat (rename_i hx;subst hx));(repeat' (first | (with_reducible exact J3 rfl) | (with_reducible exact Qv (Stp.bel (by (repeat (first | exact Stp.refl (by (first | assumption | exact Stp.sat Q7 | exact Hst.sat Q7)) | assumption | refine Stp.trans ?_ (by first | assumption | exact Hst.stp Q7))))) rfl) | (with_reducible intro _) | (simp only[↓M2,M2,Mb,reduceIte]) | (with_reducible refine Q2E au ?_) | (with_reducible refine hrd au au ?_) | (with_reducible show Q9 _ _ _ _ _;first | refine Y4 aS aL aR ?_ | refine Z8 aS aL aR ?_ | refine ld aS aL aR ?_) | (with_reducible show indexAddr _ _ _ _ _ _;refine U2 aL au ?_) | (with_reducible show V9 _ _ _ _ _ _ _ _;refine Q6 aL ?_) | (with_reducible show Nk _ _ _ _ _ _;refine L6 aR ?_) | (with_reducible show pick _ _ _ _ _ _;refine Lm ?_) | (apply Ot;intro hh;(try simp only[hh,reduceIte,↓M2,M2,Mb,reduceIte]))));done)))
     cases h1:m5 i j
     .simp only[reduceIte]
      (repeat (apply J9;(· intros;(repeat (rename_i hx;subst hx));(repeat' (first | (with_reducible exact J3 rfl) | (with_reducible exact Qv (Stp.bel (by (repeat (first | exact Stp.refl (by (first | assumption | exact Stp.sat Q7 | exact Hst.sat Q7)) | assumption | refine Stp.trans ?_ (by first | assumption | exact Hst.stp Q7))))) rfl) | (with_reducible intro _) | (simp only[↓M2,M2,Mb,reduceIte]) | (with_reducible refine Q2E au ?_) | (with_reducible refine hrd au au ?_) | (with_reducible show Q9 _ _ _ _ _;first | refine Y4 aS aL aR ?_ | refine Z8 aS aL aR ?_ | refine ld aS aL aR ?_) | (with_reducible show indexAddr _ _ _ _ _ _;refine U2 aL au ?_) | (with_reducible show V9 _ _ _ _ _ _ _ _;refine Q6 aL ?_) | (with_reducible show Nk _ _ _ _ _ _;refine L6 aR ?_) | (with_reducible show pick _ _ _ _ _ _;refine Lm ?_) | (apply Ot;intro hh;(try simp only[hh,reduceIte,↓M2,M2,Mb,reduceIte]))));done)))
      (intros;(repeat (rename_i hx;subst hx));(try simp only[↓M2,M2,Mb,reduceIte]))
      rename_i w6 hb6;refine Q2E hj' ?_;rw[Nat.mul_one];refine Eq.subst (motive:=fun V=>M3 P T.n (.pointer (some ((⟨bs[i],0,none⟩:Addr).add j))) V w6 _) (show Value.bool (m5 i j||(m5 i k&&m5 k j))=_ from by cases h2:m5 i k<;>simp[h1,h2]) ?_
      refine Bn ((hM5.up hb6.stp).2 i hi6) (by rw[Q13];exact hj') (by rfl) (by rfl) fun w7 u7 hm7=>?_
      (try simp only[↓M1,M1,Mb,reduceIte])
      exact Y9 Q4 hj' ⟨_,u7.stp (hS5.trans hb6.stp) (hb2 _ (List.getElem_mem hi6)).1 hm7.1,(hM5.up hb6.stp).set hi6 u7 hm7,hC5.next hk' hi' hj'⟩
     .simp only[Bool.true_eq_false,reduceIte]
      (repeat (apply J9;(· intros;(repeat (rename_i hx;subst hx));(repeat' (first | (with_reducible exact J3 rfl) | (with_reducible exact Qv (Stp.bel (by (repeat (first | exact Stp.refl (by (first | assumption | exact Stp.sat Q7 | exact Hst.sat Q7)) | assumption | refine Stp.trans ?_ (by first | assumption | exact Hst.stp Q7))))) rfl) | (with_reducible intro _) | (simp only[↓M2,M2,Mb,reduceIte]) | (with_reducible refine Q2E au ?_) | (with_reducible refine hrd au au ?_) | (with_reducible show Q9 _ _ _ _ _;first | refine Y4 aS aL aR ?_ | refine Z8 aS aL aR ?_ | refine ld aS aL aR ?_) | (with_reducible show indexAddr _ _ _ _ _ _;refine U2 aL au ?_) | (with_reducible show V9 _ _ _ _ _ _ _ _;refine Q6 aL ?_) | (with_reducible show Nk _ _ _ _ _ _;refine L6 aR ?_) | (with_reducible show pick _ _ _ _ _ _;refine Lm ?_) | (apply Ot;intro hh;(try simp only[hh,reduceIte,↓M2,M2,Mb,reduceIte]))));done)))
      (intros;(repeat (rename_i hx;subst hx));(try simp only[↓M2,M2,Mb,reduceIte]))
      rename_i w6 hb6;refine Q2E hj' ?_;rw[Nat.mul_one];refine Eq.subst (motive:=fun V=>M3 P T.n (.pointer (some ((⟨bs[i],0,none⟩:Addr).add j))) V w6 _) (show Value.bool (m5 i j||(m5 i k&&m5 k j))=_ from by simp[h1]) ?_
      refine Bn ((hM5.up hb6.stp).2 i hi6) (by rw[Q13];exact hj') (by rfl) (by rfl) fun w7 u7 hm7=>?_
      (try simp only[↓M1,M1,Mb,reduceIte])
      exact Y9 Q4 hj' ⟨_,u7.stp (hS5.trans hb6.stp) (hb2 _ (List.getElem_mem hi6)).1 hm7.1,(hM5.up hb6.stp).set hi6 u7 hm7,hC5.next hk' hi' hj'⟩
    .have hj0:j=l.length:=by
      have: ¬j<l.length:=by simpa using hc
      omega
     subst hj0;refine H8 ?_;exact Y9 Q4 hi' ⟨m5,hS5,hM5,hC5.row⟩
   .have hi0:i=l.length:=by
     have: ¬i<l.length:=by simpa using hc
     omega
    subst hi0;refine H8 ?_;exact Y9 Q4 hk' ⟨m4,hS4,hM4,hC4.round⟩
  .have hk0:k=l.length:=by
    have: ¬k<l.length:=by simpa using hc
    omega
   subst hk0;obtain ⟨σ9,hS9,le9,hrows⟩:=hM3.keep hpos Q4 hS3 (fun b hb=>(hb2 b hb).1);refine h _ _ _ hS9 ((hv8.lift le9).conv (by simp[Jf,hlb]) fun i hi hj cs hcs=>?_)
   have hcs:cs=_:=hcs;subst hcs;refine ⟨_,rfl,?_⟩;have:=hrows i hi
   have he:(Jf l)[i]=(List.range l.length).map (m3 i):=by
    have hi':i<l.length:=by omega
    simp only[Jf,List.getElem_map,List.getElem_range];apply List.map_congr_left;intro j hj;exact (Clos.all ho hC3 hi' (by simpa using hj)).symm
   rw[he];exact this)
end Go.Proofs.Y
namespace Go.Emb
open Go.RowKit Go.Hm
structure FinT (B : Nat) (F : Option Obj -> Prop) (w w' : World) : Prop where
  os : w'.os = w.os
  tape : w'.tape = w.tape
  output : w'.output = w.output
  size : w.heap.size <= w'.heap.size
  old : ∀ k, k < w.heap.size -> k < B -> w'.heap[k]? = w.heap[k]?
  new : ∀ k, k < w.heap.size -> w'.heap[k]? = w.heap[k]? \/ F (w'.heap[k]?)
variable {B : Nat} {F : Option Obj -> Prop} {w w' w0 : World} {σ : Q2} {v V : Value}
theorem FinT.of_below (h:Below w.heap.size w w'):FinT B F w w':=⟨h.os,h.tape,h.output,h.size,fun k a _=>h.block k a,fun k a=> .inl (h.block k a)⟩
theorem FinT.of_upd {b:Nat} (h:Upd w b w') (c:B<=b) (hF:F (w'.heap[b]?)):FinT B F w w':=
 ⟨h.os,h.tape,h.output,by rw[h.size];exact Nat.le_refl _,fun k a hB=>h.block k Q4,fun k a=>by
  by_cases e:k=b
  .subst e;exact .inr hF
  .exact .inl (h.block k e)⟩
theorem FinT.hst (h:FinT w0.heap.size F w w') (c:X1 w0 σ) (a:Hst w0 σ w σ):Hst w0 σ w' σ:=
 ⟨Stp.of_below c ⟨h.os.trans a.stp.bel.os,h.tape.trans a.stp.bel.tape,h.output.trans a.stp.bel.output,Nat.le_trans a.stp.bel.size h.size,fun k b=>(h.old k (Nat.lt_of_lt_of_le b a.stp.bel.size) b).trans (a.stp.bel.block k b)⟩⟩
theorem X5F {A:(World->World->Prop)->(World->Prop)->Prop} (F:Option Obj->Prop) (a:X1 w σ) (h:A (FinT w.heap.size F) (fun w'=>Hst w σ w' σ)):dr w A:=
 Q43 _ _ ⟨Stp.of_below a (Below.refl _ _).drew⟩ (fun _ _ b c=>c.hst a b) h
theorem Q7e (h:V=v):dk (FinT B F) (fun v _=>V=v) w v w:=⟨.of_below (Below.refl _ _),h⟩
theorem X4m (a:Below w.heap.size w w') (h:V=v):dk (FinT B F) (fun v _=>V=v) w v w':=⟨.of_below a,h⟩
def X5l (B n:Nat) (F:Option Obj->Prop) (v:Value) (w:World):Prop:= ∃g,v= .pointer (some ⟨g,0,none⟩)/\B<=g/\((∃cs:List Value,∃e,cs.length=n/\w.heap[g]? =some (.cells cs.toArray e (0,0)))\/F (w.heap[g]?))
def X5k (B:Nat) (F:Option Obj->Prop) (v:Value) (w:World):Prop:= ∃g,v= .pointer (some ⟨g,0,none⟩)/\B<=g/\F (w.heap[g]?)
theorem Pt {w:World} {g:Nat} {o:Obj} (h:w.heap[g]? =some o):g<w.heap.size:=(Array.getElem?_eq_some_iff.1 h).1
theorem X0V {n:Nat} (hF: ¬F none):Wv (FinT B F) (X5l B n F):=by
 rintro v w w' ⟨g,rfl,hB,b⟩ d
 have a:g<w.heap.size:=by
  rcases b with ⟨cs,e,_,h⟩ | h
  .exact Pt h
  .cases c:w.heap[g]? with
   | none=>rw[c] at h;exact absurd h hF
   | some o=>exact Pt c
 rcases d.new g a with h | h
 .exact ⟨g,rfl,hB,by rw[h];exact b⟩
 .exact ⟨g,rfl,hB, .inr h⟩
theorem X0U (hF: ¬F none):Wv (FinT B F) (X5k B F):=by
 rintro v w w' ⟨g,rfl,hB,a⟩ d
 have b:g<w.heap.size:=by
  cases c:w.heap[g]? with
  | none=>rw[c] at a;exact absurd a hF
  | some o=>exact Pt c
 rcases d.new g b with h | h
 .exact ⟨g,rfl,hB,by rw[h];exact a⟩
 .exact ⟨g,rfl,hB,h⟩
end Go.Emb
namespace Go.Hm
open Go.Kd
theorem Q8T {a b:List Hm.Met} (h: ∀m,m∈a↔m∈b):Dc a=Dc b:=by
 rw[Bool.eq_iff_iff];simp only[Dc,List.any_eq_true];constructor
 .rintro ⟨x,d,y,e,c⟩;exact ⟨x,(h x).1 d,y,(h y).1 e,c⟩
 .rintro ⟨x,d,y,e,c⟩;exact ⟨x,(h x).2 d,y,(h y).2 e,c⟩
theorem X2o {α:Type} {a b:List α} {p:α->Bool} (h: ∀m,m∈a↔m∈b):a.any p=b.any p:=by
 rw[Bool.eq_iff_iff];simp only[List.any_eq_true];constructor
 .rintro ⟨x,c,y⟩;exact ⟨x,(h x).1 c,y⟩
 .rintro ⟨x,c,y⟩;exact ⟨x,(h x).2 c,y⟩
def Jl (m:Hm.Met):List Q8:=m.params++if m.result=[] then [] else [m.result]
def Va (c:Cla):List Q8:=c.fields.map (·.kind)++c.methods.flatMap Jl
theorem X1J {l:List Cla} {c:Cla}:(Va c).any (fun s=> !E3 l s)=F7 l c:=by
 unfold Va F7 Jl;rw[List.any_append,List.any_map,List.any_flatMap]
 congr 1
 congr 1
 funext m
 rw[List.any_append]
 by_cases e:m.result=[]
 .simp[e]
 .simp[e,Bool.or_comm]
def upB (l:List Cla) (i k:Nat):Bool:=decide (k=i)||Vx l (Y7 l i) (Y7 l k)
def Yd (l:List Cla) (i n:Nat):List Hm.Met:=(List.range n).flatMap fun k=>if upB l i k then (l.getD k Cla.zero).methods else []
theorem X0n {l:List Cla} {i n:Nat}:Yd l i (n+1)=Yd l i n++if upB l i n then (l.getD n Cla.zero).methods else []:=by
 unfold Yd;rw[List.range_succ,List.flatMap_append]
 simp
theorem Q6b {l:List Cla} (r:A9 l) {i:Nat} (h:i<l.length) (m:Hm.Met):m∈Yd l i l.length↔m∈Ly l (Y7 l i):=by
 unfold Yd Ly;simp only[List.mem_flatMap,List.mem_range];have b: ∀k,k<l.length->lk l (Y7 l k)=some (l.getD k Cla.zero):=fun k g=>Zh r g;constructor
 .rintro ⟨k,g,d⟩
  split at d
  .rename_i hu
   refine ⟨Y7 l k,?_,by rw[b k g];exact d⟩
   rw[Wa,Q6h];simp only[upB,Bool.or_eq_true,decide_eq_true_eq,Mv] at hu
   rcases hu with rfl | hu
   .exact .inl ⟨rfl,_,b _ g⟩
   .exact .inr hu
  .simp at d
 .rintro ⟨u,hu,d⟩
  rw[Wa] at hu;obtain ⟨c,p⟩:=hu.right;obtain ⟨A,q,j,y,a⟩:=L5 p;obtain ⟨n,z⟩:=List.getElem?_eq_some_iff.1 a
  have f:Y7 l j=u:=by
   unfold Y7;rw[List.getD_eq_getElem?_getD,a];exact A
  refine ⟨j,n,?_⟩;rw[p] at d
  have:upB l i j=true:=by
   simp only[upB,Bool.or_eq_true,decide_eq_true_eq,Mv];rw[Q6h] at hu
   rcases hu with ⟨e,_⟩ | hu
   .left
    have s:=b i h;rw[e,<-f] at s;have o:=A9.find r (i:=i) (c:=l[i]) (List.getElem?_eq_getElem h);have t:l[i].name=Y7 l i:=by unfold Y7;rw[List.getD_eq_getElem?_getD,List.getElem?_eq_getElem h];rfl
    rw[t,e,y] at o
    simpa using o
   .right;rw[f];exact hu
  rw[if_pos this,List.getD_eq_getElem?_getD,a];exact d
theorem X1Q {l:List Cla} {i n:Nat} {m:Hm.Met} (h:m∈Yd l i n) (e:n<=l.length): ∃c∈l,m∈c.methods:=by
 unfold Yd at h;simp only[List.mem_flatMap,List.mem_range] at h;obtain ⟨k,d,a⟩:=h
 split at a
 .have b:k<l.length:=by omega
  rw[List.getD_eq_getElem?_getD,List.getElem?_eq_getElem b] at a;exact ⟨l[k],List.getElem_mem _,a⟩
 .simp at a
def Qj (a:List Hm.Met) (x y:Nat):Bool:=decide ((a.getD x Hm.Met.zero).name=(a.getD y Hm.Met.zero).name)&& !decide (Xs (a.getD x Hm.Met.zero)=Xs (a.getD y Hm.Met.zero))
theorem Fl {α:Type} {l:List α} {d:α} {n:Nat} (h:n<l.length):l.getD n d=l[n]:=by rw[List.getD_eq_getElem?_getD,List.getElem?_eq_getElem h];rfl
theorem X1U {a:List Hm.Met} {x y:Nat} (b:x<a.length) (c:y<a.length) (h:Qj a x y=true):Dc a=true:=by
 unfold Dc;rw[List.any_eq_true];refine ⟨a[x],List.getElem_mem _,?_⟩;rw[List.any_eq_true];refine ⟨a[y],List.getElem_mem _,?_⟩;unfold Qj at h
 rwa [Fl b,Fl c] at h
theorem X37 {d:List Hm.Met} (h: ∀x y,x<d.length->y<x->Qj d x y=false):Dc d=false:=by
 unfold Dc;rw[List.any_eq_false];intro a j;rw[List.any_eq_true];rintro ⟨b,k,e⟩;obtain ⟨x,g,rfl⟩:=List.getElem_of_mem j;obtain ⟨y,i,rfl⟩:=List.getElem_of_mem k
 have f:Qj d y x=Qj d x y:=by
  unfold Qj
  congr 1
  .rw[Bool.eq_iff_iff];simp[eq_comm]
  .congr 1;rw[Bool.eq_iff_iff];simp[eq_comm]
 have c:Qj d x y=true:=by unfold Qj;rw[Fl g,Fl i];exact e
 rcases Nat.lt_trichotomy x y with hlt | heq | hlt
 .rw[<-f,h y x i hlt] at c;cases c
 .subst heq;simp[Qj] at c
 .rw[h x y g hlt] at c;cases c
end Go.Hm
namespace Go.Proofs.Y
open Go.Emb Go.RowKit Go.Kd Go.Hm
variable {w : World} {K : Value -> World -> Prop} {σ : Q2} {l : List Cla} {v : Value}
theorem Pu {c:Cla} (h:Jr c=false):c.fields.length<=32/\c.methods.length<=32/\ ∀m∈c.methods,m.params.length<=32:=by
 simp only[Jr,Bool.or_eq_false_iff,decide_eq_false_iff_not,List.any_eq_false] at h;obtain ⟨⟨⟨a,d⟩,e⟩,f⟩:=h;refine ⟨by omega,by omega,fun m b=>?_⟩
 have:=a m b;simp only[Lq,Bool.or_eq_true,decide_eq_true_eq,not_or] at this;omega
set_option maxRecDepth 9999 in
set_option maxHeartbeats 8000000 in
theorem Q98 {i:Nat} (hs:X1 w σ) (hv:Sl 8 W8 σ v l) (ok:Ok l) (own:A9 l) (hlen:l.length<=1000) (hmn: ∀c∈l,Jr c=false) (hi:i<l.length)
 (h: ∀w' σ',Stp w σ w' σ'->K (I (L2 l l[i])) w'):Q0 P F.b3 [v,I i] w K:=Gx (by
 unfold Lg;simp only[Z1,Y1,D0,En,M4];unfold J5 zhi Y2 Z5 U4 Y0 W0 X7 X5 V5 X2;obtain ⟨lv,fv,mv,p0,r0⟩:=hv.elC hi;refine U2 hv hi ?_;refine Z8 hs p0 rfl ?_;refine Z0 hs (by rfl) rfl (Rep.one r0) fun q w1 σ1 hk1 hq1=>?_
 have r1:=RCl_lift r0 ⟨hk1.le⟩;obtain ⟨_,gf,gm,g4,_⟩:=r1.parts;have hv1:=hv.up hk1;have hnm:=ok.nm _ (List.getElem_mem hi);have hcm:=hmn _ (List.getElem_mem hi);have hname:Y7 l i=l[i].name:=Tn hi;generalize hcE:l[i]=c at*;obtain ⟨mf,mm,mp⟩:=Pu hcm;have e64:Zq l c=true->L2 l c=64:=fun e=>by unfold L2;simp[e]
 have e65:Zq l c=false->F7 l c=true->L2 l c=65:=fun e e2=>by unfold L2;simp[e,e2]
 have e66:Zq l c=false->F7 l c=false->Jq l c=true->L2 l c=66:=fun e e2 e3=>by unfold L2;simp[e,e2,e3]
 have e67:Zq l c=false->F7 l c=false->Jq l c=false->Ew l c=true->L2 l c=67:=fun e e2 e3 e4=>by unfold L2;simp[e,e2,e3,e4]
 have e0:Zq l c=false->F7 l c=false->Jq l c=false->Ew l c=false->L2 l c=0:=fun e e2 e3 e4=>by unfold L2;simp[e,e2,e3,e4]
 generalize L2 l c=R at*;clear p0 r0 r1 hcm;refine U8 c.fields.length (fun n w'=> ∃σ',Stp w σ w' σ'/\SLe σ1 σ'/\(c.fields.take n).any (fun f=>(De l c.super f.name).isSome)=false) ⟨σ1,hk1,SLe.refl _,rfl⟩ fun n w2 d hn hinv=>?_;obtain ⟨σ2,hS2,le2,hno⟩:=hinv;have hq2:=hq1.lift le2;have gf2:=gf.lift le2
 (try simp only[↓M1,M1,Mb,reduceIte])
 refine ld hS2.sat hq2 rfl ?_;refine Q6 gf2 ?_;refine Z4 ?_;refine Q3 (fun hc=>?_) (fun hc=>?_)
 .have hn':n<c.fields.length:=by simpa using hc
  obtain ⟨pf,_⟩:=gf2.elF hn';have hs2:=hS2.sat;refine L9 hs2 ?_
  (repeat refine J9 Md ?_)
  (intros;(repeat (rename_i hx;subst hx));(try simp only[↓M2,M2,Mb,reduceIte]))
  rename_i w3 hb3;refine X22 hb3.sat (hv.up (hS2.trans hb3.stp)) ok.acy hlen ok.sm fun w4 σ4 hk4=>?_;refine Yg ?_;rw[Vs];have hnx:=D6 (p:=fun f:Fld=>(De l c.super f.name).isSome) hn';cases hp:(De l c.super c.fields[n].name).isSome with
  | true=>
   (try simp only[↓M1,M1,Mb,reduceIte])
   rw[hp,Bool.or_true] at hnx;have:R=64:=e64 (I5 hn' hp);subst this;exact h _ _ ((hS2.trans hb3.stp).trans hk4)
  | false=>
   (try simp only[↓M1,M1,Mb,reduceIte])
   exact Y9 gf.max hn' ⟨σ4,(hS2.trans hb3.stp).trans hk4,le2.more ⟨(hb3.stp.trans hk4).le⟩,by rw[hnx,hno,hp];rfl⟩
 have hA:Zq l c=false:=by
  have hn': ¬n<c.fields.length:=by simpa using hc
  rw[C0 hn'] at hno;exact hno
 clear hno hc hn e64;refine Q14 (R:=V3) (e:=T.b) hS2 M5 fun x3 w3 hk3 ha3 _=>?_;have hS3:=hS2.trans hk3;refine O7 c.fields.length (fun n x w'=> ∃σ',Stp w σ w' σ'/\SLe σ1 σ'/\W1 w.heap.size T.b 1 V3 σ' w' x ((c.fields.take n).map (·.kind))) ⟨σ2,hS3,le2,ha3⟩ fun n x w4 d hn hinv=>?_;obtain ⟨σ4,hS4,le4,ha4⟩:=hinv;have hq4:=hq1.lift le4;have gf4:=gf.lift le4
 (try simp only[↓M1,M1,Mb,reduceIte])
 refine ld hS4.sat hq4 rfl ?_;refine Q6 gf4 ?_;refine Z4 ?_;refine Q3 (fun hc=>?_) (fun hc=>?_)
 .have hn':n<c.fields.length:=by simpa using hc
  obtain ⟨pf,rf⟩:=gf4.elF hn';have hkl:=(hnm.2.1 _ (List.getElem_mem hn')).2
  (try simp only[↓M1,M1,Mb,reduceIte])
  refine ld hS4.sat hq4 rfl ?_;refine U2 gf4 hn' ?_
  (try simp only[↓M1,M1,Mb,reduceIte])
  refine ld hS4.sat pf rfl ?_;refine Za (R:=V3) (x:=c.fields[n].kind) hS4 ha4 ⟨rfl,Nat.le_trans hkl M5⟩ rfl rfl rfl (by rw[List.length_map,List.length_take];omega) (by rw[List.length_map,List.length_take];omega) fun s v' w5 σ5 hnx hS5 ha5 _=>?_
  (try simp only[↓M1,M1,Mb,reduceIte])
  refine Z9 gf.max hn' ⟨σ5,hS5,le4.more hnx.le,?_⟩;rw[List.take_add_one,List.getElem?_eq_getElem hn',List.map_append];exact ha5
 rw[List.take_of_length_le (by
  have: ¬n<c.fields.length:=by simpa using hc
  omega)] at ha4
 clear hc hn hk3 ha3 hS3 hS2 le2 hq2 gf2 hq4 gf4
 have hkl: ∀n,(c.fields.map (·.kind)++(c.methods.take n).flatMap Jl).length<=2000:=fun n=>by
  have h1:=Xo Jl 33 (c.methods.take n) fun m hm=>by
   have:=mp m (List.mem_of_mem_take hm);unfold Jl
   split<;>simp<;>omega
  have h2:(c.methods.take n).length<=32:=by rw[List.length_take];omega
  have h3:(c.methods.take n).length*33<=32*33:=Nat.mul_le_mul_right _ h2;rw[List.length_append,List.length_map];omega
 refine O7 c.methods.length (fun n x w'=> ∃σ',Stp w σ w' σ'/\SLe σ1 σ'/\W1 w.heap.size T.b 1 V3 σ' w' x (c.fields.map (·.kind)++(c.methods.take n).flatMap Jl)) ⟨σ4,hS4,le4,by simpa using ha4⟩ fun n x w5 d hn hinv=>?_
 clear ha4 hS4 le4;obtain ⟨σ5,hS5,le5,ha5⟩:=hinv;have hq5:=hq1.lift le5;have gm5:=gm.lift le5;have hkn:=hkl n
 (try simp only[↓M1,M1,Mb,reduceIte])
 refine ld hS5.sat hq5 rfl ?_;refine Q6 gm5 ?_;refine Z4 ?_;refine Q3 (fun hc=>?_) (fun hc=>?_)
 .have hn':n<c.methods.length:=by simpa using hc
  obtain ⟨pv,cv,hv',pm,rm⟩:=gm5.elM hn';obtain ⟨gp,_,_,_,gr,_⟩:=rm.parts;have hpn:=mp _ (List.getElem_mem hn');have hrl:=(hnm.2.2 _ (List.getElem_mem hn')).1
  have hnx:(c.methods.take (n+1)).flatMap Jl=(c.methods.take n).flatMap Jl++Jl c.methods[n]:=by
   rw[List.take_add_one,List.getElem?_eq_getElem hn',List.flatMap_append];simp
  refine L4 ?_
  (try simp only[↓M1,M1,Mb,reduceIte])
  refine ld hS5.sat hq5 rfl ?_;refine U2 gm5 hn' ?_
  (try simp only[↓M1,M1,Mb,reduceIte])
  refine ld hS5.sat pm rfl ?_;refine Hk hS5 ha5 gp rfl Q4 Q4 fun v6 w6 hn6 hS6 ha6 _=>?_
  (try simp only[↓M1,M1,Mb,reduceIte])
  refine ld hS6.sat hq5 rfl ?_;refine U2 gm5 hn' ?_
  (try simp only[↓M1,M1,Mb,reduceIte])
  refine ld hS6.sat pm rfl ?_;refine Hl ?_
  by_cases he:c.methods[n].result=[]
  .simp only[he,decide_true,Bool.not_true,↓M1,M1,Mb,reduceIte]
   intro d;refine Z9 gm.max hn' ⟨σ5,hS6,le5,?_⟩;rw[hnx];unfold Jl;rw[if_pos he,List.append_nil,<-List.append_assoc];exact ha6
  .simp only[he,decide_false,Bool.not_false,↓M1,M1,Mb,reduceIte]
   refine ld hS6.sat hq5 rfl ?_;refine U2 gm5 hn' ?_
   (try simp only[↓M1,M1,Mb,reduceIte])
   refine ld hS6.sat pm rfl ?_;refine Za (R:=V3) (x:=c.methods[n].result) hS6 ha6 ⟨rfl,Nat.le_trans hrl M5⟩ rfl rfl rfl (by rw[List.length_append];omega) (by rw[List.length_append];omega) fun s v' w7 σ7 hn7 hS7 ha7 _=>?_
   intro d
   (try simp only[↓M1,M1,Mb,reduceIte])
   refine Z9 gm.max hn' ⟨σ7,hS7,le5.more hn7.le,?_⟩;rw[hnx];unfold Jl at ha7⊢;rw[if_neg he]
   simpa only[List.append_assoc] using ha7
 rw[List.take_of_length_le (by
  have: ¬n<c.methods.length:=by simpa using hc
  omega)] at ha5
 have hkn:=hkl c.methods.length;rw[List.take_of_length_le (Nat.le_refl _)] at hkn;have hkE:F7 l c=(Va c).any (fun s=> !E3 l s):=X1J.symm
 have hkb: ∀s∈Va c,s.length<=U9:=fun s hs=>by
  unfold Va at hs
  rcases List.mem_append.1 hs with hs | hs
  .obtain ⟨f,hf,rfl⟩:=List.mem_map.1 hs
   exact Nat.le_trans (hnm.2.1 f hf).2 M5
  .obtain ⟨m,hm,hs⟩:=List.mem_flatMap.1 hs
   unfold Jl at hs
   rcases List.mem_append.1 hs with hs | hs
   .exact Nat.le_trans ((hnm.2.2 m hm).2 s hs) M5
   .split at hs
    .simp at hs
    .simp at hs;subst hs;exact Nat.le_trans (hnm.2.2 m hm).1 M5
 obtain ⟨σ6,hS6,hv6,lee6,_⟩:=ha5.keep hS5;have le6:=le5.more ⟨lee6⟩;clear ha5 hq5 gm5 hc hn;change Sl 1 V3 σ6 x (Va c) at hv6;refine U8 (Va c).length (fun n w'=>Stp w σ w' σ6/\((Va c).take n).any (fun s=> !E3 l s)=false) ⟨hS6,rfl⟩ fun n w7 d hn hinv=>?_;obtain ⟨hS7,hno⟩:=hinv;refine Q6 hv6 ?_;refine Z4 ?_;refine Q3 (fun hc=>?_) (fun hc=>?_)
 .have hn':n<(Va c).length:=by simpa using hc
  refine U2 hv6 hn' ?_;obtain ⟨pk,_⟩:=hv6.elS hn';refine Y4 hS7.sat pk rfl ?_;refine X26 hS7.sat (hv.up hS7) (hkb _ (List.getElem_mem hn')) ?_;have hnx:=D6 (p:=fun s=> !E3 l s) hn';cases hp:E3 l (Va c)[n] with
  | false=>
   (try simp only[↓M1,M1,Mb,reduceIte])
   have:R=65:=e65 hA (by rw[hkE];exact I5 hn' (by simp[hp]))
   subst this;exact h _ _ hS7
  | true=>
   (try simp only[↓M1,M1,Mb,reduceIte])
   exact Y9 hv6.max hn' ⟨hS7,by rw[hnx,hno,hp];rfl⟩
 have hB:F7 l c=false:=by
  have hn': ¬n<(Va c).length:=by simpa using hc
  rw[C0 hn'] at hno;rw[hkE];exact hno
 clear hno hc hn e65 hkE hkb hkn hkl hS5 le5 lee6 hv6;refine Q6i hS7.sat (hv.up hS7) own Q4 hlen ok.sm fun vb w8 σ8 hk8 hb8=>?_;have hS8:=hS7.trans hk8;refine Q14 (R:=E6) (e:=T.c) hS8 M5 fun x9 w9 hk9 ha9 _=>?_
 have hml: ∀n,n<=l.length->(Yd l i n).length<=32000:=fun n hn=>by
  unfold Yd
  have h1:=Xo (fun k=>if upB l i k then (l.getD k Cla.zero).methods else []) 32 (List.range n) fun k hk=>by
   have hk':k<l.length:=by have:=List.mem_range.1 hk;omega
   split
   .rw[Fl hk'];exact (Pu (hmn _ (List.getElem_mem _))).2.1
   .simp
  rw[List.length_range] at h1;have h3:n*32<=1000*32:=Nat.mul_le_mul_right _ Q4;omega
 have hbl:(Jf l).length=l.length:=by simp[Jf]
 refine O7 l.length (fun n x w'=> ∃σ',Stp w σ w' σ'/\SLe σ1 σ'/\SLe σ8 σ'/\W1 w.heap.size T.c 7 E6 σ' w' x (Yd l i n)) ⟨σ8,hS8.trans hk9,le6.more ⟨hk8.le⟩,SLe.refl _,ha9⟩ fun n x w10 d hn hinv=>?_;clear ha9 hk9 hS7 hS8 le6 hS6 hk8;obtain ⟨σ10,hS10,le10,leb,ha10⟩:=hinv;have hv10:=hv.up hS10;refine Q6 hv10 ?_;refine Z4 ?_;refine Q3 (fun hc=>?_) (fun hc=>?_)
 .have hn':n<l.length:=by simpa using hc
  have hmn1:=hml n hn;have hsuc:=X0n (l:=l) (i:=i) (n:=n);rw[Fl hn'] at hsuc;obtain ⟨lv2,fv2,mv2,p2,r2⟩:=hv10.elC hn';obtain ⟨_,_,g3,_,_⟩:=r2.parts;have hmn2:=(Pu (hmn _ (List.getElem_mem hn'))).2.1;refine Xg (fun z w'=>Stp w σ w' σ10/\W1 w.heap.size T.c 7 E6 σ10 w' z (Yd l i (n+1))) ?_ (fun z d w' hz=>?_)
  .refine Qr ?_
   have happ: ∀{J:Value->World->Prop},upB l i n=true->(∀z w',Stp w σ w' σ10->W1 w.heap.size T.c 7 E6 σ10 w' z (Yd l i (n+1))->J z w')->
    V9 P .append [T.f,T.f] T.f [false,false] [x,mv2] w10 J:=fun hu hJ=>
    Hk hS10 ha10 g3 rfl Q4 Q4 fun v' w' _ hS' ha' _=>hJ v' w' hS' (by rw[hsuc,if_pos hu];exact ha')
   by_cases e:n=i
   .have e1:decide ((n:Int)=(i:Int))=true:=by simp[e]
    rw[e1]
    (try simp only[↓M1,M1,Mb,reduceIte])
    refine U2 hv10 hn' ?_
    (try simp only[↓M1,M1,Mb,reduceIte])
    refine ld hS10.sat p2 rfl ?_;exact happ (by simp[upB,e]) fun z w' h1 h2=>⟨h1,h2⟩
   .have e1:decide ((n:Int)=(i:Int))=false:=by rw[decide_eq_false_iff_not];omega
    rw[e1];obtain ⟨cs1,pb,_,rv,rfl,rb⟩:=(hb8.lift leb).el (i:=i) (by rw[hbl];exact hi)
    have hrow:(Jf l)[i]'(by rw[hbl];exact hi)=(List.range l.length).map fun j=>Vx l (Y7 l i) (Y7 l j):=by simp[Jf]
    rw[hrow] at rb;obtain ⟨cs2,pb2,_,hcs2⟩:=rb.el (i:=n) (by simpa using hn')
    have hcs2:cs2=_:=hcs2;subst hcs2;simp only[List.getElem_map,List.getElem_range] at pb2
    (try simp only[↓M1,M1,Mb,reduceIte])
    refine U2 (hb8.lift leb) (by rw[hbl];exact hi) ?_
    refine Y4 hS10.sat pb rfl ?_;refine U2 rb (by simpa using hn') ?_
    refine Y4 hS10.sat pb2 rfl ?_
    (try simp only[↓M1,M1,Mb,reduceIte])
    cases ho:Vx l (Y7 l i) (Y7 l n) with
    | true=>
     (try simp only[↓M1,M1,Mb,reduceIte])
     refine U2 hv10 hn' ?_
     (try simp only[↓M1,M1,Mb,reduceIte])
     refine ld hS10.sat p2 rfl ?_;exact happ (by simp[upB,ho]) fun z w' h1 h2=>⟨h1,h2⟩
    | false=>
     (try simp only[↓M1,M1,Mb,reduceIte])
     refine ⟨hS10,?_⟩;have:upB l i n=false:=by simp[upB,ho,e]
     rw[hsuc,this]
     simpa using ha10
  .obtain ⟨hS',ha'⟩:=hz
   (try simp only[↓M1,M1,Mb,reduceIte])
   exact Z9 Q4 hn' ⟨σ10,hS',le10,leb,ha'⟩
 have hn0:n=l.length:=by
  have: ¬n<l.length:=by simpa using hc
  omega
 subst hn0;obtain ⟨σ11,hS11,hv11,lee11,_⟩:=ha10.keep hS10;have le11:=le10.more ⟨lee11⟩;have hml2:=hml _ (Nat.le_refl l.length)
 have hov:Jq l c=Dc (Yd l i l.length):=by
  unfold Jq;refine (Q8T fun m=>?_).symm;rw[Q6b own hi,hname]
 have hlk:Ew l c=(!c.abs&&(Yd l i l.length).any fun m=>Jk l c.name m.name):=by
  unfold Ew
  congr 1
  refine (X2o fun m=>?_).symm;rw[Q6b own hi,hname]
 have hsn: ∀m∈Yd l i l.length,SmM m/\NmM m:=fun m hm=>by
  obtain ⟨c2,hc2,hm2⟩:=X1Q hm (Nat.le_refl _);exact ⟨(ok.sm c2 hc2).2.2.2 m hm2,(ok.nm c2 hc2).2.2 m hm2⟩
 generalize Yd l i l.length=ms at hov hlk hsn hml2 hv11;clear ha10 lee11 hS10 le10 leb hv10 hml hc hb8 hbl;refine U8 ms.length (fun n w'=> ∃σ',Stp w σ w' σ'/\SLe σ11 σ'/\ ∀a b,a<n->b<a->Qj ms a b=false) ⟨σ11,hS11,SLe.refl _,fun a b h=>by omega⟩ fun n w12 d hn hinv=>?_
 obtain ⟨σ12,hS12,le12,hno⟩:=hinv;have hv12:=hv11.lift le12;refine Q6 hv12 ?_;refine Z4 ?_;refine Q3 (fun hc=>?_) (fun hc=>?_)
 .have hn':n<ms.length:=by simpa using hc
  refine U8 n (fun m w'=> ∃σ',Stp w σ w' σ'/\SLe σ11 σ'/\ ∀b,b<m->Qj ms n b=false) ⟨σ12,hS12,le12,fun b h=>by omega⟩ fun m w13 d hm hinv=>?_
  obtain ⟨σ13,hS13,le13,hno2⟩:=hinv;have hv13:=hv11.lift le13;refine Z4 ?_;refine Q3 (fun hc=>?_) (fun hc=>?_)
  .have hm':m<n:=by simpa using hc
   have hm2:m<ms.length:=by omega
   obtain ⟨pv1,cv1,hv1',pn,rn⟩:=hv13.elM hn';obtain ⟨pv2,cv2,hv2',pm,rm⟩:=hv13.elM hm2;obtain ⟨sn1,sn2⟩:=hsn _ (List.getElem_mem hn');obtain ⟨sm1,sm2⟩:=hsn _ (List.getElem_mem hm2)
   have hat:Qj ms n m=(decide (ms[n].name=ms[m].name)&& !decide (Xs ms[n]=Xs ms[m])):=by
    unfold Qj;rw[Fl hn',Fl hm2]
   have hs13:=hS13.sat
   have hnx:Qj ms n m=false-> ∀b,b<m+1->Qj ms n b=false:=fun e b hb=>by
    by_cases e2:b=m
    .subst e2;exact e
    .exact hno2 b Q4
   refine L9 hs13 ?_
   (repeat refine J9 Md ?_)
   by_cases he:ms[n].name=ms[m].name
   .have hd:decide (ms[n].name=ms[m].name)=true:=by simp[he]
    simp only[hd,reduceIte]
    (repeat (apply J9;(· intros;(repeat (rename_i hx;subst hx));(repeat' (first | (with_reducible exact J3 rfl) | (with_reducible exact Qv (Stp.bel (by (repeat (first | exact Stp.refl (by (first | assumption | exact Stp.sat Q7 | exact Hst.sat Q7)) | assumption | refine Stp.trans ?_ (by first | assumption | exact Hst.stp Q7))))) rfl) | (with_reducible intro _) | (simp only[↓M2,M2,Mb,reduceIte]) | (with_reducible show Q9 _ _ _ _ _;first | refine Y4 aS aL aR ?_ | refine Z8 aS aL aR ?_ | refine ld aS aL aR ?_) | (with_reducible show indexAddr _ _ _ _ _ _;refine U2 aL au ?_) | (with_reducible show V9 _ _ _ _ _ _ _ _;refine Q6 aL ?_) | (with_reducible show Nk _ _ _ _ _ _;refine L6 aR ?_) | (with_reducible show pick _ _ _ _ _ _;refine Lm ?_) | (with_reducible show Q0 _ _ _ _ _;first | refine Q88 au au au au ?_) | (apply Ot;intro hh;(try simp only[hh,reduceIte,↓M2,M2,Mb,reduceIte]))));done)))
    (intros;(repeat (rename_i hx;subst hx));(try simp only[↓M2,M2,Mb,reduceIte]))
    rename_i w14 hb14;refine Q88 hb14.sat rm sm1 sm2 fun w15 σ15 hk15=>?_;refine Hl ?_
    (try simp only[↓M1,M1,Mb,reduceIte])
    have hS15:=(hS13.trans hb14.stp).trans hk15
    by_cases hsg:Xs ms[n]=Xs ms[m]
    .simp only[hsg,decide_true,Bool.not_true,↓M1,M1,Mb,reduceIte]
     refine Y9 Q4 hm' ⟨σ15,hS15,le13.more ⟨(hb14.stp.trans hk15).le⟩,hnx ?_⟩;rw[hat,hsg];simp
    .simp only[hsg,decide_false,Bool.not_false,↓M1,M1,Mb,reduceIte]
     have:R=66:=e66 hA hB (by rw[hov];exact X1U hn' hm2 (by rw[hat];simp[he,hsg]))
     subst this;exact h _ _ hS15
   .have hd:decide (ms[n].name=ms[m].name)=false:=by simp[he]
    simp only[hd,Bool.false_eq_true,reduceIte]
    (repeat refine J9 Md ?_)
    (intros;(repeat (rename_i hx;subst hx));(try simp only[↓M2,M2,Mb,reduceIte]))
    rename_i w14 hb14
    (try simp only[↓M1,M1,Mb,reduceIte])
    refine Y9 Q4 hm' ⟨σ13,hS13.trans hb14.stp,le13,hnx ?_⟩;rw[hat];simp[he]
  .have hm0:m=n:=by
    have: ¬m<n:=by simpa using hc
    omega
   subst hm0
   (try simp only[↓M1,M1,Mb,reduceIte])
   refine Y9 hv11.max hn' ⟨σ13,hS13,le13,fun a b ha hb=>?_⟩
   by_cases e:a=m
   .subst e;exact hno2 b hb
   .exact hno a b Q4 hb
 have hC:Jq l c=false:=by
  rw[hov];have: ¬n<ms.length:=by simpa using hc
  exact X37 fun x y hx hy=>hno x y Q4 hy
 clear hno hc hn hv12 hov e66;refine U8 ms.length (fun n w'=> ∃σ',Stp w σ w' σ'/\SLe σ11 σ'/\(c.abs=true->n=0)/\(ms.take n).any (fun m=>Jk l c.name m.name)=false) ⟨σ12,hS12,le12,fun _=>rfl,rfl⟩ fun n w13 d hn hinv=>?_;clear hS12 le12;obtain ⟨σ13,hS13,le13,hab,hno⟩:=hinv;have hv13:=hv11.lift le13;have hq13:=hq1.lift (le11.more le13);refine Q6 hv13 ?_;refine Z4 ?_
 by_cases hn':n<ms.length
 .have e1:decide ((n:Int)<(ms.length:Int))=true:=by simpa using hn'
  rw[e1]
  (try simp only[↓M1,M1,Mb,reduceIte])
  refine ld hS13.sat hq13 rfl ?_;refine Ss ?_
  (try simp only[↓M1,M1,Mb,reduceIte])
  cases hca:c.abs with
  | true=>
   (try simp only[↓M1,M1,Mb,reduceIte])
   have:R=0:=e0 hA hB hC (by rw[hlk,hca];rfl)
   subst this;exact h _ _ hS13
  | false=>
   (try simp only[↓M1,M1,Mb,reduceIte])
   obtain ⟨pvn,cvn,hvn,pn,rn⟩:=hv13.elM hn';have hs13:=hS13.sat;have hnx:=D6 (p:=fun m:Hm.Met=>Jk l c.name m.name) hn'
   have hla:Jk l c.name ms[n].name=(!(W5 l c.name ms[n].name).isSome||(o2 (W5 l c.name ms[n].name)).abs):=by
    unfold Jk;cases W5 l c.name ms[n].name<;>rfl
   generalize hF:(fun o:Option Obj=> ∃cs:List Value,∃e,o=some (.cells cs.toArray e (0,0))/\cs.length=7/\cs[3]? =some (.bool (o2 (W5 l c.name ms[n].name)).abs))=F;have hFn: ¬F none:=by rw[<-hF];rintro ⟨_,_,h,_⟩;cases h
   refine X5F F hs13 ?_
   (repeat (apply J9;(· intros;(repeat (rename_i hx;subst hx));(repeat' (first | (with_reducible exact Q7e rfl) | (with_reducible exact X4m (Stp.bel (by (repeat (first | exact Stp.refl (by (first | assumption | exact Stp.sat Q7 | exact Hst.sat Q7)) | assumption | refine Stp.trans ?_ (by first | assumption | exact Hst.stp Q7))))) rfl) | (with_reducible intro _) | (simp only[↓M2,M2,Mb,reduceIte]) | (with_reducible show Q9 _ _ _ _ _;first | refine Y4 aS aL aR ?_ | refine Z8 aS aL aR ?_ | refine ld aS aL aR ?_) | (with_reducible show indexAddr _ _ _ _ _ _;refine U2 aL au ?_) | (with_reducible show V9 _ _ _ _ _ _ _ _;refine Q6 aL ?_) | (with_reducible show Nk _ _ _ _ _ _;refine L6 aR ?_) | (with_reducible show pick _ _ _ _ _ _;refine Lm ?_)));done)))
   refine H4 (fun v _=> ∃s,∃ds:List Value,v= .tuple #[s, .agg ds.toArray, .bool (W5 l c.name ms[n].name).isSome]/\ds.length=7/\ds[3]? =some (.bool (o2 (W5 l c.name ms[n].name)).abs)/\ ∀u∈ds,u.oneCell'=true) (fun _ _ _ h _=>h) (fun t180 t185 w hb e1 e2=>?_) ?_
   .subst e1;subst e2
    refine X0N hb.sat (hv.up (hS13.trans hb.stp)) ok fun pv cv hv w' σ' hk hr=>⟨.of_below hk.bel,_,_,rfl,rfl,rfl,Rep.one hr⟩
   refine H4 (fun _ _=>True) (fun _ _ _ _ _=>trivial) (fun t186 w hb e=>?_) ?_
   .obtain ⟨s,ds,rfl,_⟩:=e
    exact J0 (vs:=[_,_,_]) rfl ⟨.of_below (Below.refl _ _),trivial⟩
   refine H4 (fun v _=> ∃ds:List Value,v= .agg ds.toArray/\ds.length=7/\ds[3]? =some (.bool (o2 (W5 l c.name ms[n].name)).abs)/\ ∀u∈ds,u.oneCell'=true) (fun _ _ _ h _=>h) (fun t186 w hb e=>?_) ?_
   .obtain ⟨s,ds,rfl,h7⟩:=e
    exact J0 (vs:=[_,_,_]) rfl ⟨.of_below (Below.refl _ _),ds,rfl,h7⟩
   refine J9 (V:= .bool (W5 l c.name ms[n].name).isSome) (fun t186 w hb e=>?_) ?_
   .obtain ⟨s,ds,rfl,h7⟩:=e
    exact J0 (vs:=[_,_,_]) rfl (Q7e rfl)
   refine H4 (X5l w13.heap.size 7 F) (X0V hFn) (fun w hb=>?_) ?_
   .exact Pe hb.sat fun b w' hb2 hk hm=>⟨.of_below hk.bel,b,rfl,Nat.le_trans hb.stp.bel.size hb2, .inl ⟨_,hm.2.choose,rfl,hm.2.choose_spec⟩⟩
   refine X4p (fun xs _ w=>X5k w13.heap.size F (xs.headD undef) w) (fun xs _ w w' h hT=>X0U hFn _ w w' h hT) (fun t18 t188 w hb e1 e2=>?_) ?_
   .obtain ⟨g,rfl,hg,hd⟩:=e1
    obtain ⟨ds,rfl,h7,h3,h1⟩:=e2
    obtain ⟨cs,e,hl7,hh⟩: ∃cs:List Value,∃e,cs.length=7/\w.heap[g]? =some (.cells cs.toArray e (0,0)):=by
     rcases hd with h | h
     .exact h
     .rw[<-hF] at h
      obtain ⟨cs,e,h4,h5,_⟩:=h;exact ⟨cs,e,h5,h4⟩
    refine sta (σ:=fun _=>none) (cs:=cs) (ds:=ds) ⟨rfl,e,hh⟩ hl7 h7 (by rw[List.all_toArray];exact List.all_eq_true.2 h1) fun w' hu hm=>?_
    have hFg:F (w'.heap[g]?):=by
     obtain ⟨_,e',hm'⟩:=hm;rw[hm',<-hF];exact ⟨ds,e',rfl,h7,h3⟩
    exact ⟨FinT.of_upd hu hg hFg,g,rfl,hg,hFg⟩
   rintro t179 t183 t184 t180 t185 t186 t187 t188 t189 t18 u15 w14 hb14 rfl rfl rfl rfl rfl _ _ _ rfl _ ⟨g,e,hg,hd⟩;have e:t18=_:=e;subst e;rw[<-hF] at hd;obtain ⟨cs,ty,hh,hl7,h3⟩:=hd;have hS14:=hS13.trans hb14.stp;refine Ss ?_;cases hsm:(W5 l c.name ms[n].name).isSome with
   | false=>
    (try simp only[↓M1,M1,Mb,reduceIte])
    have:R=67:=e67 hA hB hC (by rw[hlk,hca];exact I5 hn' (by rw[hla,hsm];rfl))
    subst this;exact h _ _ hS14
   | true=>
    (try simp only[↓M1,M1,Mb,reduceIte])
    refine Fw (σ:=fun _=>none) ⟨rfl,ty,hh⟩ h3 ?_
    (try simp only[↓M1,M1,Mb,reduceIte])
    cases hma:(o2 (W5 l c.name ms[n].name)).abs with
    | true=>
     (try simp only[↓M1,M1,Mb,reduceIte])
     have:R=67:=e67 hA hB hC (by rw[hlk,hca];exact I5 hn' (by rw[hla,hma,Bool.or_true]))
     subst this;exact h _ _ hS14
    | false=>
     (try simp only[↓M1,M1,Mb,reduceIte])
     refine Y9 hv11.max hn' ⟨σ13,hS14,le13,fun e=>False.elim (by simpa using e),?_⟩
     rw[hnx,hno,hla,hsm,hma];rfl
 .have e1:decide ((n:Int)<(ms.length:Int))=false:=by simpa using hn'
  rw[e1]
  (try simp only[↓M1,M1,Mb,reduceIte])
  rw[C0 hn'] at hno;have:R=0:=e0 hA hB hC (by rw[hlk,hno,Bool.and_false])
  subst this;exact h _ _ hS13)
def Q48:List Cla:=[⟨L8,[],[],false,false,false,[],[]⟩,⟨E8,L8,[],false,false,false,[⟨Lr,B7,false⟩],[]⟩]
def gMk (n:Q8):Cla:=⟨n,E8,[],false,false,true,[],[]⟩
theorem Q8J:T6=Q48++V6.map gMk:=rfl
theorem X21 (O:X1 w σ) (h: ∀D w' g,Stp w σ w' g->W1 w.heap.size T.a 8 W8 g w' D T6->K D w'):Q0 P F.bm [] w K:=Av (by
 unfold Oj Z5 X7 X5 X2;refine W2 (cells:= #[S L8,S [], .slice none 0 0, .bool false, .bool false, .bool false, .slice none 0 0, .slice none 0 0]) X3 ?_;refine W2 (cells:= #[S Lr,S B7, .bool false]) X3 ?_;refine H0 (R:=C5) (sz:=3) O [.agg #[S Lr,S B7, .bool false]] [⟨Lr,B7,false⟩] rfl rfl (by simp;rfl) rfl ⟨⟨rfl,by decide,by decide⟩,trivial⟩ fun X w1 σ1 j o=>?_
 have p:=o;obtain ⟨E,b,rfl,_⟩:=p;refine W2 (cells:= #[S E8,S L8, .slice none 0 0, .bool false, .bool false, .bool false, .slice E 1 b, .slice none 0 0]) X3 ?_
 refine Yh (R:=W8) (sz:=8) j [.agg #[S L8,S [], .slice none 0 0, .bool false, .bool false, .bool false, .slice none 0 0, .slice none 0 0], .agg #[S E8,S L8, .slice none 0 0, .bool false, .bool false, .bool false, .slice E 1 b, .slice none 0 0]]
  Q48 rfl rfl (by simp;exact ⟨rfl,rfl⟩) rfl ⟨⟨_,_,_,rfl,Sl.nil,Sl.nil,Sl.nil,by decide,by decide⟩,⟨_,_,_,rfl,Sl.nil,o,Sl.nil,by decide,by decide⟩,trivial⟩ fun Y w2 k z _=>?_
 refine H0 (R:=V3) (sz:=1) k.sat (V6.map S) V6 rfl rfl M5 rfl ⟨⟨rfl,by decide⟩,⟨rfl,by decide⟩,⟨rfl,by decide⟩,⟨rfl,by decide⟩,⟨rfl,by decide⟩,⟨rfl,by decide⟩,trivial⟩ fun Z w3 J l q=>?_
 have u:=(j.trans k).trans l;have M:V6.length=6:=rfl;refine O7 V6.length (fun n x w'=> ∃g,Stp w σ w' g/\SLe J g/\W1 w.heap.size T.a 8 W8 g w' x (Q48++(V6.take n).map gMk)) ⟨J,u,SLe.refl _,z.up l⟩ fun n x w4 d W i=>?_;obtain ⟨U,c,f,e⟩:=i;refine Q6 (q.lift f) ?_;refine Z4 ?_;refine Q3 (fun B=>?_) (fun B=>?_)
 .have a:n<V6.length:=by simpa using B
  have r:=q.lift f;refine U2 r a ?_;obtain ⟨Q,H⟩:=r.elS a;refine Y4 c.sat Q rfl ?_
  have L:(Q48++(V6.take n).map gMk).length<=8:=by
   rw[List.length_append,List.length_map,List.length_take,show Q48.length=2 from rfl];omega
  have m:(V6.take (n+1)).map gMk=(V6.take n).map gMk++[gMk V6[n]]:=by
   rw[List.take_add_one,List.getElem?_eq_getElem a,List.map_append];rfl
  generalize V6[n]=t at H m;refine W2 (cells:= #[S t,S E8, .slice none 0 0, .bool false, .bool false, .bool true, .slice none 0 0, .slice none 0 0]) X3 ?_;have N:W8 U (gMk t) [S t,S E8, .slice none 0 0, .bool false, .bool false, .bool true, .slice none 0 0, .slice none 0 0]:=⟨_,_,_,rfl,Sl.nil,Sl.nil,Sl.nil,H,(by decide:E8.length<=U9)⟩
  refine Za (x:=gMk t) c e N rfl rfl rfl Q4 Q4 fun s D w5 V C y A _=>?_;refine H8 ?_;refine Z9 Q4 a ⟨V,y,f.more C.le,?_⟩;rw[m,<-List.append_assoc];exact A
 .have a: ¬n<V6.length:=by simpa using B
  rw[List.take_of_length_le Q4,<-Q8J] at e;exact h _ _ _ c e)
theorem X4Y {w0:World} {σ0:Q2} {frm:Nat} (Z:Zc l) (ho:A9 l) (hl:l.length<=1000) (av: ∀c∈l,Qe c) (hf:0<frm) (ax: ∀i (B:i<l.length),frm<=i-> ∀u∈V8 l[i],∃j,Z7 l u=some j): ∀(k:Nat) {i:Nat} {out:List Nat} {x:Value} {w:World} {σ:Q2} {K:Value->World->Prop},i<l.length->K2 l (Y7 l i)<k->Few l out->Stp w0 σ0 w σ->Sl 8 W8 σ v l->W1 w0.heap.size T.d 1 H9 σ w x (ints out)->
 (∀x' w' Q,Stp w0 σ0 w' Q->SLe σ Q->W1 w0.heap.size T.d 1 H9 Q w' x' (ints (Yv l frm out i))->K x' w')->Q0 P F.aX [v,x,I frm,I i] w K:=by
 intro k
 induction k with
 | zero=>intro i out x w σ K B hk;omega
 | succ k ih=>
  intro i out x w σ K B hk A hS hv hx h;refine Q1Z ?_;unfold Rf;simp only[Z1,Y1];unfold Z5 U4 X7 X5 X2;rw[Q9A Z ho hf out B] at h;refine Z4 ?_;refine Q3 (fun H=>?_) (fun H=>?_)
  .have H:i<frm:=by have:=of_decide_eq_true H;omega
   rw[if_pos H] at h;exact h _ _ _ hS (SLe.refl _) hx
  have H: ¬i<frm:=by have:=of_decide_eq_false H;omega
  rw[if_neg H] at h;have bd:=A.len;refine U8 out.length (fun n w'=>w'=w/\ ∀m (hm:m<out.length),m<n->out[m]≠i) ⟨rfl,fun m _ h=>by omega⟩ fun n w2 d hn g=>?_
  obtain ⟨hw,L⟩:=g;subst hw;refine Q9N hx ?_;rw[show (ints out).length=out.length from by simp]
  refine Z4 ?_;refine Q3 (fun z=>?_) (fun z=>?_)
  .have b:n<out.length:=by simpa using z
   refine Q7O (U0.of_acc hx) (n:=n) (by simpa using b) fun a cs am ba hr=>?_
   obtain ⟨rfl,_⟩:=hr;refine Yo (by have:=am 0 _ rfl;rwa [add_zero] at this) ?_
   simp only[List.getElem_map];refine Qr ?_
   by_cases e:out[n]=i
   .have:decide ((out[n]:Int)=i)=true:=by simp[e]
    rw[this];refine W7 ?_;rw[if_pos (e▸List.getElem_mem b)] at h;exact h _ _ _ hS (SLe.refl _) hx
   .have:decide ((out[n]:Int)=i)=false:=by rw[decide_eq_false_iff_not];omega
    rw[this];refine L1 ?_;refine H8 ?_;refine Y9 Q4 b ⟨rfl,fun m hm bc=>?_⟩
    by_cases e2:m=n
    .subst e2;exact e
    .exact L m hm Q4
  .have b: ¬n<out.length:=by simpa using z
   have C:i∉out:=fun an=>by
    obtain ⟨m,hm,e⟩:=List.getElem_of_mem an;exact L m hm Q4 e
   rw[if_neg C] at h;have V:l.getD i Cla.zero=l[i]:=by rw[List.getD_eq_getElem?_getD,List.getElem?_eq_getElem B];rfl
   rw[V] at h;have aw:=ax i B Q4;obtain ⟨lv,fv,mv,p1,r1⟩:=hv.elC B;obtain ⟨g1,_,_,_,g5⟩:=r1.parts;have D:=av _ (List.getElem_mem B);clear L C z hn;refine L9 hS.sat ?_
   (repeat refine J9 Md ?_)
   refine Q5b (w:=w2) (σ:=σ) (R:=V3) (sz:=1) (e:=T.b) [l[i].super] (fun t w hb e=>?_) ?_
   .subst e;exact Yh hb.stp [_] [l[i].super] rfl rfl (by simp;rfl) rfl ⟨⟨rfl,g5⟩,trivial⟩ fun v' w' hk Z _=>Q7d hb hk Z
   (repeat refine J9 Md ?_)
   rintro bl bm bp bq bn bo br w4 al rfl rfl rfl rfl rfl ⟨W,U⟩ rfl;refine Hk W U g1 rfl (by simp;have:=D.1;omega) (by simp;have:=D.1;omega) fun v5 w5 ap Y aa ab=>?_
   obtain ⟨σ6,p,N,bi,_⟩:=aa.keep Y;have N:Sl 1 V3 σ6 v5 (V8 l[i]):=N;have ay:=hx.up p;have ad:=hv.up p;have X:=hS.trans p;have ag:SLe σ σ6:=⟨p.le⟩;clear ap ab aa U W al Y;refine O7 (V8 l[i]).length (fun n x w'=> ∃Q o,Stp w0 σ0 w' Q/\SLe σ6 Q/\W1 w0.heap.size T.d 1 H9 Q w' x (ints o)/\Few l o/\o=((V8 l[i]).take n).foldl (fun out n=>Yv l frm out ((Z7 l n).getD 0)) out) ⟨σ6,out,X,SLe.refl _,ay,A,rfl⟩ fun n x7 w7 d hn g=>?_;obtain ⟨σ7,a4,q,y,af,f,M⟩:=g;have r:=N.lift y;refine Q6 r ?_;refine Z4 ?_;refine Q3 (fun z=>?_) (fun z=>?_)
   .have b:n<(V8 l[i]).length:=by simpa using z
    refine U2 r b ?_;obtain ⟨p7,_⟩:=r.elS b;refine Y4 q.sat p7 rfl ?_;have E:=ad.lift y;refine Xq q.sat E ?_;obtain ⟨j,hj⟩:=aw _ (List.getElem_mem b);have bf:=Q2D Z ho B (by rw[V];exact List.getElem_mem b) hj
    have ac:=(G4 hj).1;simp only[hj,M9];refine ih ac Q4 f q E af fun x8 w8 σ8 J az O=>?_;refine H8 ?_;refine Z9 r.max b ⟨σ8,_,J,y.more az,O,Tv Z ho hf _ _ _ ac f,?_⟩;rw[List.take_add_one,List.getElem?_eq_getElem b,List.foldl_append,<-M]
    simp[hj]
   .have b: ¬n<(V8 l[i]).length:=by simpa using z
    rw[List.take_of_length_le Q4] at M;have bb:=f.len;refine Za (R:=H9) (x:=(i:Int)) q af ⟨rfl,by omega,by omega⟩ rfl rfl rfl (by simp;omega) (by simp;omega) fun s x8 w8 σ8 aq J O _=>?_
    refine h _ _ _ J ((ag.more y).more aq.le) ?_;rw[<-M]
    simpa [ints] using O
end Go.Proofs.Y
namespace Go.Hm
open Go.Kd
def Ox (c:Cla) (i:Nat):Bool:=O6 (c.like.getD i [])&& !decide (c.like.getD i []=c.name)
def Qo (c:Cla) (i k:Nat):Bool:= !decide (c.like.getD k []=c.like.getD i [])
def Fi (c:Cla) (i:Nat):Fld:=c.fields.getD i Fld.zero
def Sf (c:Cla) (i:Nat):Hm.Met:=c.methods.getD i Hm.Met.zero
def Et (c:Cla) (i:Nat):Bool:=D3 (Fi c i).name&&right (Fi c i).kind&& !c.iface
def Yl (c:Cla) (i k:Nat):Bool:= !decide ((Fi c k).name=(Fi c i).name)
def X08 (c:Cla):Bool:=(!c.iface||(c.abs&&decide (c.super=L8)))&& !(c.abs&&c.fin)
def Yp (c:Cla) (i k:Nat):Bool:= !decide ((Sf c k).name=(Sf c i).name)
theorem Lz {p:Nat->Bool} {n:Nat}:(List.range (n+1)).all p=((List.range n).all p&&p n):=by rw[List.range_succ,List.all_append];simp
theorem B1 {α:Type} {xs:List α} {i:Nat} {d:α} (h:i<xs.length):xs.getD i d=xs[i]:=by rw[List.getD_eq_getElem?_getD,List.getElem?_eq_getElem h];rfl
end Go.Hm
namespace Go.Proofs.Y
open Go.Emb Go.RowKit Go.Kd Go.Hm
variable {w : World} {K : Value -> World -> Prop}
def Oy (c:Cla) (i:Nat):Bool:=T7 (Sf c i)&&(!(Sf c i).abs||c.abs)&&(!c.iface||(Sf c i).abs)
set_option maxHeartbeats 2000000 in
theorem Q5k {c:Cla} {lv fv mv:Value} {w1:World} {σ1:Q2} {q:Addr} {ok:Bool} (ac:X1 w1 σ1) (hq:J7 σ1 q [S c.name,S c.super,lv, .bool c.iface, .bool c.abs, .bool c.fin,fv,mv]) {i:Nat} {N m0:Nat} {M:Nat->Value->World->Prop} (g1:Sl 1 V3 σ1 lv c.like) (hi:i<c.like.length)
 (h: ∀w' σ',Stp w1 σ1 w' σ'->Gc N M (Value.bool (ok&&(List.range i).all (Qo c i)), .int .i64 (IntKind.i64.wrap (i+1))) w'/\Nb N (Value.bool (ok&&(List.range i).all (Qo c i)), .int .i64 (IntKind.i64.wrap (i+1)))<m0):
 lp (
  α:=Value×Value) (Value.bool ok,(.int .i64 0)) w1 fun g b d_ w=>
  Y5 P .lss T.d (.tmp 52) (.tmp 53) b.2 (I i) w fun ae w=>
  X0 ae (
   dr w fun e f=>
   J8 e (fun u=> ∀w:World,f w->Q1 b.1 true w (fieldAddr P T.a (.pointer (some q)) 2) (dk e u w)) fun u=>
   J8 e (fun y=> ∀w:World,f w->Q1 b.1 true w (fun w J=>J b.2 w) (dk e y w)) fun y=>
   J8 e (fun A=> ∀w:World,f w->Q1 b.1 true w (fieldAddr P T.a (.pointer (some q)) 2) (dk e A w)) fun A=>
   J8 e (fun C=> ∀w:World,f w->Q1 b.1 true w (fun w J=>J (I i) w) (dk e C w)) fun C=>
   J8 e (fun v=> ∀l:Value,∀w:World,f w->u l w->Q1 b.1 true w (Q9 P T.e l) (dk e v w)) fun v=>
   J8 e (fun z=> ∀m:Value,∀n:Value,∀w:World,f w->v m w->y n w->Q1 b.1 true w (indexAddr P T.e m n) (dk e z w)) fun z=>
   J8 e (fun H=> ∀o:Value,∀w:World,f w->z o w->Q1 b.1 true w (Q9 P T.b o) (dk e H w)) fun H=>
   J8 e (fun B=> ∀p:Value,∀w:World,f w->A p w->Q1 b.1 true w (Q9 P T.e p) (dk e B w)) fun B=>
   J8 e (fun D=> ∀r:Value,∀s:Value,∀w:World,f w->B r w->C s w->Q1 b.1 true w (indexAddr P T.e r s) (dk e D w)) fun D=>
   J8 e (fun L=> ∀t:Value,∀w:World,f w->D t w->Q1 b.1 true w (Q9 P T.b t) (dk e L w)) fun L=>
   ∀l:Value,∀n:Value,∀p:Value,∀s:Value,∀m:Value,∀o:Value,∀V:Value,∀r:Value,∀t:Value,∀W:Value,∀w:World,f w->u l w->y n w->A p w->C s w->v m w->z o w->H V w->B r w->D t w->L W w->
   Q1 b.1 true w (Y5 P .neq T.b (.tmp 63) (.tmp 68) V W) fun ag w=>
   pick P b.1 ag (.bool false) w fun ah w=>
   Y5 P .add T.d (.tmp 55) (.const (.int .i64 1)) b.2 (.int .i64 1) w fun af w=>
   g (ah,af) w) (
   Y5 P .add T.d (.tmp 31) (.const (.int .i64 1)) (I i) (.int .i64 1) w fun U w=>
   (Gc N M (b.1,U) w/\Nb N (b.1,U)<m0)):=by
 have am:=g1.max;refine O7 (a:=Value.bool ok) i (fun k x w'=> ∃σ',Stp w1 σ1 w' σ'/\x=Value.bool (ok&&(List.range k).all (Qo c i))) ⟨σ1,Stp.refl ac,by simp⟩ fun k x w2 d hk Q=>?_
 obtain ⟨σ2,j,rfl⟩:=Q;have ar:=hq.up j;have O:=g1.up j;have ad:=j.sat;refine Z4 ?_;refine Q3 (fun X=>?_) (fun X=>?_)
 .have aa:k<i:=by simpa using X
  have R:k<c.like.length:=by omega
  have E:(ok&&(List.range (k+1)).all (Qo c i))=((ok&&(List.range k).all (Qo c i))&&Qo c i k):=by rw[Lz,Bool.and_assoc]
  have hQ:Qo c i k= !decide (c.like[k]=c.like[i]):=by unfold Qo;rw[B1 R,B1 hi]
  rw[hQ] at E;obtain ⟨p1,_⟩:=O.elS R;obtain ⟨p2,_⟩:=O.elS hi;generalize (ok&&(List.range k).all (Qo c i))=Y at E⊢;clear h hQ X;cases Y
  all_goals
   refine L9 ad ?_
   (repeat refine J9 Md ?_)
   (intros;(repeat (rename_i hx;subst hx));(try simp only[↓M2,M2,Mb,reduceIte]))
   rename_i w3 Z;exact Z9 Q4 aa ⟨σ2,j.trans Z.stp,by rw[E];rfl⟩
 .have ab:k=i:=by
   have: ¬k<i:=by simpa using X
   omega
  subst ab
  (try simp only[↓M1,M1,Mb,reduceIte])
  exact h _ _ j
set_option maxHeartbeats 4000000 in
theorem X2W {c:Cla} {lv fv mv:Value} {w1:World} {σ1:Q2} {q:Addr} {ok:Bool} (hs1:X1 w1 σ1) (hq:J7 σ1 q [S c.name,S c.super,lv, .bool c.iface, .bool c.abs, .bool c.fin,fv,mv]) {J:Value->World->Prop} (hn:c.name.length<=U9) (g1:Sl 1 V3 σ1 lv c.like)
 (h: ∀w' σ',Stp w1 σ1 w' σ'->J (.bool (ok&&(List.range c.like.length).all fun i=>Ox c i&&(List.range i).all (Qo c i))) w'):
 lp (α:=Value×Value) (Value.bool ok,(.int .i64 0)) w1 fun again4 x4 d_ w=>
 fieldAddr P T.a (.pointer (some q)) 2 w fun t27 w=>
 Q9 P T.e t27 w fun t28 w=>
 V9 P .len [T.e] T.d [false] [t28] w fun t29 w=>
 Y5 P .lss T.d (.tmp 26) (.tmp 29) x4.2 t29 w fun t30 w=>
 X0 t30 (
  dr w fun Tr Br=>
  J8 Tr (fun φ35=> ∀w:World,Br w->Q1 x4.1 true w (fieldAddr P T.a (.pointer (some q)) 2) (dk Tr φ35 w)) fun φ35=>
  J8 Tr (fun φ37=> ∀w:World,Br w->Q1 x4.1 true w (fun w J=>J x4.2 w) (dk Tr φ37 w)) fun φ37=>
  J8 Tr (fun φ36=> ∀t35:Value,∀w:World,Br w->φ35 t35 w->Q1 x4.1 true w (Q9 P T.e t35) (dk Tr φ36 w)) fun φ36=>
  J8 Tr (fun φ38=> ∀t36:Value,∀t37:Value,∀w:World,Br w->φ36 t36 w->φ37 t37 w->Q1 x4.1 true w (indexAddr P T.e t36 t37) (dk Tr φ38 w)) fun φ38=>
  J8 Tr (fun φ39=> ∀t38:Value,∀w:World,Br w->φ38 t38 w->Q1 x4.1 true w (Q9 P T.b t38) (dk Tr φ39 w)) fun φ39=>
  J8 Tr (fun φ40=> ∀t39:Value,∀w:World,Br w->φ39 t39 w->Q1 x4.1 true w (Q0 P F.d [t39]) (dk Tr φ40 w)) fun φ40=>
  J8 Tr (fun φ41=> ∀t40:Value,∀w:World,Br w->φ40 t40 w->pick P x4.1 t40 (.bool false) w (dk Tr φ41 w)) fun φ41=>
  J8 Tr (fun φ43=> ∀t41:Value,∀w:World,Br w->φ41 t41 w->Q1 t41 true w (fieldAddr P T.a (.pointer (some q)) 2) (dk Tr φ43 w)) fun φ43=>
  J8 Tr (fun φ45=> ∀t41:Value,∀w:World,Br w->φ41 t41 w->Q1 t41 true w (fun w J=>J x4.2 w) (dk Tr φ45 w)) fun φ45=>
  J8 Tr (fun φ48=> ∀t41:Value,∀w:World,Br w->φ41 t41 w->Q1 t41 true w (fieldAddr P T.a (.pointer (some q)) 0) (dk Tr φ48 w)) fun φ48=>
  J8 Tr (fun φ44=> ∀t41:Value,∀t43:Value,∀w:World,Br w->φ41 t41 w->φ43 t43 w->Q1 t41 true w (Q9 P T.e t43) (dk Tr φ44 w)) fun φ44=>
  J8 Tr (fun φ46=> ∀t41:Value,∀t44:Value,∀t45:Value,∀w:World,Br w->φ41 t41 w->φ44 t44 w->φ45 t45 w->Q1 t41 true w (indexAddr P T.e t44 t45) (dk Tr φ46 w)) fun φ46=>
  J8 Tr (fun φ47=> ∀t41:Value,∀t46:Value,∀w:World,Br w->φ41 t41 w->φ46 t46 w->Q1 t41 true w (Q9 P T.b t46) (dk Tr φ47 w)) fun φ47=>
  J8 Tr (fun φ49=> ∀t41:Value,∀t48:Value,∀w:World,Br w->φ41 t41 w->φ48 t48 w->Q1 t41 true w (Q9 P T.b t48) (dk Tr φ49 w)) fun φ49=>
  ∀t35:Value,∀t37:Value,∀t36:Value,∀t38:Value,∀t39:Value,∀t40:Value,∀t41:Value,∀t43:Value,∀t45:Value,∀t48:Value,∀t44:Value,∀t46:Value,∀t47:Value,∀t49:Value,∀w:World,Br w->φ35 t35 w->φ37 t37 w->φ36 t36 w->φ38 t38 w->φ39 t39 w->φ40 t40 w->φ41 t41 w->φ43 t43 w->φ45 t45 w->φ48 t48 w->φ44 t44 w->φ46 t46 w->φ47 t47 w->φ49 t49 w->
  Q1 t41 true w (Y5 P .neq T.b (.tmp 47) (.tmp 49) t47 t49) fun t50 w=>
  pick P t41 t50 (.bool false) w fun t51 w=>
  lp (α:=Value×Value) (t51,(.int .i64 0)) w fun again10 x10 d_ w=>
   Y5 P .lss T.d (.tmp 52) (.tmp 53) x10.2 x4.2 w fun t54 w=>
   X0 t54 (
    dr w fun Tr Br=>
    J8 Tr (fun φ59=> ∀w:World,Br w->Q1 x10.1 true w (fieldAddr P T.a (.pointer (some q)) 2) (dk Tr φ59 w)) fun φ59=>
    J8 Tr (fun φ61=> ∀w:World,Br w->Q1 x10.1 true w (fun w J=>J x10.2 w) (dk Tr φ61 w)) fun φ61=>
    J8 Tr (fun φ64=> ∀w:World,Br w->Q1 x10.1 true w (fieldAddr P T.a (.pointer (some q)) 2) (dk Tr φ64 w)) fun φ64=>
    J8 Tr (fun φ66=> ∀w:World,Br w->Q1 x10.1 true w (fun w J=>J x4.2 w) (dk Tr φ66 w)) fun φ66=>
    J8 Tr (fun φ60=> ∀t59:Value,∀w:World,Br w->φ59 t59 w->Q1 x10.1 true w (Q9 P T.e t59) (dk Tr φ60 w)) fun φ60=>
    J8 Tr (fun φ62=> ∀t60:Value,∀t61:Value,∀w:World,Br w->φ60 t60 w->φ61 t61 w->Q1 x10.1 true w (indexAddr P T.e t60 t61) (dk Tr φ62 w)) fun φ62=>
    J8 Tr (fun φ63=> ∀t62:Value,∀w:World,Br w->φ62 t62 w->Q1 x10.1 true w (Q9 P T.b t62) (dk Tr φ63 w)) fun φ63=>
    J8 Tr (fun φ65=> ∀t64:Value,∀w:World,Br w->φ64 t64 w->Q1 x10.1 true w (Q9 P T.e t64) (dk Tr φ65 w)) fun φ65=>
    J8 Tr (fun φ67=> ∀t65:Value,∀t66:Value,∀w:World,Br w->φ65 t65 w->φ66 t66 w->Q1 x10.1 true w (indexAddr P T.e t65 t66) (dk Tr φ67 w)) fun φ67=>
    J8 Tr (fun φ68=> ∀t67:Value,∀w:World,Br w->φ67 t67 w->Q1 x10.1 true w (Q9 P T.b t67) (dk Tr φ68 w)) fun φ68=>
    ∀t59:Value,∀t61:Value,∀t64:Value,∀t66:Value,∀t60:Value,∀t62:Value,∀t63:Value,∀t65:Value,∀t67:Value,∀t68:Value,∀w:World,Br w->φ59 t59 w->φ61 t61 w->φ64 t64 w->φ66 t66 w->φ60 t60 w->φ62 t62 w->φ63 t63 w->φ65 t65 w->φ67 t67 w->φ68 t68 w->
    Q1 x10.1 true w (Y5 P .neq T.b (.tmp 63) (.tmp 68) t63 t68) fun t69 w=>
    pick P x10.1 t69 (.bool false) w fun t70 w=>
    Y5 P .add T.d (.tmp 55) (.const (.int .i64 1)) x10.2 (.int .i64 1) w fun t56 w=>
    again10 (t70,t56) w) (
    Y5 P .add T.d (.tmp 31) (.const (.int .i64 1)) x4.2 (.int .i64 1) w fun t32 w=>
    again4 (x10.1,t32) w)) (
  J x4.1 w):=by
 have hmax:=g1.max;refine O7 (a:=Value.bool ok) c.like.length (fun n x w'=> ∃σ',Stp w1 σ1 w' σ'/\x=Value.bool (ok&&(List.range n).all fun i=>Ox c i&&(List.range i).all (Qo c i))) ⟨σ1,Stp.refl hs1,by simp⟩ fun n x w2 d hn2 hinv=>?_
 obtain ⟨σ2,hk2,rfl⟩:=hinv;have hq2:=hq.up hk2;have g12:=g1.up hk2;have hs2:=hk2.sat
 (repeat refine Hd.h ?_)
 refine ld hs2 hq2 rfl ?_;refine Q6 g12 ?_;refine Z4 ?_;refine Q3 (fun hc=>?_) (fun hc=>?_)
 .have hn':n<c.like.length:=by simpa using hc
  have hnx:(ok&&(List.range (n+1)).all fun i=>Ox c i&&(List.range i).all (Qo c i))=((ok&&(List.range n).all fun i=>Ox c i&&(List.range i).all (Qo c i))&&(Ox c n&&(List.range n).all (Qo c n))):=by rw[Lz,Bool.and_assoc]
  have hP:Ox c n=(O6 c.like[n]&& !decide (c.like[n]=c.name)):=by unfold Ox;rw[B1 hn']
  obtain ⟨p1,p2⟩:=g12.elS hn';have p2:c.like[n].length<=140737488355328:=by simp only[U9] at p2;omega
  generalize (ok&&(List.range n).all fun i=>Ox c i&&(List.range i).all (Qo c i))=acc at hnx⊢;clear h hc;cases hacc:acc with
  | false=>
   refine L9 hs2 ?_
   (repeat refine J9 Md ?_)
   intros;(repeat (rename_i hx;subst hx))
   rename_i w3 hb3
   (repeat refine Hd.h ?_)
   refine Q5k hb3.sat hq2 g12 hn' fun w4 σ4 hk4=>?_;exact Z9 hmax hn' ⟨σ4,hk2.trans (hb3.stp.trans hk4),by rw[hnx,hacc];rfl⟩
  | true=>
   cases hcl:O6 c.like[n] with
   | false=>
    refine L9 hs2 ?_;have hrc: ∀{w':World} {K:Value->World->Prop},K (.bool false) w'->Q0 P F.d [S c.like[n]] w' K:=fun hK=>Zi _ p2 (by rw[hcl];exact hK)
    (repeat (apply J9;(· intros;(repeat (rename_i hx;subst hx));(repeat' (first | (with_reducible exact J3 rfl) | (with_reducible exact Qv (Stp.bel (by (repeat (first | exact Stp.refl (by (first | assumption | exact Stp.sat Q7 | exact Hst.sat Q7)) | assumption | refine Stp.trans ?_ (by first | assumption | exact Hst.stp Q7))))) rfl) | (with_reducible intro _) | (simp only[↓M2,M2,Mb,reduceIte]) | (with_reducible refine hrc ?_) | (with_reducible show Q9 _ _ _ _ _;first | refine Y4 aS aL aR ?_ | refine Z8 aS aL aR ?_ | refine ld aS aL aR ?_) | (with_reducible show indexAddr _ _ _ _ _ _;refine U2 aL au ?_) | (with_reducible show V9 _ _ _ _ _ _ _ _;refine Q6 aL ?_) | (with_reducible show Nk _ _ _ _ _ _;refine L6 aR ?_) | (with_reducible show pick _ _ _ _ _ _;refine Lm ?_) | (apply Ot;intro hh;(try simp only[hh,reduceIte,↓M2,M2,Mb,reduceIte]))));done)))
    intros;(repeat (rename_i hx;subst hx))
    rename_i w3 hb3
    (repeat refine Hd.h ?_)
    refine Q5k hb3.sat hq2 g12 hn' fun w4 σ4 hk4=>?_;exact Z9 hmax hn' ⟨σ4,hk2.trans (hb3.stp.trans hk4),by rw[hnx,hacc,hP,hcl];rfl⟩
   | true=>
    refine L9 hs2 ?_;have hrc: ∀{w':World} {K:Value->World->Prop},K (.bool true) w'->Q0 P F.d [S c.like[n]] w' K:=fun hK=>Zi _ p2 (by rw[hcl];exact hK)
    (repeat (apply J9;(· intros;(repeat (rename_i hx;subst hx));(repeat' (first | (with_reducible exact J3 rfl) | (with_reducible exact Qv (Stp.bel (by (repeat (first | exact Stp.refl (by (first | assumption | exact Stp.sat Q7 | exact Hst.sat Q7)) | assumption | refine Stp.trans ?_ (by first | assumption | exact Hst.stp Q7))))) rfl) | (with_reducible intro _) | (simp only[↓M2,M2,Mb,reduceIte]) | (with_reducible refine hrc ?_) | (with_reducible show Q9 _ _ _ _ _;first | refine Y4 aS aL aR ?_ | refine Z8 aS aL aR ?_ | refine ld aS aL aR ?_) | (with_reducible show indexAddr _ _ _ _ _ _;refine U2 aL au ?_) | (with_reducible show V9 _ _ _ _ _ _ _ _;refine Q6 aL ?_) | (with_reducible show Nk _ _ _ _ _ _;refine L6 aR ?_) | (with_reducible show pick _ _ _ _ _ _;refine Lm ?_) | (apply Ot;intro hh;(try simp only[hh,reduceIte,↓M2,M2,Mb,reduceIte]))));done)))
    intros;(repeat (rename_i hx;subst hx))
    rename_i w3 hb3
    (repeat refine Hd.h ?_)
    refine Hl ?_
    (repeat refine Hd.h ?_)
    refine Q5k hb3.sat hq2 g12 hn' fun w4 σ4 hk4=>?_;exact Z9 hmax hn' ⟨σ4,hk2.trans (hb3.stp.trans hk4),by rw[hnx,hacc,hP,hcl];simp⟩
 .have hn': ¬n<c.like.length:=by simpa using hc
  obtain rfl:n=c.like.length:=by omega
  exact h _ _ hk2
set_option maxHeartbeats 2000000 in
theorem Q46 {c:Cla} {lv fv mv:Value} {w1:World} {σ1:Q2} {q:Addr} {ok:Bool} (ak:X1 w1 σ1) (hq:J7 σ1 q [S c.name,S c.super,lv, .bool c.iface, .bool c.abs, .bool c.fin,fv,mv]) {i:Nat} {N m0:Nat} {W:Nat->Value->World->Prop} (g2:Sl 3 C5 σ1 fv c.fields) (hi:i<c.fields.length)
 (h: ∀w' σ',Stp w1 σ1 w' σ'->Gc N W (Value.bool (ok&&(List.range i).all (Yl c i)), .int .i64 (IntKind.i64.wrap (i+1))) w'/\Nb N (Value.bool (ok&&(List.range i).all (Yl c i)), .int .i64 (IntKind.i64.wrap (i+1)))<m0):
 lp (α:=Value×Value) (Value.bool ok,(.int .i64 0)) w1 fun L b d_ w=>
  Y5 P .lss T.d (.tmp 102) (.tmp 103) b.2 (I i) w fun aa w=>
  X0 aa (
   dr w fun e H=>
   J8 e (fun t=> ∀w:World,H w->Q1 b.1 true w (fieldAddr P T.a (.pointer (some q)) 6) (dk e t w)) fun t=>
   J8 e (fun v=> ∀w:World,H w->Q1 b.1 true w (fun w J=>J b.2 w) (dk e v w)) fun v=>
   J8 e (fun A=> ∀w:World,H w->Q1 b.1 true w (fieldAddr P T.a (.pointer (some q)) 6) (dk e A w)) fun A=>
   J8 e (fun C=> ∀w:World,H w->Q1 b.1 true w (fun w J=>J (I i) w) (dk e C w)) fun C=>
   J8 e (fun u=> ∀f:Value,∀w:World,H w->t f w->Q1 b.1 true w (Q9 P T.h f) (dk e u w)) fun u=>
   J8 e (fun y=> ∀g:Value,∀j:Value,∀w:World,H w->u g w->v j w->Q1 b.1 true w (indexAddr P T.h g j) (dk e y w)) fun y=>
   J8 e (fun z=> ∀l:Value,∀w:World,H w->y l w->Q1 b.1 true w (fieldAddr P T.j l 0) (dk e z w)) fun z=>
   J8 e (fun O=> ∀m:Value,∀w:World,H w->z m w->Q1 b.1 true w (Q9 P T.b m) (dk e O w)) fun O=>
   J8 e (fun B=> ∀n:Value,∀w:World,H w->A n w->Q1 b.1 true w (Q9 P T.h n) (dk e B w)) fun B=>
   J8 e (fun D=> ∀o:Value,∀p:Value,∀w:World,H w->B o w->C p w->Q1 b.1 true w (indexAddr P T.h o p) (dk e D w)) fun D=>
   J8 e (fun E=> ∀r:Value,∀w:World,H w->D r w->Q1 b.1 true w (fieldAddr P T.j r 0) (dk e E w)) fun E=>
   J8 e (fun Q=> ∀s:Value,∀w:World,H w->E s w->Q1 b.1 true w (Q9 P T.b s) (dk e Q w)) fun Q=>
   ∀f:Value,∀j:Value,∀n:Value,∀p:Value,∀g:Value,∀l:Value,∀m:Value,∀R:Value,∀o:Value,∀r:Value,∀s:Value,∀U:Value,∀w:World,H w->t f w->v j w->A n w->C p w->u g w->y l w->z m w->O R w->B o w->D r w->E s w->Q U w->
   Q1 b.1 true w (Y5 P .neq T.b (.tmp 114) (.tmp 120) R U) fun ac w=>
   pick P b.1 ac (.bool false) w fun ad w=>
   Y5 P .add T.d (.tmp 105) (.const (.int .i64 1)) b.2 (.int .i64 1) w fun ab w=>
   L (ad,ab) w) (
   Y5 P .add T.d (.tmp 76) (.const (.int .i64 1)) (I i) (.int .i64 1) w fun ae w=>
   (Gc N W (b.1,ae) w/\Nb N (b.1,ae)<m0)):=by
 have ar:=g2.max;refine O7 (a:=Value.bool ok) i (fun k x w'=> ∃σ',Stp w1 σ1 w' σ'/\x=Value.bool (ok&&(List.range k).all (Yl c i))) ⟨σ1,Stp.refl ak,by simp⟩ fun k x w2 d hk Y=>?_
 obtain ⟨σ2,M,rfl⟩:=Y;have ax:=hq.up M;have X:=g2.up M;have al:=M.sat;refine Z4 ?_;refine Q3 (fun hc=>?_) (fun hc=>?_)
 .have ai:k<i:=by simpa using hc
  have Z:k<c.fields.length:=by omega
  have V:(ok&&(List.range (k+1)).all (Yl c i))=((ok&&(List.range k).all (Yl c i))&&Yl c i k):=by rw[Lz,Bool.and_assoc]
  have hQ:Yl c i k= !decide (c.fields[k].name=c.fields[i].name):=by unfold Yl Fi;rw[B1 Z,B1 hi]
  rw[hQ] at V;obtain ⟨p1,_⟩:=X.elF Z;obtain ⟨p2,_⟩:=X.elF hi;generalize (ok&&(List.range k).all (Yl c i))=ag at V⊢;clear h hQ hc;cases ag
  all_goals
   refine L9 al ?_
   (repeat refine J9 Md ?_)
   (intros;(repeat (rename_i hx;subst hx));(try simp only[↓M2,M2,Mb,reduceIte]))
   rename_i w3 ah;exact Z9 Q4 ai ⟨σ2,M.trans ah.stp,by rw[V];rfl⟩
 .have aj:k=i:=by
   have: ¬k<i:=by simpa using hc
   omega
  subst aj
  (try simp only[↓M1,M1,Mb,reduceIte])
  exact h _ _ M
set_option maxHeartbeats 4000000 in
theorem X4C {c:Cla} {lv fv mv:Value} {w1:World} {σ1:Q2} {q:Addr} {ok:Bool} (aw:X1 w1 σ1) (hq:J7 σ1 q [S c.name,S c.super,lv, .bool c.iface, .bool c.abs, .bool c.fin,fv,mv]) {J:Value->World->Prop} (g2:Sl 3 C5 σ1 fv c.fields)
 (h: ∀w' σ',Stp w1 σ1 w' σ'->J (.bool (ok&&(List.range c.fields.length).all fun i=>Et c i&&(List.range i).all (Yl c i))) w'):
 lp (
  α:=Value×Value) (Value.bool ok,(.int .i64 0)) w1 fun Z g d_ w=>
  fieldAddr P T.a (.pointer (some q)) 6 w fun ax w=>
  Q9 P T.h ax w fun ay w=>
  V9 P .len [T.h] T.d [false] [ay] w fun az w=>
  Y5 P .lss T.d (.tmp 71) (.tmp 74) g.2 az w fun a0 w=>
  X0 a0 (
   Q1 g.1 true w (fieldAddr P T.a (.pointer (some q)) 6) fun a2 w=>
   Q1 g.1 true w (Q9 P T.h a2) fun a3 w=>
   Q1 g.1 true w (fun w J=>J g.2 w) fun a4 w=>
   Q1 g.1 true w (indexAddr P T.h a3 a4) fun a5 w=>
   Q1 g.1 true w (fieldAddr P T.j a5 0) fun a6 w=>
   Q1 g.1 true w (Q9 P T.b a6) fun a7 w=>
   Q1 g.1 true w (Q0 P F.v [a7]) fun a8 w=>
   pick P g.1 a8 (.bool false) w fun r w=>
   Q1 r true w (fieldAddr P T.a (.pointer (some q)) 6) fun a9 w=>
   Q1 r true w (Q9 P T.h a9) fun ba w=>
   Q1 r true w (fun w J=>J g.2 w) fun bb w=>
   Q1 r true w (indexAddr P T.h ba bb) fun bc w=>
   Q1 r true w (fieldAddr P T.j bc 1) fun bd w=>
   Q1 r true w (Q9 P T.b bd) fun be w=>
   Q1 r true w (Q0 P F.h [be]) fun bf w=>
   pick P r bf (.bool false) w fun ae w=>
   Q1 ae true w (fieldAddr P T.a (.pointer (some q)) 3) fun bg w=>
   Q1 ae true w (Q9 P T.n bg) fun bh w=>
   Q1 ae true w (V1 P .not bh) fun ak w=>
   pick P ae ak (.bool false) w fun al w=>
   lp (α:=Value×Value) (al,(.int .i64 0)) w fun aa f d_ w=>
    Y5 P .lss T.d (.tmp 102) (.tmp 103) f.2 g.2 w fun am w=>
    X0 am (
     dr w fun k Y=>
     J8 k (fun L=> ∀w:World,Y w->Q1 f.1 true w (fieldAddr P T.a (.pointer (some q)) 6) (dk k L w)) fun L=>
     J8 k (fun N=> ∀w:World,Y w->Q1 f.1 true w (fun w J=>J f.2 w) (dk k N w)) fun N=>
     J8 k (fun R=> ∀w:World,Y w->Q1 f.1 true w (fieldAddr P T.a (.pointer (some q)) 6) (dk k R w)) fun R=>
     J8 k (fun V=> ∀w:World,Y w->Q1 f.1 true w (fun w J=>J g.2 w) (dk k V w)) fun V=>
     J8 k (fun M=> ∀u:Value,∀w:World,Y w->L u w->Q1 f.1 true w (Q9 P T.h u) (dk k M w)) fun M=>
     J8 k (fun O=> ∀v:Value,∀y:Value,∀w:World,Y w->M v w->N y w->Q1 f.1 true w (indexAddr P T.h v y) (dk k O w)) fun O=>
     J8 k (fun Q=> ∀z:Value,∀w:World,Y w->O z w->Q1 f.1 true w (fieldAddr P T.j z 0) (dk k Q w)) fun Q=>
     J8 k (fun ac=> ∀A:Value,∀w:World,Y w->Q A w->Q1 f.1 true w (Q9 P T.b A) (dk k ac w)) fun ac=>
     J8 k (fun U=> ∀B:Value,∀w:World,Y w->R B w->Q1 f.1 true w (Q9 P T.h B) (dk k U w)) fun U=>
     J8 k (fun W=> ∀C:Value,∀D:Value,∀w:World,Y w->U C w->V D w->Q1 f.1 true w (indexAddr P T.h C D) (dk k W w)) fun W=>
     J8 k (fun X=> ∀E:Value,∀w:World,Y w->W E w->Q1 f.1 true w (fieldAddr P T.j E 0) (dk k X w)) fun X=>
     J8 k (fun ad=> ∀H:Value,∀w:World,Y w->X H w->Q1 f.1 true w (Q9 P T.b H) (dk k ad w)) fun ad=>
     ∀u:Value,∀y:Value,∀B:Value,∀D:Value,∀v:Value,∀z:Value,∀A:Value,∀af:Value,∀C:Value,∀E:Value,∀H:Value,∀ag:Value,∀w:World,Y w->L u w->N y w->R B w->V D w->M v w->O z w->Q A w->ac af w->U C w->W E w->X H w->ad ag w->
     Q1 f.1 true w (Y5 P .neq T.b (.tmp 114) (.tmp 120) af ag) fun ao w=>
     pick P f.1 ao (.bool false) w fun ap w=>
     Y5 P .add T.d (.tmp 105) (.const (.int .i64 1)) f.2 (.int .i64 1) w fun an w=>
     aa (ap,an) w) (
     Y5 P .add T.d (.tmp 76) (.const (.int .i64 1)) g.2 (.int .i64 1) w fun a1 w=>
     Z (f.1,a1) w)) (
   J g.1 w):=by
 have t:=g2.max;refine O7 (a:=Value.bool ok) c.fields.length (fun n x w'=> ∃σ',Stp w1 σ1 w' σ'/\x=Value.bool (ok&&(List.range n).all fun i=>Et c i&&(List.range i).all (Yl c i))) ⟨σ1,Stp.refl aw,by simp⟩ fun n x w2 d bs aj=>?_
 obtain ⟨σ2,o,rfl⟩:=aj;have p:=hq.up o;have m:=g2.up o;have l:=o.sat
 (repeat refine Hd.h ?_)
 refine ld l p rfl ?_;refine Q6 m ?_;refine Z4 ?_;refine Q3 (fun hc=>?_) (fun hc=>?_)
 .have j:n<c.fields.length:=by simpa using hc
  have ab:(ok&&(List.range (n+1)).all fun i=>Et c i&&(List.range i).all (Yl c i))=((ok&&(List.range n).all fun i=>Et c i&&(List.range i).all (Yl c i))&&(Et c n&&(List.range n).all (Yl c n))):=by rw[Lz,Bool.and_assoc]
  have hP:Et c n=(D3 c.fields[n].name&&right c.fields[n].kind&& !c.iface):=by unfold Et Fi;rw[B1 j]
  obtain ⟨p1,r1⟩:=m.elF j;have b1:c.fields[n].name.length<=140737488355328:=by have:=r1.2.1;simp only[U9] at this;omega
  have b2:c.fields[n].kind.length<=140737488355328:=by have:=r1.2.2;simp only[U9] at this;omega
  generalize (ok&&(List.range n).all fun i=>Et c i&&(List.range i).all (Yl c i))=ah at ab⊢;clear h hc;have step: ∀b,b=(ah&&Et c n)->(ah&&(Et c n&&(List.range n).all (Yl c n)))=(b&&(List.range n).all (Yl c n)):=fun b e=>by rw[e,Bool.and_assoc]
  cases ah with
  | false=>
   (repeat refine Hd.h ?_)
   refine Q46 l p m j fun w4 σ4 s=>?_;exact Z9 t j ⟨σ4,o.trans s,by rw[ab];rfl⟩
  | true=>
   (repeat refine Hd.h ?_)
   refine ld l p rfl ?_
   (repeat refine Hd.h ?_)
   refine U2 m j ?_
   (repeat refine Hd.h ?_)
   refine ld l p1 rfl ?_
   (repeat refine Hd.h ?_)
   refine Q00 _ b1 ?_;cases d1:D3 c.fields[n].name with
   | false=>
    (repeat refine Hd.h ?_)
    refine Q46 l p m j fun w4 σ4 s=>?_;exact Z9 t j ⟨σ4,o.trans s,by rw[ab,step false (by rw[hP,d1];rfl)]⟩
   | true=>
    (repeat refine Hd.h ?_)
    refine ld l p rfl ?_
    (repeat refine Hd.h ?_)
    refine U2 m j ?_
    (repeat refine Hd.h ?_)
    refine ld l p1 rfl ?_
    (repeat refine Hd.h ?_)
    refine My _ b2 ?_;cases d2:right c.fields[n].kind with
    | false=>
     (repeat refine Hd.h ?_)
     refine Q46 l p m j fun w4 σ4 s=>?_;exact Z9 t j ⟨σ4,o.trans s,by rw[ab,step false (by rw[hP,d1,d2];rfl)]⟩
    | true=>
     (repeat refine Hd.h ?_)
     refine ld l p rfl ?_
     (repeat refine Hd.h ?_)
     refine Q46 l p m j fun w4 σ4 s=>?_;exact Z9 t j ⟨σ4,o.trans s,by rw[ab,step (!c.iface) (by rw[hP,d1,d2];rfl)]⟩
 .have j: ¬n<c.fields.length:=by simpa using hc
  obtain rfl:n=c.fields.length:=by omega
  exact h _ _ o
set_option maxHeartbeats 2000000 in
theorem Co {c:Cla} {lv fv mv:Value} {w1:World} {σ1:Q2} {q:Addr} {ok:Bool} (ad:X1 w1 σ1) (hq:J7 σ1 q [S c.name,S c.super,lv, .bool c.iface, .bool c.abs, .bool c.fin,fv,mv]) {i:Nat} {q9:Addr} {pv cv hv:Value} {N m0:Nat} {L:Nat->Value->World->Prop} (g3:Sl 7 E6 σ1 mv c.methods) (hi:i<c.methods.length) (ac:J7 σ1 q9 [S c.methods[i].name,pv,S c.methods[i].result, .bool c.methods[i].abs,I c.methods[i].locals,cv,hv])
 (h: ∀w' σ',Stp w1 σ1 w' σ'->Gc N L (Value.bool (ok&&(List.range i).all (Yp c i)), .int .i64 (IntKind.i64.wrap (i+1))) w'/\Nb N (Value.bool (ok&&(List.range i).all (Yp c i)), .int .i64 (IntKind.i64.wrap (i+1)))<m0):
 lp (α:=Value×Value) (Value.bool ok,(.int .i64 0)) w1 fun y b d_ w=>
  Y5 P .lss T.d (.tmp 158) (.tmp 159) b.2 (I i) w fun Q w=>
  X0 Q (
   dr w fun e B=>
   J8 e (fun o=> ∀w:World,B w->Q1 b.1 true w (fieldAddr P T.a (.pointer (some q)) 7) (dk e o w)) fun o=>
   J8 e (fun r=> ∀w:World,B w->Q1 b.1 true w (fun w J=>J b.2 w) (dk e r w)) fun r=>
   J8 e (fun u=> ∀w:World,B w->Q1 b.1 true w (fieldAddr P T.c (.pointer (some q9)) 0) (dk e u w)) fun u=>
   J8 e (fun p=> ∀f:Value,∀w:World,B w->o f w->Q1 b.1 true w (Q9 P T.f f) (dk e p w)) fun p=>
   J8 e (fun s=> ∀g:Value,∀j:Value,∀w:World,B w->p g w->r j w->Q1 b.1 true w (indexAddr P T.f g j) (dk e s w)) fun s=>
   J8 e (fun t=> ∀l:Value,∀w:World,B w->s l w->Q1 b.1 true w (fieldAddr P T.c l 0) (dk e t w)) fun t=>
   J8 e (fun z=> ∀m:Value,∀w:World,B w->t m w->Q1 b.1 true w (Q9 P T.b m) (dk e z w)) fun z=>
   J8 e (fun A=> ∀n:Value,∀w:World,B w->u n w->Q1 b.1 true w (Q9 P T.b n) (dk e A w)) fun A=>
   ∀f:Value,∀j:Value,∀n:Value,∀g:Value,∀l:Value,∀m:Value,∀D:Value,∀E:Value,∀w:World,B w->o f w->r j w->u n w->p g w->s l w->t m w->z D w->A E w->
   Q1 b.1 true w (Y5 P .neq T.b (.tmp 170) (.tmp 172) D E) fun U w=>
   pick P b.1 U (.bool false) w fun V w=>
   Y5 P .add T.d (.tmp 161) (.const (.int .i64 1)) b.2 (.int .i64 1) w fun R w=>
   y (V,R) w) (
   Y5 P .add T.d (.tmp 128) (.const (.int .i64 1)) (I i) (.int .i64 1) w fun C w=>
   (Gc N L (b.1,C) w/\Nb N (b.1,C)<m0)):=by
 have ai:=g3.max;refine O7 (a:=Value.bool ok) i (fun k x w'=> ∃σ',Stp w1 σ1 w' σ'/\x=Value.bool (ok&&(List.range k).all (Yp c i))) ⟨σ1,Stp.refl ad,by simp⟩ fun k x w2 d hk M=>?_
 obtain ⟨σ2,v,rfl⟩:=M;have ar:=hq.up v;have aj:=ac.up v;have Y:=g3.up v;have ae:=v.sat;refine Z4 ?_;refine Q3 (fun W=>?_) (fun W=>?_)
 .have aa:k<i:=by simpa using W
  have O:k<c.methods.length:=by omega
  have H:(ok&&(List.range (k+1)).all (Yp c i))=((ok&&(List.range k).all (Yp c i))&&Yp c i k):=by rw[Lz,Bool.and_assoc]
  have hQ:Yp c i k= !decide (c.methods[k].name=c.methods[i].name):=by unfold Yp Sf;rw[B1 O,B1 hi]
  rw[hQ] at H;obtain ⟨az,an,aw,p1,_⟩:=Y.elM O;generalize (ok&&(List.range k).all (Yp c i))=X at H⊢;clear h hQ W;cases X
  all_goals
   refine L9 ae ?_
   (repeat refine J9 Md ?_)
   (intros;(repeat (rename_i hx;subst hx));(try simp only[↓M2,M2,Mb,reduceIte]))
   rename_i w3 Z;exact Z9 Q4 aa ⟨σ2,v.trans Z.stp,by rw[H];rfl⟩
 .have ab:k=i:=by
   have: ¬k<i:=by simpa using W
   omega
  subst ab
  (try simp only[↓M1,M1,Mb,reduceIte])
  exact h _ _ v
set_option maxHeartbeats 4000000 in
theorem X4I {c:Cla} {lv fv mv:Value} {w1:World} {σ1:Q2} {q:Addr} {ok:Bool} (bu:X1 w1 σ1) (hq:J7 σ1 q [S c.name,S c.super,lv, .bool c.iface, .bool c.abs, .bool c.fin,fv,mv]) {J:Value->World->Prop} (g3:Sl 7 E6 σ1 mv c.methods)
 (h: ∀w' σ',Stp w1 σ1 w' σ'->J (.bool (ok&&(List.range c.methods.length).all fun i=>Oy c i&&(List.range i).all (Yp c i))) w'):
 lp (α:=Value×Value) (Value.bool ok,(.int .i64 0)) w1 fun V v d_ w=>
  fieldAddr P T.a (.pointer (some q)) 7 w fun ax w=>
  Q9 P T.f ax w fun ay w=>
  V9 P .len [T.f] T.d [false] [ay] w fun az w=>
  Y5 P .lss T.d (.tmp 123) (.tmp 126) v.2 az w fun a0 w=>
  X0 a0 (
   fieldAddr P T.a (.pointer (some q)) 7 w fun a2 w=>
   Q9 P T.f a2 w fun a3 w=>
   indexAddr P T.f a3 v.2 w fun a4 w=>
   Q9 P T.c a4 w fun a5 w=>
   Qh P T.c w fun t9 w=>
   M3 P T.c t9 a5 w fun _u w=>
   Q1 v.1 true w (Q9 P T.c t9) fun a6 w=>
   Q1 v.1 true w (Q0 P F.a2 [a6]) fun a7 w=>
   pick P v.1 a7 (.bool false) w fun r w=>
   Q1 r true w (fieldAddr P T.c t9 3) fun a8 w=>
   Q1 r true w (Q9 P T.n a8) fun a9 w=>
   Q1 r true w (V1 P .not a9) fun ba w=>
   Q1 r true w (fun w J=>J ba w) fun aa w=>
   Q1 aa false w (fieldAddr P T.a (.pointer (some q)) 4) fun bb w=>
   Q1 aa false w (Q9 P T.n bb) fun bc w=>
   Q1 r true w (pick P aa (.bool true) bc) fun bd w=>
   pick P r bd (.bool false) w fun s w=>
   Q1 s true w (fieldAddr P T.a (.pointer (some q)) 3) fun be w=>
   Q1 s true w (Q9 P T.n be) fun bf w=>
   Q1 s true w (V1 P .not bf) fun bg w=>
   Q1 s true w (fun w J=>J bg w) fun ab w=>
   Q1 ab false w (fieldAddr P T.c t9 3) fun bh w=>
   Q1 ab false w (Q9 P T.n bh) fun bi w=>
   Q1 s true w (pick P ab (.bool true) bi) fun bj w=>
   pick P s bj (.bool false) w fun bk w=>
   lp (α:=Value×Value) (bk,(.int .i64 0)) w fun W k d_ w=>
    Y5 P .lss T.d (.tmp 158) (.tmp 159) k.2 v.2 w fun bl w=>
    X0 bl (
     dr w fun y Br=>
     J8 y (fun H=> ∀w:World,Br w->Q1 k.1 true w (fieldAddr P T.a (.pointer (some q)) 7) (dk y H w)) fun H=>
     J8 y (fun M=> ∀w:World,Br w->Q1 k.1 true w (fun w J=>J k.2 w) (dk y M w)) fun M=>
     J8 y (fun Q=> ∀w:World,Br w->Q1 k.1 true w (fieldAddr P T.c t9 0) (dk y Q w)) fun Q=>
     J8 y (fun L=> ∀z:Value,∀w:World,Br w->H z w->Q1 k.1 true w (Q9 P T.f z) (dk y L w)) fun L=>
     J8 y (fun N=> ∀A:Value,∀B:Value,∀w:World,Br w->L A w->M B w->Q1 k.1 true w (indexAddr P T.f A B) (dk y N w)) fun N=>
     J8 y (fun O=> ∀C:Value,∀w:World,Br w->N C w->Q1 k.1 true w (fieldAddr P T.c C 0) (dk y O w)) fun O=>
     J8 y (fun ac=> ∀D:Value,∀w:World,Br w->O D w->Q1 k.1 true w (Q9 P T.b D) (dk y ac w)) fun ac=>
     J8 y (fun ad=> ∀E:Value,∀w:World,Br w->Q E w->Q1 k.1 true w (Q9 P T.b E) (dk y ad w)) fun ad=>
     ∀z:Value,∀B:Value,∀E:Value,∀A:Value,∀C:Value,∀D:Value,∀ai:Value,∀aj:Value,∀w:World,Br w->H z w->M B w->Q E w->L A w->N C w->O D w->ac ai w->ad aj w->
     Q1 k.1 true w (Y5 P .neq T.b (.tmp 170) (.tmp 172) ai aj) fun bn w=>
     pick P k.1 bn (.bool false) w fun bo w=>
     Y5 P .add T.d (.tmp 161) (.const (.int .i64 1)) k.2 (.int .i64 1) w fun bm w=>
     W (bo,bm) w) (
     Y5 P .add T.d (.tmp 128) (.const (.int .i64 1)) v.2 (.int .i64 1) w fun a1 w=>
     V (k.1,a1) w)) (
   J v.1 w):=by
 have o:=g3.max;refine O7 (a:=Value.bool ok) c.methods.length (fun n x w'=> ∃σ',Stp w1 σ1 w' σ'/\x=Value.bool (ok&&(List.range n).all fun i=>Oy c i&&(List.range i).all (Yp c i))) ⟨σ1,Stp.refl bu,by simp⟩ fun n x w2 d b4 av=>?_
 obtain ⟨σ2,X,rfl⟩:=av;have am:=hq.up X;have af:=g3.up X;have ag:=X.sat
 (repeat refine Hd.h ?_)
 refine ld ag am rfl ?_;refine Q6 af ?_;refine Z4 ?_;refine Q3 (fun hc=>?_) (fun hc=>?_)
 .have f:n<c.methods.length:=by simpa using hc
  have u:(ok&&(List.range (n+1)).all fun i=>Oy c i&&(List.range i).all (Yp c i))=((ok&&(List.range n).all fun i=>Oy c i&&(List.range i).all (Yp c i))&&(Oy c n&&(List.range n).all (Yp c n))):=by rw[Lz,Bool.and_assoc]
  have hP:Oy c n=(T7 c.methods[n]&&(!c.methods[n].abs||c.abs)&&(!c.iface||c.methods[n].abs)):=by unfold Oy Sf;rw[B1 f]
  obtain ⟨pv,cv,hv,p1,r1⟩:=af.elM f;generalize (ok&&(List.range n).all fun i=>Oy c i&&(List.range i).all (Yp c i))=ak at u⊢;clear h hc;have step: ∀b,b=(ak&&Oy c n)->(ak&&(Oy c n&&(List.range n).all (Yp c n)))=(b&&(List.range n).all (Yp c n)):=fun b e=>by rw[e,Bool.and_assoc]
  (repeat refine Hd.h ?_)
  refine ld ag am rfl ?_;refine U2 af f ?_;refine Z8 ag p1 rfl ?_;refine Z0 ag (by rfl) rfl (Rep.one r1) fun q9 w3 σ3 Y an=>?_
  have ao:=Y.sat;have aw:=am.up Y;have ar:=af.up Y;have r3:=RMe_lift r1 ⟨Y.le⟩;have ah:=X.trans Y;cases ak with
  | false=>
   (repeat refine Hd.h ?_)
   refine Co ao aw ar f an fun w4 U l=>?_;exact Z9 o f ⟨U,ah.trans l,by rw[u];rfl⟩
  | true=>
   (repeat refine Hd.h ?_)
   refine Z8 ao an rfl ?_
   (repeat refine Hd.h ?_)
   refine X0P ao r3 fun w5 σ5 Z=>?_;have m:=Z.sat;have t:=aw.up Z;have g:=an.up Z;have R:=ar.up Z;have p:=ah.trans Z;cases d1:T7 c.methods[n] with
   | false=>
    (repeat refine Hd.h ?_)
    refine Co m t R f g fun w4 U l=>?_;exact Z9 o f ⟨U,p.trans l,by rw[u,step false (by rw[hP,d1];rfl)]⟩
   | true=>
    (repeat refine Hd.h ?_)
    refine ld m g rfl ?_
    (repeat refine Hd.h ?_)
    have j: ∀b1:Bool,b1=(!c.methods[n].abs||c.abs)->Oy c n=(b1&&(!c.iface||c.methods[n].abs)):=fun b1 e=>by rw[hP,d1,e];rfl
    cases d2:c.methods[n].abs with
    | false=>
     rw[d2] at j g;simp only[Bool.not_true,Bool.not_false]
     (repeat refine Hd.h ?_)
     refine ld m t rfl ?_
     (repeat refine Hd.h ?_)
     cases d4:c.iface with
     | false=>
      simp only[Bool.not_true,Bool.not_false]
      (repeat refine Hd.h ?_)
      refine Co m t R f (by rw[d2];exact g) fun w4 U l=>?_
      exact Z9 o f ⟨U,p.trans l,by rw[u,step true (by rw[j true rfl,d4];rfl)]⟩
     | true=>
      simp only[Bool.not_true,Bool.not_false]
      (repeat refine Hd.h ?_)
      refine ld m g rfl ?_
      (repeat refine Hd.h ?_)
      refine Co m t R f (by rw[d2];exact g) fun w4 U l=>?_
      exact Z9 o f ⟨U,p.trans l,by rw[u,step false (by rw[j true rfl,d4];rfl)]⟩
    | true=>
     rw[d2] at j g;simp only[Bool.not_true,Bool.not_false]
     (repeat refine Hd.h ?_)
     refine ld m t rfl ?_;cases d3:c.abs with
     | false=>
      (repeat refine Hd.h ?_)
      refine Co m t R f (by rw[d2];exact g) fun w4 U l=>?_
      exact Z9 o f ⟨U,p.trans l,by rw[u,step false (by rw[j false (by rw[d3];rfl)];rfl)]⟩
     | true=>
      (repeat refine Hd.h ?_)
      refine ld m t rfl ?_
      (repeat refine Hd.h ?_)
      cases d4:c.iface with
      | false=>
       simp only[Bool.not_true,Bool.not_false]
       (repeat refine Hd.h ?_)
       refine Co m t R f (by rw[d2];exact g) fun w4 U l=>?_
       exact Z9 o f ⟨U,p.trans l,by rw[u,step true (by rw[j true (by rw[d3];rfl),d4];rfl)]⟩
      | true=>
       simp only[Bool.not_true,Bool.not_false]
       (repeat refine Hd.h ?_)
       refine ld m g rfl ?_
       (repeat refine Hd.h ?_)
       refine Co m t R f (by rw[d2];exact g) fun w4 U l=>?_
       exact Z9 o f ⟨U,p.trans l,by rw[u,step true (by rw[j true (by rw[d3];rfl),d4];rfl)]⟩
 .have f: ¬n<c.methods.length:=by simpa using hc
  obtain rfl:n=c.methods.length:=by omega
  exact h _ _ X
theorem X4z {c:Cla} {M L mv:Value} {w1:World} {σ1:Q2} {q:Addr} {ok:Bool} (d:X1 w1 σ1) (g:J7 σ1 q [S c.name,S c.super,M, .bool c.iface, .bool c.abs, .bool c.fin,L,mv]) (h:K (.bool (ok&&X08 c)) w1):
 Q1 (Value.bool ok) true w1 (fieldAddr P T.a (.pointer (some q)) 3) fun j w=>
  Q1 (Value.bool ok) true w (Q9 P T.n j) fun k w=>
  Q1 (Value.bool ok) true w (V1 P .not k) fun l w=>
  Q1 (Value.bool ok) true w (fun w J=>J l w) fun b w=>
  Q1 b false w (fieldAddr P T.a (.pointer (some q)) 4) fun m w=>
  Q1 b false w (Q9 P T.n m) fun n w=>
  Q1 b false w (fun w J=>J n w) fun e w=>
  Q1 e true w (fieldAddr P T.a (.pointer (some q)) 1) fun o w=>
  Q1 e true w (Q9 P T.b o) fun p w=>
  Q1 e true w (Y5 P .eql T.b (.tmp 185) (.const (.string ⟨#[79,98,106,101,99,116]⟩)) p (.string ⟨#[79,98,106,101,99,116]⟩)) fun r w=>
  Q1 b false w (pick P e r (.bool false)) fun s w=>
  Q1 (Value.bool ok) true w (pick P b (.bool true) s) fun t w=>
  pick P (Value.bool ok) t (.bool false) w fun a w=>
  Q1 a true w (fieldAddr P T.a (.pointer (some q)) 4) fun u w=>
  Q1 a true w (Q9 P T.n u) fun v w=>
  Q1 a true w (fun w J=>J v w) fun f w=>
  Q1 f true w (fieldAddr P T.a (.pointer (some q)) 5) fun y w=>
  Q1 f true w (Q9 P T.n y) fun z w=>
  Q1 a true w (pick P f z (.bool false)) fun A w=>
  Q1 a true w (V1 P .not A) fun B w=>
  pick P a B (.bool false) w fun C w=>
  K C w:=by
 unfold X08 at h;have H:decide (c.super=L8)=decide (c.super=[79,98,106,101,99,116]):=rfl;rw[H] at h;cases ok with
 | false=>(try simp only[↓M1,M1,Mb,reduceIte]);simpa using h
 | true=>
  (try simp only[↓M1,M1,Mb,reduceIte])
  refine ld d g rfl ?_
  (try simp only[↓M1,M1,Mb,reduceIte])
  cases D:c.iface with
  | false=>
   rw[D] at h
   (try simp only[↓M1,M1,Mb,reduceIte])
   refine ld d g rfl ?_;cases i:c.abs with
   | false=>rw[i] at h;(try simp only[↓M1,M1,Mb,reduceIte]);simpa using h
   | true=>
    rw[i] at h
    (try simp only[↓M1,M1,Mb,reduceIte])
    refine ld d g rfl ?_
    (try simp only[↓M1,M1,Mb,reduceIte])
    simpa using h
  | true=>
   rw[D] at h
   (try simp only[↓M1,M1,Mb,reduceIte])
   refine ld d g rfl ?_;cases i:c.abs with
   | false=>rw[i] at h;(try simp only[↓M1,M1,Mb,reduceIte]);simpa using h
   | true=>
    rw[i] at h
    (try simp only[↓M1,M1,Mb,reduceIte])
    refine ld d g rfl ?_
    (try simp only[↓M1,M1,Mb,reduceIte])
    cases E:decide (c.super=[79,98,106,101,99,116]) with
    | false=>rw[E] at h;(try simp only[↓M1,M1,Mb,reduceIte]);simpa using h
    | true=>
     rw[E] at h
     (try simp only[↓M1,M1,Mb,reduceIte])
     refine ld d g rfl ?_;simp only[i,↓M1,M1,Mb,reduceIte];refine ld d g rfl ?_
     (try simp only[↓M1,M1,Mb,reduceIte])
     simpa using h
end Go.Proofs.Y
