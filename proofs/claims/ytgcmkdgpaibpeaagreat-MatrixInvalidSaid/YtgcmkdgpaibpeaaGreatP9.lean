/-
  MatrixInvalid: for every input the law returns true, and each argument reads afterwards as it read before. No condition beyond the cells of the given rows.
  (Text 9 of 9; made by a program out of smaller texts.)
-/
import Derived.Deep.Slices
import Derived.ChangeArms
import Derived.ChangeSame
import Derived.Below
import Derived.OpenShut
import Derived.ProofKit
import Derived.Test.YtgcmkdgpaibpeaaGreatRows
import Derived.Test.YtgcmkdgpaibpeaaGreatP8
set_option linter.unusedSimpArgs false
set_option linter.unusedVariables false
set_option maxHeartbeats 16000000
set_option maxRecDepth 10000
open Nat renaming reduceAdd→J1,reduceMul→J2,reduceSub→J3,reduceEqDiff→J4,reduceLT→J5,reduceLeDiff→J6,reduceBEq→J7,reduceDiv→J8,reduceMod→J9,reducePow→J0
open Int renaming reduceToNat→K1,reduceLE→K2,reduceLT→K3,reduceEq→K4,reducePow→K5,reduceSub→K6,reduceNeg→K7,natCast_add→X2,natCast_one→X3,natCast_zero→X4
open List renaming getD_cons_zero→X0,getD_cons_succ→X1,length_take→X5,length_append→X6,getD_eq_getElem?_getD→X7,getElem?_eq_getElem→X8
namespace Go.Proofs.YtgcmkdgpaibpeaaGreat
open Go.Proofs.Tryz
open Go Go.Eng
open Go.Tw (El)
theorem Hx {r c d:Nat}(x y:Nat→Nat→Nb)(hr:r<2^30)(hc:c<2^30)(hd:d<2^30):Pr prog 34 [.one (aq r (fun _=>c) x),.one (aq r (fun _=>d) y)] (.one (aq r (fun _=>c+d) fun i j=>if j<c then x i j else y i (j-c))):=by
 refine pw func34 ⟨[0,1,4,5,6,11,12,13],[]⟩ ?_;simp only[Tryz.f34,ntmps34,iz,seval];simp only[vx,T,seval,aq,ak];refine⟨by omega,?_⟩;refine Lk (fun z:{k:Nat//k≤r}=>⟨[(0,.one (aq r (fun _=>c) x)),(1,.one (aq r (fun _=>d) y)),(4,.one .nil),(5,.one (.own 1 1 0 r)),(11,.one (.int .i64 r)),(12,.one (.int .i64 z.1))],
  [(1,⟨.rows 33 1 r (fun i _=>if i<z.1 then ak (c+d) (fun j=>if j<c then x i j else y i (j-c))else .nil),true⟩)],2,30⟩) (fun z=>r-z.1) ⟨0,Nat.zero_le _⟩ ?_ (fun⟨k,hk⟩=>?_)
 ·refine Sa ?_;simp only[ry,seval,rz,aq,ak,Nat.not_lt_zero];intro i j hi hj;obtain rfl:j=0:=by omega
  rfl
 simp only;have wi:IntKind.i64.wrap ((k:Int)+1)=((k+1:Nat):Int):=by rw[IntWalk.i64_in _ (by omega)];omega
 simp only[vx,T,seval,aq,ak];refine⟨fun g=>Lg ?_,fun g=>Lg ?_⟩
 ·have hkr:k<r:=by omega
  have cc:=yU (n:=c) (m:=d) (x k) (y k) (by omega);simp only[vx,T,seval,aq,ak];refine⟨by omega,by omega,Cg cc ?_⟩;simp only[vx,T,seval,aq,ak,wi];refine⟨by omega,Lq ⟨k+1,by omega⟩ ?_ (by show r-(k+1)<r-k;omega)⟩;refine Sa ?_;simp only[ry,seval,rz,aq,ak];intro i j hi hj;obtain rfl:j=0:=by omega
  by_cases e:i=k
  ·subst e;rw[if_pos (Nat.lt_succ_self i)]
   simp[bt]
  by_cases h:i<k
  ·rw[if_pos (show i<k+1 by omega)]
   simp[bt,e,h]
  rw[if_neg (show¬i<k+1 by omega)]
  simp[bt,e,h]
 obtain rfl:k=r:=by omega
 simp only[vx,T,seval,aq,ak];refine fP.cell (dr.rows rfl fun i j hi hj=>.of_eq ?_);rw[if_pos hi]
theorem Lm {r:Nat}(x:Nat→Nat→Nb)(hr:r<2^30):Pr prog 47 [.one (aq r (fun _=>r) x)] (.one (.bool true)):=by
 have cv:=jx (r:=r) (fun _=>r) x (by omega) (b:=true) (by simp)
 have cl:=jn (fun _=>r) x (k:=r) (by split<;>omega) (by omega:r<2^38)
 refine pw func47 ⟨[0,2],[]⟩ ?_;simp only[Tryz.f47,ntmps47,iz,seval];simp only[vx,T,seval,aq,ak];refine Cg cv ?_;simp only[vx,T,seval,aq,ak];refine Cg cl ?_;simp only[vx,T,seval,aq,ak];exact Ve rfl
theorem HS {n:Nat}(x N:Nat→Nat→Nb)(p:List Nat)(D1 D2:C)(hn:n<2^29)
  (hE:Pr prog 33 [.one (aq n (fun _=>n+n) fun i j=>if j<n then x i j else oO i (j-n))] (.aA [.agg [aq n (fun _=>n+n) N,.ints .i64 (jJ p),D1,D2],.one (.int .i64 0)]))
  (s1:∃n f,D1= .rows 1 n f) (s2:∃n f,D2= .rows 4 n f) (hp:∀i,i<n→i<p.length∧p.getD i 0=i):
  Pr prog 22 [.one (aq n (fun _=>n) x)] (.aA [.one (aq n (fun _=>n) fun i j=>N i (n+j)),.one (.int .i64 0)]):=by
 obtain⟨n1,f1,rfl⟩:=s1;obtain⟨n2,f2,rfl⟩:=s2;have cs:=Lm x (show n<2^30 by omega);have cb:=Hx (r:=n) (c:=n) (d:=n) x (fun i j=>oO i j) (by omega) (by omega) (by omega);refine pw func22 ⟨[0,2,3,4,5,6,7,8,9,10,13,19,20,21,38,43,44,45,53],[]⟩ ?_;simp only[Tryz.f22,ntmps22,iz,seval];simp only[vx,T,seval,aq,ak];refine Cg cs ?_;simp only[vx,T,seval,aq,ak];refine⟨by omega,?_⟩;refine Lk (fun z:{k:Nat//k≤n}=>⟨[(0,.one (aq n (fun _=>n) x)),(2,.one .nil),(3,.one (.int .i64 0)),(4,.one (.int .i64 n)),(5,.one (.own 1 1 0 n)),(19,.one (.int .i64 n)),(20,.one (.int .i64 z.1))],
  [(1,⟨.rows 33 1 n (fun i _=>if i<z.1 then ak n (fun j=>oO i j)else .nil),true⟩)],2,66⟩) (fun z=>n-z.1) ⟨0,Nat.zero_le _⟩ ?_ (fun⟨k,hk⟩=>?_)
 ·refine Sa ?_;simp only[ry,seval,rz,aq,ak,Nat.not_lt_zero];intro i j hi hj;obtain rfl:j=0:=by omega
  rfl
 simp only;have wi:IntKind.i64.wrap ((k:Int)+1)=((k+1:Nat):Int):=by rw[IntWalk.i64_in _ (by omega)];omega
 simp only[vx,T,seval,aq,ak];refine⟨fun g=>Lg ?_,fun g=>Lg ?_⟩
 ·have hkn:k<n:=by omega
  have cu:=L9 n k (by omega) hkn;simp only[vx,T,seval,aq,ak];refine cF.fresh cu ?_;simp only[vx,T,seval,aq,ak,wi,uN,dB,dY,List.contains,List.elem];refine⟨by omega,Lq ⟨k+1,by omega⟩ ?_ (by show n-(k+1)<n-k;omega)⟩;refine Sa ?_;simp only[ry,seval,rz,aq,ak];intro i j hi hj;obtain rfl:j=0:=by omega
  by_cases e:i=k
  ·subst e;rw[if_pos (Nat.lt_succ_self i)]
   simp[bt]
  by_cases h:i<k
  ·rw[if_pos (show i<k+1 by omega)]
   simp[bt,e,h]
  rw[if_neg (show¬i<k+1 by omega)]
  simp[bt,e,h]
 obtain rfl:k=n:=by omega
 have cb':=cb.rO (.refl _) (x':=.rows 1 k fun i _=>if i<k then ak k (fun j=>oO i j)else .nil) (dr.rows rfl fun i j hi hj=>.of_eq (by rw[if_pos hi]));simp only[vx,T,seval,aq,ak];refine Cg cb' ?_;simp only[vx,T,seval,aq,ak];refine Cg hE ?_;simp only[vx,T,seval,aq,ak];refine⟨by omega,?_⟩;refine Lk (fun z:{i:Nat//i≤k}=>⟨[(2,.one .nil),(3,.one (.int .i64 0)),(4,.one (.int .i64 k)),(7,.one (.ptr 1 0)),(9,.one (.own 2 1 0 k)),(43,.one (.int .i64 k)),(44,.one (.int .i64 z.1))],
  [(1,⟨.var [aq k (fun _=>k+k) N,.ints .i64 (jJ p),.rows 1 n1 f1,.rows 4 n2 f2],true⟩),(2,⟨.rows 33 1 k (fun i _=>if i<z.1 then ak k (fun j=>N i (k+j))else .nil),true⟩)],3,66⟩) (fun z=>k-z.1) ⟨0,Nat.zero_le _⟩ ?_ (fun⟨i,hi⟩=>?_)
 ·refine Sa ?_;simp only[ry,seval,rz,aq,ak,Nat.not_lt_zero];intro i j hi hj;obtain rfl:j=0:=by omega
  rfl
 simp only;have wj:IntKind.i64.wrap ((i:Int)+1)=((i+1:Nat):Int):=by rw[IntWalk.i64_in _ (by omega)];omega
 simp only[vx,T,seval,aq,ak];refine⟨fun g1=>Lg ?_,fun g1=>Lg ?_⟩
 ·obtain⟨h1,h2⟩:=hp i (by omega);simp only[vx,T,seval,aq,ak,ph,dq,h2,wj];have e0:((k+k:Nat):Int)-(k:Int)=(k:Int):=by omega
  refine⟨by omega,by omega,by omega,by omega,Lq ⟨i+1,by omega⟩ ?_ (by show k-(i+1)<k-i;omega)⟩;refine Sa ?_;simp only[ry,seval,rz,aq,ak];intro i' j hi' hj;obtain rfl:j=0:=by omega
  by_cases e:i'=i
  ·subst e;rw[if_pos (Nat.lt_succ_self i')]
   simp[bt]
   try omega
  by_cases h:i'<i
  ·rw[if_pos (show i'<i+1 by omega)]
   simp[bt,e,h]
  rw[if_neg (show¬i'<i+1 by omega)]
  simp[bt,e,h]
 obtain rfl:k=i:=by omega
 simp only[vx,T,seval,aq,ak];exact fP.aA ⟨.cell (dr.rows rfl fun i j hi hj=>.of_eq (by rw[if_pos hi])),.refl _,trivial⟩
open Go Go.Eng
open Go.Tw (El)
open Go.Mx (mU iX red free)
section
variable {A:List R}
def DR (A:List R)(k j:Nat):Nu A:=if j=k then Nu.int A 1 else Nu.int A 0
theorem IJ (k j:Nat):(DR A k j).x=oO k j:=by
 unfold DR oO
 by_cases h:j=k
 ·rw[if_pos h,if_pos (by omega)];rfl
 rw[if_neg h,if_neg (by omega)];rfl
theorem Pf (k j:Nat):(DR A k j).v=if j=k then R.q 1 else R.q 0:=by
 unfold DR
 split<;>rfl
def Mb (p:List Nat)(G:Nat→Nat→Nu A)(k:Nat):Nat→Nu A:=mU p (fun i=>G i k) (DR A k) p.length
theorem Pn (p:List Nat)(G:Nat→Nat→Nu A)(k j:Nat):(Mb p G k j).x=LW p (fun i k=>(G i k).x) (fun k=>oO k) p.length k j:=by
 unfold Mb LW;rw[Go.Mx.pC Nu.x]
 congr 1
 funext j
 exact IJ k j
theorem O7 (p:List Nat)(G:Nat→Nat→Nu A)(k j:Nat):(Mb p G k j).v=mU p (fun i=>(G i k).v) (fun j=>if j=k then R.q 1 else R.q 0) p.length j:=by
 unfold Mb;rw[Go.Mx.pC Nu.v]
 congr 1
 funext j
 exact Pf k j
theorem xb {α:Type}{P:α→Prop}{p:List Nat}{f b:Nat→α}(hf:∀i,i<p.length→P (f i))(hb:∀j,P (b j)):∀{n:Nat} (_:n≤p.length) (j:Nat),P (mU p f b n j)
 |0,_,j=>hb j
 |n+1,h,j=>by
  rw[sG]
  split
  ·exact hf n (by omega)
  exact xb hf hb (by omega) j
theorem uw {α:Type}{p:List Nat}{f g b:Nat→α}(h:∀i,i<p.length→f i=g i):∀{n:Nat} (_:n≤p.length) (j:Nat),mU p f b n j=mU p g b n j
 |0,_,j=>rfl
 |n+1,hn,j=>by
  rw[sG,sG,h n (by omega),uw h (by omega) j]
theorem Bn (p:List Nat):∀(c i:Nat),i<(fl p c).length→(fl p c).getD i 0<c∧(fl p c).getD i 0∉p
 |0,i,h=>absurd h (Nat.not_lt_zero _)
 |c+1,i,h=>by
  by_cases hc:c∈p
  ·rw[show fl p (c+1)=fl p c from if_pos hc]at h⊢;obtain⟨h1,h2⟩:=Bn p c i h;exact⟨by omega,h2⟩
  have e:fl p (c+1)=fl p c++[c]:=if_neg hc;rw[e]at h⊢
  by_cases h1:i<(fl p c).length
  ·obtain⟨h2,h3⟩:=Bn p c i h1;rw[X7,List.getElem?_append_left h1,←X7];exact⟨by omega,h3⟩
  rw[X6,List.length_singleton]at h;obtain rfl:i=(fl p c).length:=by omega
  rw[X7,List.getElem?_append_right (Nat.le_refl _),Nat.sub_self];exact⟨by show c<c+1;omega,hc⟩
noncomputable def Pq (M:Nat→Nat→R)(r c i j:Nat):R:=mU (red r M c).2 (fun i'=> -(red r M c).1 i' ((fl (red r M c).2 c).getD i 0)) (fun j=>if j=(fl (red r M c).2 c).getD i 0 then R.q 1 else R.q 0) (red r M c).2.length j
theorem JF {r c:Nat}(M X G:Nat→Nat→Nu A)(h1:iX r c (vM X) (red r (vM M) c).1)(h2:∀i j,i<r→j<c→(X i j).w≤4^(red r (vM M) c).2.length)
  (hG:∀i k,i<r→k<c→(G i k).v= -(X i k).v∧(G i k).w=(X i k).w) {i j:Nat} (hi:i<(fl (red r (vM M) c).2 c).length):
  (Mb (red r (vM M) c).2 G ((fl (red r (vM M) c).2 c).getD i 0) j).v=Pq (vM M) r c i j∧(Mb (red r (vM M) c).2 G ((fl (red r (vM M) c).2 c).getD i 0) j).w≤4^(red r (vM M) c).2.length:=by
 have hk:=(Bn _ c i hi).1;have hl:=(Go.Mx.fH r (vM M) c).len;unfold Pq
 generalize(fl (red r (vM M) c).2 c).getD i 0=k at hk
 refine⟨?_,?_⟩
 ·rw[O7];exact uw (fun i' hi'=>by rw[(hG i' k (by omega) hk).1];exact congrArg _ (h1 i' k (by omega) hk)) (Nat.le_refl _) j
 refine xb (P:=fun a:Nu A=>a.w≤4^(red r (vM M) c).2.length) (fun i' hi'=>?_) (fun j'=>?_) (Nat.le_refl _) j
 ·show(G i' k).w≤_
  rw[(hG i' k (by omega) hk).2];exact h2 i' k (by omega) hk
 show(DR A k j').w≤_
 have:1≤4^(red r (vM M) c).2.length:=Nat.one_le_pow _ _ (by decide)
 unfold DR
 split<;>exact this
theorem GS {f:FuncId}(hf:∀a:Nu A,a.w≤wA→∃c:Nu A,c.v= -a.v∧c.w=a.w∧Pr prog f [nX a.x] (nX c.x)){r c W:Nat}(X:Nat→Nat→Nu A)(hw:∀i j,i<r→j<c→(X i j).w≤W)(hW:W≤wA):
  ∃G:Nat→Nat→Nu A,∀i k,i<r→k<c→((G i k).v= -(X i k).v∧(G i k).w=(X i k).w)∧Pr prog f [nX (X i k).x] (nX (G i k).x):=by
 refine Px (p:=fun i k c=>(c.v= -(X i k).v∧c.w=(X i k).w)∧Pr prog f [nX (X i k).x] (nX c.x)) (X 0 0) fun i j hi hj=>?_;obtain⟨c,c1,c2,c3⟩:=hf (X i j) (Nat.le_trans (hw i j hi hj) hW);exact⟨c,⟨c1,c2⟩,c3⟩
variable (S:Go.Tw.Src 64 A)(hA:A.length≤3)
include S hA
omit S hA in
theorem p4 {q:Nat}(h:q≤5):4^q≤wA:=Nat.le_trans (Nat.pow_le_pow_right (by decide) h) (by decide)
omit S hA in
theorem Jg {r c:Nat}(M:Nat→Nat→R)(h5:r≤4∨c≤5):(red r M c).2.length≤5:=by
 have:=GF r M c
 have:=(Go.Mx.fH r M c).len
 omega
omit S hA in
theorem I9 {r c:Nat}(M:Nat→Nat→Nu A)(G:Nat→Nat→Nu A):aq (fl (red r (vM M) c).2 c).length (fun _=>c) (fun i=>LW (red r (vM M) c).2 (fun i k=>(G i k).x) (fun k=>oO k) (red r (vM M) c).2.length ((fl (red r (vM M) c).2 c).getD i 0))=bm (fl (red r (vM M) c).2 c).length (fun _=>c) (fun i j=>Mb (red r (vM M) c).2 G ((fl (red r (vM M) c).2 c).getD i 0) j):=by
 unfold bm
 congr 1
 funext i j
 exact(Pn _ _ _ _).symm
theorem y9 {r c:Nat}(M:Nat→Nat→Nu A)(hr:r<2^30)(hc:c<2^30)(hrc:r*c<2^30)(h0:r=0→c=0)(hw:∀i j,i<r→j<c→(M i j).w≤1)(h5:r≤4∨c≤5):
  ∃K:Nat→Nat→Nu A,(∀i j,i<(fl (red r (vM M) c).2 c).length→(K i j).v=Pq (vM M) r c i j∧(K i j).w≤4^(red r (vM M) c).2.length)∧
   Pr prog 12 [.one (bm r (fun _=>c) M)] (.aA [.one (bm (fl (red r (vM M) c).2 c).length (fun _=>c) K),.one (.int .i64 0)]):=by
 obtain⟨X,d,x1,x2,x3⟩:=oK S hA M hr hc hrc h0 hw h5;obtain⟨G,hG⟩:=GS (f:=38) (fun a ha=>Dm S hA ha) X x2 (p4 (Jg (vM M) h5));have E:=Go.Mx.fH r (vM M) c;refine⟨fun i j=>Mb (red r (vM M) c).2 G ((fl (red r (vM M) c).2 c).getD i 0) j,fun i j hi=>JF M X G x1 x2 (fun i k hi hk=>(hG i k hi hk).1) hi,?_⟩;rw[←I9];exact KW (fun i j=>(M i j).x) (fun i j=>(X i j).x) (fun i k=>(G i k).x) (red r (vM M) c).2 _ _ hr hc h0 E.len E.lt x3 (fun k i hk hi=>(hG i k (Nat.lt_of_lt_of_le hi E.len) hk).2) ⟨_,_,rfl⟩ ⟨_,_,rfl⟩
end
open Go Go.Eng
open Go.Tw (El)
open Go.Mx (mU iX red free)
section
variable {A:List R}
def kO (c:Nat)(M:Nat→Nat→Nu A)(b:Nat→Nu A)(i j:Nat):Nu A:=if j<c then M i j else b i
theorem Nc (c:Nat)(M:Nat→Nat→Nu A)(b:Nat→Nu A)(i j:Nat):(kO c M b i j).x=Eg c (fun i j=>(M i j).x) (fun i=>(b i).x) i j:=by
 unfold kO Eg
 split<;>rfl
def dR (r:Nat):Nat:=if r=0 then 0 else 1
noncomputable def PA (r c:Nat)(M:Nat→Nat→R)(j:Nat):R:=mU (red r M (c+dR r)).2 (fun i=>(red r M (c+dR r)).1 i c) (fun _=>R.q 0) (red r M (c+dR r)).2.length j
def Oi (c:Nat)(p:List Nat)(X:Nat→Nat→Nu A):Nat→Nu A:=mU p (fun i=>X i c) (fun _=>Nu.int A 0) p.length
theorem OE (c:Nat)(p:List Nat)(X:Nat→Nat→Nu A):(fun j=>(Oi c p X j).x)=mU p (fun i=>(X i c).x) (fun _=>rV 0) p.length:=by
 funext j
 unfold Oi;rw[Go.Mx.pC Nu.x];rfl
theorem KC {r c:Nat}(M X:Nat→Nat→Nu A)(h1:iX r (c+dR r) (vM X) (red r (vM M) (c+dR r)).1)(h2:∀i j,i<r→j<c+dR r→(X i j).w≤4^(red r (vM M) (c+dR r)).2.length)(j:Nat):
  (Oi c (red r (vM M) (c+dR r)).2 X j).v=PA r c (vM M) j∧(Oi c (red r (vM M) (c+dR r)).2 X j).w≤4^(red r (vM M) (c+dR r)).2.length:=by
 have hl:=(Go.Mx.fH r (vM M) (c+dR r)).len;have hd:∀i,i<(red r (vM M) (c+dR r)).2.length→i<r∧c<c+dR r:=fun i hi=>⟨by omega,by unfold dR;rw[if_neg (by omega)];omega⟩;unfold Oi PA;refine⟨?_,?_⟩
 ·rw[Go.Mx.pC Nu.v];exact uw (fun i hi=>h1 i c (hd i hi).1 (hd i hi).2) (Nat.le_refl _) j
 refine xb (P:=fun a:Nu A=>a.w≤4^(red r (vM M) (c+dR r)).2.length) (fun i hi=>h2 i c (hd i hi).1 (hd i hi).2) (fun _=>?_) (Nat.le_refl _) j;exact Nat.one_le_pow _ _ (by decide)
variable (S:Go.Tw.Src 64 A)(hA:A.length≤3)
include S hA
omit S hA in
theorem JN {r c d:Nat}(M:Nat→Nat→Nu A)(b:Nat→Nu A):bm r (fun _=>c+d) (kO c M b)=aq r (fun _=>c+d) (Eg c (fun i j=>(M i j).x) (fun i=>(b i).x)):=by
 unfold bm
 congr 1
 funext i j
 exact Nc c M b i j
theorem CA {r c:Nat}(M:Nat→Nat→Nu A)(b:Nat→Nu A)(hr:r<2^30)(hc:c<2^29)(hrc:r*(c+dR r)<2^30)(h0:r=0→c=0)(hw:∀i j,i<r→j<c+dR r→(kO c M b i j).w≤1)(h5:r≤4∨c≤4):
  ∃X:Nat→Nu A,(∀j,(X j).v=PA r c (vM (kO c M b)) j∧(X j).w≤4^(red r (vM (kO c M b)) (c+dR r)).2.length)∧
   (c∈(red r (vM (kO c M b)) (c+dR r)).2→Pr prog 11 [.one (bm r (fun _=>c) M),.one (fV r b)] (.aA [.one .nil,.one (.int .i64 13)]))∧
   (c∉(red r (vM (kO c M b)) (c+dR r)).2→Pr prog 11 [.one (bm r (fun _=>c) M),.one (fV r b)] (.aA [.one (fV c X),.one (.int .i64 0)])):=by
 have hd:dR r≤1:=by unfold dR;split<;>omega
 obtain⟨X,d,x1,x2,x3⟩:=oK S hA (kO c M b) hr (show c+dR r<2^30 by omega) hrc (fun h=>by unfold dR;rw[if_pos h];exact h0 h) hw (by omega);have E:=Go.Mx.fH r (vM (kO c M b)) (c+dR r);rw[JN]at x3;refine⟨Oi c (red r (vM (kO c M b)) (c+dR r)).2 X,fun j=>KC (kO c M b) X x1 x2 j,fun h=>?_,fun h=>?_⟩
 ·exact Fq (fun i j=>(M i j).x) (fun i j=>(X i j).x) (fun i=>(b i).x) _ _ _ hr (by omega) h0 rfl E.len E.lt x3 ⟨_,_,rfl⟩ ⟨_,_,rfl⟩ _ (fun _=>rfl) (fun h'=>absurd h h')
 refine Fq (fun i j=>(M i j).x) (fun i j=>(X i j).x) (fun i=>(b i).x) _ _ _ hr (by omega) h0 rfl E.len E.lt x3 ⟨_,_,rfl⟩ ⟨_,_,rfl⟩ _ (fun h'=>absurd h' h) (fun _=>?_);unfold fV;rw[OE]
end
open Go Go.Eng
open Go.Tw (El)
def oT (l:List Int)(i:Nat):Nb:=rV (l.getD i 0)
theorem iH (l:List Int)(hl:l.length<2^30)(hb:∀i,i<l.length→(l.getD i 0).natAbs<2^60):Pr prog 8 [.one (.ints .i64 l)] (.one (ak l.length (oT l))):=by
 refine pw func8 ⟨[0,2,3,5,6,7,8,9],[]⟩ ?_;simp only[Tryz.f8,ntmps8,iz,seval];simp only[vx,T,seval];refine Lk (fun y:{i:Nat//i≤l.length}=>⟨[(2,.one .nil),(3,.one (.own 1 2 0 y.1)),(6,.one (.ints .i64 l)),(7,.one (.int .i64 l.length)),(8,.one (.int .i64 y.1))],[(1,⟨.rows 52 2 y.1 (fun i=>bu (oT l i)),true⟩)],2,19⟩) (fun y=>l.length-y.1) ⟨0,Nat.zero_le _⟩ ?_ (fun⟨i,hi⟩=>?_)
 ·refine Sa ?_;simp only[ry,seval,rz]
 simp only;have wi:IntKind.i64.wrap ((i:Int)+1)=((i+1:Nat):Int):=by rw[IntWalk.i64_in _ (by omega)];omega
 simp only[vx,T,seval];refine⟨fun g=>Lg ?_,fun g=>Lg ?_⟩
 ·have hil:i<l.length:=by omega
  have hz:=hb i hil;have c:=ja (l.getD i 0) (by omega) (by omega);simp only[vx,T,seval];refine⟨by omega,Cg c ?_⟩;simp only[vx,T,seval,nX,nV,tC,aa,wi];refine⟨⟨by omega,by omega⟩,Lq ⟨i+1,by omega⟩ ?_ (by show l.length-(i+1)<l.length-i;omega)⟩;refine Sa ?_;simp only[ry,seval,rz,tC,aa];exact vF (oT l) i
 obtain rfl:i=l.length:=by omega
 simp only[vx,T,seval,ak];exact Ve rfl
def NO (n:Nat)(a:Nat→Nb)(i:Nat):Nb:=if n=0 then rV 0 else a (i%n)
theorem PE {n:Nat}(a:Nat→Nb)(i:Nat)(hn:n<2^30)(hi:i<2^30):Pr prog 28 [.one (ak n a),.one (.int .i64 i)] (nX (NO n a i)):=by
 have c0:=ja 0 (by decide) (by decide);refine pw func28 ⟨[0,1,4,11],[]⟩ ?_;simp only[Tryz.f28,ntmps28,iz,seval];simp only[vx,T,seval,ak];refine⟨fun h=>Lg ?_,fun h=>Lg ?_⟩
 ·have e:NO n a i=rV 0:=if_pos (by omega);simp only[vx,T,seval];refine Cg c0 ?_;simp only[vx,T,seval,nX,nV,tC,aa];rw[e];exact Ve rfl
 have e:NO n a i=a (i%n):=if_neg (by omega);simp only[vx,T,seval,ak];refine⟨fun h=>absurd h (by omega),fun _=>Lg ?_⟩;have hm:=Nat.mod_lt i (show 0<n by omega);have et:(i:Int).tmod (n:Int)=((i%n:Nat):Int):=rfl;simp only[vx,T,seval,ak,bu,tC,aa,et];refine⟨by omega,by omega,?_⟩;rw[e];exact Ve rfl
def Ep (a:Nat→Nb):Nat→Nat
 |0=>0
 |n+1=>if Ep a n<(a n).1.length then(a n).1.length else Ep a n
theorem Gf {n:Nat}(a:Nat→Nb)(hn:n<2^30):Pr prog 29 [.one (ak n a)] (.one (.int .i64 (Ep a n))):=by
 refine pw func29 ⟨[0,2,3,4,8,18],[]⟩ ?_;simp only[Tryz.f29,ntmps29,iz,seval];simp only[vx,T,seval,ak];refine Lk (fun y:{i:Nat//i≤n}=>⟨[(0,.one (ak n a)),(2,.one (.int .i64 0)),(3,.one (.int .i64 (Ep a y.1))),(4,.one (.int .i64 y.1))],[],1,26⟩) (fun y=>n-y.1) ⟨0,Nat.zero_le _⟩ ?_ (fun⟨i,hi⟩=>?_)
 ·refine Sa ?_;simp only[ry,seval,rz,ak,Ep]
 simp only;have wi:IntKind.i64.wrap ((i:Int)+1)=((i+1:Nat):Int):=by rw[IntWalk.i64_in _ (by omega)];omega
 simp only[vx,T,seval,ak];refine⟨fun g=>Lg ?_,fun g=>Lg ?_⟩
 ·have hin:i<n:=by omega
  simp only[vx,T,seval,ak,bu,tC,aa];refine⟨by omega,?_⟩;refine⟨fun g2=>Lg ?_,fun g2=>Lg ?_⟩
  ·have e:Ep a (i+1)=(a i).1.length:=if_pos (by omega);simp only[vx,T,seval,ak,bu,tC,aa,wi];refine⟨by omega,Lq ⟨i+1,by omega⟩ ?_ (by show n-(i+1)<n-i;omega)⟩;refine Sa ?_;simp only[ry,seval,rz,ak,e]
  have e:Ep a (i+1)=Ep a i:=if_neg (by omega);simp only[vx,T,seval,ak,wi];refine Lq ⟨i+1,by omega⟩ ?_ (by show n-(i+1)<n-i;omega);refine Sa ?_;simp only[ry,seval,rz,ak,e]
 obtain rfl:i=n:=by omega
 simp only[vx,T,seval,ak];exact Ve rfl
open Go Go.Eng
open Go.Tw (El)
def gB (s:Nat):Nat:=1+s%12
def A9 (r w:Nat):Nat:=if r=0 then 0 else w
def xd (n:Nat)(a:Nat→Nb)(cs:List Int)(w i j:Nat):Nb:=NO n a (cs.getD (i*w+j) 0).toNat
theorem Fe {n:Nat}(a:Nat→Nb)(oc:C)(cs:List Int)(s most:Nat)(hn:n<2^30)(hs:s<256)(hcs:∀i,i<cs.length→0≤cs.getD i 0∧cs.getD i 0<256)(hl:cs.length<2^63)(hm:most≤100)
  (cb:Pr prog 26 [.one oc] (.one (ak n a))) (ca:Pr prog 27 [.one (ak n a)] (.one (.bool true))) (ho:∃n f,oc= .rows 5 n f) {R:V} (h1:most<cs.length→R= .aA [.one .nil,.one (.bool false)])
  (h2:cs.length≤most→R= .aA [.one (aq (cs.length/gB s) (fun _=>A9 (cs.length/gB s) (gB s)) (xd n a cs (gB s))),.one (.bool (decide ((Ep a n:Int)≤2)))]):
  Pr prog 5 [.agg [oc,.ints .u8 cs,.int .u8 s],.one (.int .i64 most)] R:=by
 obtain⟨no,fo,rfl⟩:=ho;have cg:=Gf a hn;refine pw func5 ⟨[0,1,2,4,5,6,7,8,9,10,11,29,36,42],[]⟩ ?_;simp only[Tryz.f5,ntmps5,iz,seval];simp only[vx,T,seval,ak];refine Cg cb ?_;have ew:IntKind.i64.wrap (1+(IntKind.i64.wrap (s:Int)).tmod 12)=((gB s:Nat):Int):=by
  rw[IntWalk.i64_in (s:Int) (by omega),show (s:Int).tmod 12=((s%12:Nat):Int)from rfl]
  have:=Nat.mod_lt s (show 0<12 by decide)
  rw[IntWalk.i64_in _ (by omega)];unfold gB;omega
 have w1:1≤gB s∧gB s≤12:=by
  have:=Nat.mod_lt s (show 0<12 by decide)
  unfold gB;omega
 generalize gB s=w at ew w1 h2
 simp only[vx,T,seval,ak,ew];refine Cg ca ?_;simp only[vx,T,seval,ak,ew];refine⟨fun g=>Lg ?_,fun g=>Lg ?_⟩
 ·have e:=h1 (by omega);simp only[vx,T,seval];exact Ve e.symm
 have e:=h2 (by omega);simp only[vx,T,seval];have hdv:=Nat.div_mul_le_self cs.length w;refine Lk (fun y:{q:Nat//q≤cs.length/w}=>⟨[(2,.one (.ptr 1 0)),(4,.one .nil),(5,.one (.bool false)),(6,.one (ak n a)),(7,.one (.int .i64 w)),(8,.one (.own 2 1 0 y.1)),(9,.one (.int .i64 (y.1*w:Nat)))],
  [(1,⟨.var [.rows 5 no fo,.ints .u8 cs,.int .u8 s],true⟩),(2,⟨.rows 33 1 y.1 (fun i _=>ak w (xd n a cs w i)),true⟩)],3,66⟩) (fun y=>cs.length/w-y.1) ⟨0,Nat.zero_le _⟩ ?_ (fun⟨q,hq⟩=>?_)
 ·refine Sa ?_;simp only[ry,seval,rz,ak,Nat.zero_mul]
 simp only;have wa:IntKind.i64.wrap (((q*w:Nat):Int)+(w:Int))=(((q+1)*w:Nat):Int):=by
  have:q*w≤cs.length:=Nat.le_trans (Nat.mul_le_mul_right _ hq) hdv
  rw[Nat.add_mul,Nat.one_mul,IntWalk.i64_in _ (by omega)];omega
 simp only[vx,T,seval,ak,wa];refine⟨fun g1=>Lg ?_,fun g1=>Lg ?_⟩
 ·have hql:q<cs.length/w:=by
   have:(q+1)*w≤cs.length:=by omega
   exact(Nat.le_div_iff_mul_le (by omega)).2 this
  have hqw:q*w+w≤cs.length:=by
   have:(q+1)*w≤cs.length:=by omega
   rw[Nat.add_mul,Nat.one_mul]at this;exact this
  simp only[vx,T,seval,ak];refine Lk (fun y:{j:Nat//j≤w}=>⟨[(2,.one (.ptr 1 0)),(4,.one .nil),(5,.one (.bool false)),(6,.one (ak n a)),(7,.one (.int .i64 w)),(8,.one (.own 2 1 0 q)),(9,.one (.int .i64 (q*w:Nat))),(10,.one (.own 3 2 0 y.1)),(11,.one (.int .i64 y.1))],
   [(1,⟨.var [.rows 5 no fo,.ints .u8 cs,.int .u8 s],true⟩),(2,⟨.rows 33 1 q (fun i _=>ak w (xd n a cs w i)),true⟩),(3,⟨.rows 52 2 y.1 (fun j=>bu (xd n a cs w q j)),true⟩)],4,66⟩) (fun y=>w-y.1) ⟨0,Nat.zero_le _⟩ ?_ (fun⟨j,hj⟩=>?_)
  ·refine Sa ?_;simp only[ry,seval,rz,ak]
  simp only;have wj:IntKind.i64.wrap ((j:Int)+1)=((j+1:Nat):Int):=by rw[IntWalk.i64_in _ (by omega)];omega
  simp only[vx,T,seval,ak];refine⟨fun g2=>Lg ?_,fun g2=>Lg ?_⟩
  ·have hjw:j<w:=by omega
   have wq:IntKind.i64.wrap (((q*w:Nat):Int)+(j:Int))=((q*w+j:Nat):Int):=by rw[IntWalk.i64_in _ (by omega)];omega
   obtain⟨b1,b2⟩:=hcs (q*w+j) (by omega);obtain⟨v,hv⟩:∃v:Nat,cs.getD (q*w+j) 0=v:=⟨(cs.getD (q*w+j) 0).toNat,by omega⟩;have wv:IntKind.i64.wrap (v:Int)=(v:Int):=IntWalk.i64_in _ (by omega);have hc:=PE a v hn (by omega);have ev:xd n a cs w q j=NO n a v:=by unfold xd;rw[hv];rfl
   simp only[vx,T,seval,ak,wq,hv,wv];refine⟨by omega,Cg hc ?_⟩;simp only[vx,T,seval,nX,nV,tC,aa,wj];refine⟨⟨by omega,by omega⟩,Lq ⟨j+1,by omega⟩ ?_ (by show w-(j+1)<w-j;omega)⟩;refine Sa ?_;simp only[ry,seval,rz,ak,tC,aa];have s:=vF (xd n a cs w q) j;rw[ev]at s;exact s
  obtain rfl:w=j:=by omega
  have hq1:q<2^40:=by
   have:=Nat.le_mul_of_pos_right q (show 0<w by omega)
   omega
  simp only[vx,T,seval,ak,wa];refine⟨⟨by omega,by omega⟩,Lq ⟨q+1,by omega⟩ ?_ (by show cs.length/w-(q+1)<cs.length/w-q;omega)⟩;refine Sa ?_;simp only[ry,seval,rz,ak];exact Am (fun i=>ak w (xd n a cs w i)) q
 obtain rfl:cs.length/w=q:=by
  refine Nat.le_antisymm (Nat.le_of_lt_succ ((Nat.div_lt_iff_lt_mul (by omega)).2 (show cs.length<(q+1)*w by omega))) hq
 simp only[vx,T,seval,ak];refine Cg cg ?_;simp only[vx,T,seval,ak];rw[e];exact fP.aA ⟨.cell (dr.rows rfl fun i j hi hj=>.of_eq (by unfold A9 ak;rw[if_neg (by omega)])),.refl _,trivial⟩
open Go Go.Eng
open Go.Tw (El ax TG b9 iC)
open Go.Mx (sm iv iX red mU free)
theorem C7 {A:List R}{x:List El×El}{v:R}(h:b9 A 64 x.1 x.2 v)(h2:x.1.length≤2):ax A x.1 x.2 v (300*1-1) (3*1):=by
 obtain⟨T,ha,hv,hb,_⟩:=h;refine⟨T,ha,hv,fun c=>?_⟩;rw[←hv]
 refine(Go.Tw.Sz.expr (c:=c) ha hb (fun j hj=>.gen ⟨⟨_,T.mem j hj,rfl⟩,(Go.Tw.In.root (h:=j) (t:=x.1)).le (by omega),rfl⟩)).mono ?_
 have e:=Go.Tw.xL (B:=64) (c:=c) x.1.length
 rcases(by omega:x.1.length=0∨x.1.length=1∨x.1.length=2)with h|h|h<;>rw [h]at e⊢<;>omega
theorem FJ (a:Nat→Nb):∀{n i:Nat},i<n→(a i).1.length≤Ep a n
 |n+1,i,h=>by
  unfold Ep
  by_cases e:i=n
  ·subst e
   split<;>omega
  have:=FJ a (show i<n by omega)
  split<;>omega
def F1 (r:List A0):C:=.rows 5 r.length (fun i=>oC (r.getD i default))
theorem NB (l:List (List El×El))(hl:l.length<2^38)(h:∀i,i<l.length→Pr prog 58 [nX (l.getD i default)] (.one (.bool true))):Pr prog 27 [.one (bR l)] (.one (.bool true)):=by
 refine pw func27 ⟨[0,2,3,7,15],[]⟩ ?_;simp only[Tryz.f27,ntmps27,iz,seval];simp only[vx,T,seval,bR];refine Lk (fun y:{i:Nat//i≤l.length}=>⟨[(0,.one (bR l)),(2,.one (.bool false)),(3,.one (.int .i64 y.1))],[],1,16⟩) (fun y=>l.length-y.1) ⟨0,Nat.zero_le _⟩ ?_ (fun⟨i,hi⟩=>?_)
 ·refine Sa ?_;simp only[ry,seval,rz,bR]
 simp only;have wi:IntKind.i64.wrap ((i:Int)+1)=((i+1:Nat):Int):=by rw[IntWalk.i64_in _ (by omega)];omega
 simp only[vx,T,seval,bR];refine⟨fun g=>Lg ?_,fun g=>Lg ?_⟩
 ·have c:=h i (by omega);obtain⟨x,hx⟩:∃x,x=l.getD i default:=⟨_,rfl⟩;rw[←hx]at c;simp only[vx,T,seval,bR,fg,←hx,bu];refine⟨by omega,Cg c ?_⟩;simp only[vx,T,seval,bR,wi];refine Lq ⟨i+1,by omega⟩ ?_ (by show l.length-(i+1)<l.length-i;omega);refine Sa ?_;simp only[ry,seval,rz,bR]
 simp only[vx,T,seval,bR];exact Ve rfl
theorem xp {A:List R}(S:Go.Tw.Src 64 A)(hA:A.length≤3){x:List El×El}{v:R}(h:b9 A 64 x.1 x.2 v):Pr prog 58 [nX x] (.one (.bool true)):=by
 have h3:=h.tg.j6 S hA;have key:∀{a:El},Go.Tw.iC 64 a→∀i,i<a.length→¬ny 6 (a.getD i default):=fun{a} hb i hi hq=>by
  have hm:=hb (a.getD i default) (by rw[X7,X8 hi];exact List.getElem_mem _)
  have:=Go.Tw.pF hm.1 hm.2
  unfold ny at hq;unfold qm at this;omega
 refine Kq x (by rw[h.len];exact aN (by omega)) (by omega) (fun j hj=>by rw[(h.tg.rd.rl j hj).1];exact aN (by omega)) ⟨fun e=>(by cases e),fun hl=>?_⟩
 rcases hl with⟨i,h1,h2⟩|⟨j,h1,i,h2,h3⟩
 ·exact absurd h2 (key h.bits i h1)
 exact absurd h3 (key (h.tb j h1) i h2)
theorem OQ (r:List A0)(hr:∀o∈r,o.Ok)(hrl:r.length<2^63):∃(A:List R) (n:Nat) (a:Nat→Nb),Go.Tw.Src 64 A∧A.length≤3∧n≤24∧Pr prog 26 [.one (F1 r)] (.one (ak n a))∧
  Pr prog 27 [.one (ak n a)] (.one (.bool true))∧((Ep a n:Int)≤2→∃f:Nat→Nu A,∀v,(f v).x=NO n a v∧(f v).w=1):=by
 obtain⟨A,l,S,hA,hl,hs,cb⟩:=KI r hr hrl;have get:∀i,i<l.length→∃v,b9 A 64 (l.getD i default).1 (l.getD i default).2 v:=fun i hi=>hs _ (by rw[X7,X8 hi];exact List.getElem_mem _);refine⟨A,l.length,fun i=>l.getD i default,S,hA,hl,cb,NB l (by omega) fun i hi=>?_,fun h2=>?_⟩
 ·obtain⟨v,hv⟩:=get i hi;exact xp S hA hv
 have hx:∀v,∃y:Nu A,y.x=NO l.length (fun i=>l.getD i default) v∧y.w=1:=fun v=>by
  by_cases h0:l.length=0
  ·exact⟨Nu.int A 0,(if_pos h0).symm,rfl⟩
  have hm:=Nat.mod_lt v (show 0<l.length by omega);obtain⟨w,hw⟩:=get _ hm;have hq:=FJ (fun i=>l.getD i default) hm;exact⟨⟨_,w,1,Nat.le_refl _,C7 hw (by have hq:(l.getD (v%l.length) default).1.length≤_:=hq;omega)⟩,(if_neg h0).symm,rfl⟩
 exact Classical.skolem.1 hx
section
variable {A:List R}(S:Go.Tw.Src 64 A)(hA:A.length≤3)
include S hA
end
end Go.Proofs.YtgcmkdgpaibpeaaGreat
/-
  The elimination of matrices of rational numbers, reckoned.
-/
namespace Go.Mx
open Go Go.R
theorem PJ (x:Rat):iv (q x)=q x⁻¹:=by
 by_cases h:x=0
 ·subst h;unfold iv;rw[dif_neg (by simp)];exact congrArg q (by decide+kernel)
 have h0:q x≠q 0:=fun e=>h (ku e);refine jl (z:=q x) ?_ h0;rw[mul_comm,oS h0,←dT,Rat.inv_mul_cancel x h]
abbrev Mq:=Nat→Nat→Rat
def IH (M:Mq)(k:Nat):Nat→Nat→Nat
 |0,p=>p
 |n+1,p=>if M p k=0 then IH M k n (p+1)else p
def MQ (M:Mq)(a b:Nat):Mq:=fun i=>if i=a then M b else if i=b then M a else M i
def M6 (M:Mq)(t k:Nat):Mq:=fun i j=>if i=t then M t j*(M t k)⁻¹ else M i j-M t j*(M t k)⁻¹*M i k
def Lv (r k:Nat)(s:Mq×List Nat):Mq×List Nat:=
 if IH s.1 k (r-s.2.length) s.2.length<r then(M6 (MQ s.1 s.2.length (IH s.1 k (r-s.2.length) s.2.length)) s.2.length k,s.2++[k])else s
def Ab (r:Nat)(M:Mq):Nat→Mq×List Nat
 |0=>(M,[])
 |k+1=>Lv r k (Ab r M k)
def qM (M:Mq):Mt:=fun i j=>q (M i j)
theorem Ml (M:Mq)(k:Nat):∀n p,ni (qM M) k n p=IH M k n p
 |0,_=>rfl
 |n+1,p=>by
  unfold ni IH;rw[Ml M k n (p+1)]
  by_cases h:M p k=0
  ·rw[if_pos h,if_pos (show qM M p k=q 0 by unfold qM;rw[h])]
  rw[if_neg h,if_neg (show qM M p k≠q 0 from fun e=>h (ku e))]
theorem Pe (M:Mq)(a b:Nat):oa (qM M) a b=qM (MQ M a b):=by
 funext i j
 unfold oa MQ qM
 by_cases h1:i=a
 ·simp only[if_pos h1]
 by_cases h2:i=b
 ·simp only[if_neg h1,if_pos h2]
 simp only[if_neg h1,if_neg h2]
theorem O6 (M:Mq)(t k:Nat):iR (qM M) t k=qM (M6 M t k):=by
 funext i j
 unfold iR M6 qM;simp only[PJ]
 by_cases h:i=t
 ·simp only[if_pos h,dT]
 simp only[if_neg h,Rat.sub_eq_add_neg,vz,u7,dT];rfl
theorem Mj (r:Nat)(M:Mq):∀k,red r (qM M) k=(qM (Ab r M k).1,(Ab r M k).2)
 |0=>rfl
 |k+1=>by
  rw[red,Mj r M k];unfold mO;show _=(qM (Lv r k (Ab r M k)).1,(Lv r k (Ab r M k)).2);unfold Lv;simp only[Ml]
  split
  ·rw[Pe,O6]
  rfl
end Go.Mx
/-
  The elimination of one matrix with a root, reckoned: what its inverse is.
-/
namespace Go.Mx
open Go Go.R
theorem G0 (M:Mt)(a:Nat):oa M a a=M:=by
 funext i
 unfold oa
 by_cases h:i=a
 ·rw[if_pos h,h]
 rw[if_neg h,if_neg h]
theorem HD {r k:Nat}{s:Mt×List Nat}(h:s.2.length<r)(h0:s.1 s.2.length k≠q 0):mO r k s=(iR s.1 s.2.length k,s.2++[k]):=by
 have e:ni s.1 k (r-s.2.length) s.2.length=s.2.length:=by
  obtain⟨n,hn⟩:∃n,r-s.2.length=n+1:=⟨r-s.2.length-1,by omega⟩;rw[hn];unfold ni;rw[if_neg h0]
 unfold mO;rw[e,if_pos h,G0]
theorem zg {r k:Nat}{s:Mt×List Nat}(h:s.2.length=r):mO r k s=s:=by
 unfold mO;rw[h,Nat.sub_self];unfold ni;rw[if_neg (Nat.lt_irrefl r)]
theorem M3:iv (q 1)=q 1:=by
 refine jl (z:=q 1) ?_ gk;rw[mul_comm,oS gk,mul_one]
theorem GX {s:R}(hs:s≠q 0){M:Mt}(h00:M 0 0=s)(h01:M 0 1=q 0)(h02:M 0 2=q 1)(h03:M 0 3=q 0)(h10:M 1 0=q 0)(h11:M 1 1=q 1)(h12:M 1 2=q 0)(h13:M 1 3=q 1):
  (red 2 M 4).2=[0,1]∧(red 2 M 4).1 0 2=iv s∧(red 2 M 4).1 0 3=q 0∧(red 2 M 4).1 1 2=q 0∧(red 2 M 4).1 1 3=q 1:=by
 have e1:red 2 M 1=(iR M 0 0,[0]):=HD (s:=(M,[])) (by show 0<2;decide) (by show M 0 0≠q 0;rw[h00];exact hs);have n0:∀j,iR M 0 0 0 j=M 0 j*iv s:=fun j=>by unfold iR;rw[if_pos rfl,h00]
 have n1:∀j,iR M 0 0 1 j=M 1 j:=fun j=>by unfold iR;rw[if_neg (by decide),h10,mul_zero,sub_zero]
 have e2:red 2 M 2=(iR (iR M 0 0) 1 1,[0,1]):=by
  show mO 2 1 (red 2 M 1)=_;rw[e1];exact HD (s:=(iR M 0 0,[0])) (by show 1<2;decide) (by show iR M 0 0 1 1≠q 0;rw[n1,h11];exact gk)
 have e4:red 2 M 4=(iR (iR M 0 0) 1 1,[0,1]):=by
  show mO 2 3 (mO 2 2 (red 2 M 2))=_;rw[e2,zg (r:=2) (s:=(iR (iR M 0 0) 1 1,[0,1])) rfl,zg (r:=2) (s:=(iR (iR M 0 0) 1 1,[0,1])) rfl]
 have m0:∀j,iR (iR M 0 0) 1 1 0 j=M 0 j*iv s:=fun j=>by
  have:iR (iR M 0 0) 1 1 0 j=iR M 0 0 0 j-iR M 0 0 1 j*iv (iR M 0 0 1 1)*iR M 0 0 0 1:=if_neg (by decide)
  rw[this,n0,n0 1,h01,zero_mul,mul_zero,sub_zero]
 have m1:∀j,iR (iR M 0 0) 1 1 1 j=M 1 j:=fun j=>by
  have:iR (iR M 0 0) 1 1 1 j=iR M 0 0 1 j*iv (iR M 0 0 1 1):=if_pos rfl
  rw[this,n1,n1,h11,M3,mul_one]
 rw[e4];exact⟨rfl,(m0 2).trans (by rw[h02,one_mul]),(m0 3).trans (by rw[h03,zero_mul]),(m1 2).trans h12,(m1 3).trans h13⟩
end Go.Mx
namespace Go.Proofs.YtgcmkdgpaibpeaaGreat
open Go.Proofs.Tryz
open Go Go.Eng
open Go.Tw (El ax TG)
open Go.Mx (sm iv iX red mU Ab)
def uC (l:List (List Int))(i j:Nat):Int:=(l.getD i []).getD j 0
abbrev Pj (r c:Nat)(l:List (List Int)):Prop:=∀i,i<r→∀j,j<c→(uC l i j).natAbs<2^60
section
variable {A:List R}
def iN (A:List R)(l:List (List Int))(i j:Nat):Nu A:=if h:(uC l i j).natAbs<2^60 then Nu.int A (uC l i j) h else Nu.int A 0
theorem Qb {l:List (List Int)}{i j:Nat}(h:(uC l i j).natAbs<2^60):(iN A l i j).x=rV (uC l i j):=by unfold iN;rw[dif_pos h];rfl
theorem Il {l:List (List Int)}{i j:Nat}(h:(uC l i j).natAbs<2^60):(iN A l i j).v=R.q (Rat.ofInt (uC l i j)):=by unfold iN;rw[dif_pos h];rfl
theorem yg (l:List (List Int))(i j:Nat):(iN A l i j).w=1:=by unfold iN;split<;>rfl
theorem qU {c:Nat}(a:List Int){l:List (List Int)}{i:Nat}(h:∀j,j<c→a.getD j 0=uC l i j∧(uC l i j).natAbs<2^60):dr (ak c (oT a)) (ak c (fun j=>(iN A l i j).x)):=
 dr.rows rfl fun j k hj _=>.of_eq (by show bu (rV (a.getD j 0)) k=bu (iN A l i j).x k;rw[Qb (h j hj).2,(h j hj).1])
theorem Hb {r c:Nat}(M:Nat→Nat→Nu A)(l n:List (List Int))(p:List Nat)(hM:∀i j,i<r→j<c→(M i j).v=R.q (Rat.ofInt (uC l i j)))
  (h:(Ab r (fun i j=>Rat.ofInt (uC l i j)) c).2=p∧∀i,i<r→∀j,j<c→(Ab r (fun i j=>Rat.ofInt (uC l i j)) c).1 i j=Rat.ofInt (uC n i j)):
  (red r (vM M) c).2=p∧∀i j,i<r→j<c→(red r (vM M) c).1 i j=R.q (Rat.ofInt (uC n i j)):=by
 obtain⟨h1,h2⟩:=Go.Mx.CS (M:=vM M) (N:=Go.Mx.qM fun i j=>Rat.ofInt (uC l i j)) (r:=r) (c:=c) (fun i j hi hj=>hM i j hi hj) c (Nat.le_refl c);rw[Go.Mx.Mj]at h1 h2;refine⟨h2.trans h.1,fun i j hi hj=>(h1 i j hi hj).trans ?_⟩;show R.q _=_;rw[h.2 i hi j hj]
def PG (a:List Int):C:=.rows 1 1 (fun i j=>[ak 2 (oT a)].getD (i*1+j) .any)
def O1 (a b:List Int):C:=.rows 1 2 (fun i j=>[ak 2 (oT a),ak 2 (oT b)].getD (i*1+j) .any)
theorem FG {a:List Int}(h:Pj 1 2 [a]):dr (PG a) (bm 1 (fun _=>2) (iN A [a])):=
 dr.rows rfl fun i j hi hj=>by
  obtain rfl:i=0:=by omega
  obtain rfl:j=0:=by omega
  exact qU a fun j hj=>⟨rfl,h 0 (by decide) j hj⟩
theorem wX {a b:List Int}(h:Pj 2 2 [a,b]):dr (O1 a b) (bm 2 (fun _=>2) (iN A [a,b])):=
 dr.rows rfl fun i j hi hj=>by
  obtain rfl:j=0:=by omega
  match i,hi with
  |0,_=>exact qU a fun j hj=>⟨rfl,h 0 (by decide) j hj⟩
  |1,_=>exact qU b fun j hj=>⟨rfl,h 1 (by decide) j hj⟩
def PQ (a b:Nb):C:=.rows 2 2 (fun i j=>[tC a.1.length a.1,aa a.2,tC b.1.length b.1,aa b.2].getD (i*2+j) .any)
def inv2 (x:Nb):C:=.rows 1 2 (fun i j=>[PQ x (rV 0),ak 2 (oT [0,1])].getD (i*1+j) .any)
def uL (a:Nu A)(i j:Nat):Nu A:=if i=0∧j=0 then a else iN A [[0,0],[0,1]] i j
def s9 (a:Nu A)(i j:Nat):Nu A:=if j<2 then uL a i j else DR A i (j-2)
theorem Dk (a:Nu A):dr (inv2 a.x) (bm 2 (fun _=>2) (uL a)):=
 dr.rows rfl fun i j hi hj=>by
  obtain rfl:j=0:=by omega
  match i,hi with
  |0,_=>
   exact dr.rows rfl fun k l hk hl=>by
    match k,hk,l,hl with
    |0,_,0,_=>exact .refl _
    |0,_,1,_=>exact .refl _
    |1,_,0,_=>exact .refl _
    |1,_,1,_=>exact .refl _
  |1,_=>exact qU (A:=A) (c:=2) [0,1] (l:=[[0,0],[0,1]]) (i:=1) (by decide)
def CU:List (List Int):=[[1,2],[2,4]]
theorem HB:Pj 2 2 CU:=by decide
theorem xV {M:Nat→Nat→Nu A}(hM:∀i j,i<2→j<2→(M i j).v=R.q (Rat.ofInt (uC CU i j))):(red 2 (vM M) 2).2=[0]∧∀i j,i<2→j<2→(red 2 (vM M) 2).1 i j=R.q (Rat.ofInt (uC [[1,2],[0,0]] i j)):=
 Hb M CU _ _ hM (by decide+kernel)
theorem Mh:∀i j,i<2→j<2→(iN A CU i j).v=R.q (Rat.ofInt (uC CU i j)):=fun i j hi hj=>Il (HB i hi j hj)
theorem Pv {a:Nu A}{n:Nat}(h:a.w≤4^n)(hn:n≤4):a.w≤wA:=Nat.le_trans h (Nat.le_trans (Nat.pow_le_pow_right (by decide) hn) (by decide))
variable (S:Go.Tw.Src 64 A)(hA:A.length≤3)
include S hA
theorem Ix {r c:Nat}(X Y:Nat→Nat→Nu A)(hr:r<2^38)(hc:c<2^38)(h:∀i j,i<r→j<c→(X i j).v=(Y i j).v∧(X i j).w≤wA∧(Y i j).w≤wB):
  Pr prog 23 [.one (bm r (fun _=>c) X),.one (bm r (fun _=>c) Y)] (.one (.bool true)):=
 Jm S hA (n:=r) (n':=r) (fun _=>c) (fun _=>c) X Y hr (fun _ _=>hc) (fun _ i j hi _ hj=>⟨(h i j hi hj).2.1,(h i j hi hj).2.2,.inl (h i j hi hj).1⟩) (by simp;exact fun i hi j hj=>(h i j hi hj).1)
theorem HW:∃X:Nat→Nat→Nu A,Pr prog 10 [.one (O1 [1,2] [2,4])] (.aA [.one (bm 2 (fun _=>2) X),.one (.ints .i64 [0]),.one (.int .i64 0)])∧
  Pr prog 23 [.one (bm 2 (fun _=>2) X),.one (O1 [1,2] [0,0])] (.one (.bool true)):=by
 obtain⟨e1,e2⟩:=xV (A:=A) Mh;obtain⟨X,d,x1,x2,x3⟩:=oK S hA (r:=2) (c:=2) (iN A CU) (by decide) (by decide) (by decide) (by omega) (fun i j _ _=>by rw[yg];exact Nat.le_refl 1) (by omega);have c:=Dp (r:=2) (c:=2) (fun i j=>(iN A CU i j).x) (fun i j=>(X i j).x) _ _ _ (by decide) x3 ⟨_,_,rfl⟩ ⟨_,_,rfl⟩;rw[e1]at c x2;refine⟨X,c.Jc (fP.cell (wX HB)),(Ix S hA (r:=2) (c:=2) X (iN A [[1,2],[0,0]]) (by decide) (by decide) fun i j hi hj=>⟨?_,Pv (x2 i j hi hj) (by decide),by rw[yg];decide⟩).rO (.refl _) (wX (by decide))⟩;rw[Il ((show Pj 2 2 [[1,2],[0,0]] by decide) i hi j hj)];exact(x1 i j hi hj).trans (e2 i j hi hj)
theorem FN:∃X:Nat→Nat→Nu A,Pr prog 12 [.one (O1 [1,2] [2,4])] (.aA [.one (bm 1 (fun _=>2) X),.one (.int .i64 0)])∧
  Pr prog 23 [.one (bm 1 (fun _=>2) X),.one (PG [-2,1])] (.one (.bool true)):=by
 obtain⟨e1,e2⟩:=xV (A:=A) Mh;obtain⟨X,x1,x2⟩:=y9 S hA (r:=2) (c:=2) (iN A CU) (by decide) (by decide) (by decide) (by omega) (fun i j _ _=>by rw[yg];exact Nat.le_refl 1) (by omega);unfold Pq at x1;rw[e1]at x1 x2;refine⟨X,x2.Jc (fP.cell (wX HB)),(Ix S hA (r:=1) (c:=2) X (iN A [[-2,1]]) (by decide) (by decide) fun i j hi hj=>⟨?_,Pv (x1 i j hi).2 (by decide),by rw[yg];decide⟩).rO (.refl _) (FG (by decide))⟩;rw[Il ((show Pj 1 2 [[-2,1]] by decide) i hi j hj),(x1 i j hi).1];obtain rfl:i=0:=by omega
 match j,hj with
 |0,_=>
  show-((red 2 (vM (iN A CU)) 2).1 0 1)=_
  rw[e2 0 1 (by decide) (by decide),←R.u7];exact congrArg R.q (by decide+kernel)
 |1,_=>rfl
theorem NM:Pr prog 13 [.one (O1 [1,2] [2,4])] (.aA [.one (.ints .i64 [0]),.one (.int .i64 0)]):=by
 have hM:∀i j,i<2→j<2→(iN A CU j i).v=R.q (Rat.ofInt (uC CU i j)):=fun i j hi hj=>by
  rw[Il (HB j hj i hi)]
  match i,hi,j,hj with
  |0,_,0,_=>rfl
  |0,_,1,_=>rfl
  |1,_,0,_=>rfl
  |1,_,1,_=>rfl
 obtain⟨e1,e2⟩:=xV (A:=A) (M:=fun i j=>iN A CU j i) hM;obtain⟨X,d,x1,x2,x3⟩:=oK S hA (r:=2) (c:=2) (fun i j=>iN A CU j i) (by decide) (by decide) (by decide) (by omega) (fun i j _ _=>by rw[yg];exact Nat.le_refl 1) (by omega);have c:=Mk (r:=2) (c:=2) (fun i j=>(iN A CU i j).x) (fun i j=>(X i j).x) _ _ _ (by decide) (by decide) (by omega) x3 ⟨_,_,rfl⟩ ⟨_,_,rfl⟩;rw[e1]at c;exact c.Jc (fP.cell (wX HB))
theorem Ke:∃X:Nat→Nu A,Pr prog 11 [.one (PG [1,1]),.one (ak 1 (oT [5]))] (.aA [.one (fV 2 X),.one (.int .i64 0)])∧
  Pr prog 25 [.one (fV 2 X),.one (ak 2 (oT [5,0]))] (.one (.bool true)):=by
 have hM:∀i j,i<1→j<3→(kO 2 (iN A [[1,1]]) (fun j=>iN A [[5]] 0 j) i j).v=R.q (Rat.ofInt (uC [[1,1,5]] i j)):=fun i j hi hj=>by
  obtain rfl:i=0:=by omega
  match j,hj with
  |0,_=>rfl
  |1,_=>rfl
  |2,_=>rfl
 obtain⟨e1,e2⟩:=Hb (r:=1) (c:=3) (kO 2 (iN A [[1,1]]) (fun j=>iN A [[5]] 0 j)) [[1,1,5]] [[1,1,5]] [0] hM (by decide+kernel)
 obtain⟨X,x1,_,x3⟩:=CA S hA (r:=1) (c:=2) (iN A [[1,1]]) (fun j=>iN A [[5]] 0 j) (by decide) (by decide) (by decide) (by omega) (fun i j _ _=>by unfold kO;split<;>rw [yg]<;>exact Nat.le_refl 1) (by omega)
 unfold PA at x1;rw[show 2+dR 1=3 from rfl,e1]at x1 x3;have c:=x3 (by decide);have hv:∀j,j<2→(X j).v=(iN A [[5,0]] 0 j).v:=fun j hj=>by
  rw[(x1 j).1]
  match j,hj with
  |0,_=>exact(e2 0 2 (by decide) (by decide)).trans rfl
  |1,_=>rfl
 exact⟨X,c.rO (FG (by decide)) (qU [5] (l:=[[5]]) (i:=0) (by decide)),(FF S hA (n:=2) (n':=2) X (fun j=>iN A [[5,0]] 0 j) (by decide) (fun _ i hi=>⟨Pv (x1 i).2 (by decide),by rw[yg];decide,.inl (hv i hi)⟩) (by simp;exact hv)).rO (.refl _) (qU [5,0] (l:=[[5,0]]) (i:=0) (by decide))⟩
theorem Ot {s:Nu A}(hs:s.v*s.v=R.q 2)(hw:s.w≤1):∃(half:Nu A) (X:Nat→Nat→Nu A),Pr prog 19 [nX s.x,nX ([],[mkRat 1 2])] (.aA [nX half.x,.one (.int .i64 0)])∧
  Pr prog 22 [.one (inv2 s.x)] (.aA [.one (bm 2 (fun _=>2) X),.one (.int .i64 0)])∧Pr prog 23 [.one (bm 2 (fun _=>2) X),.one (inv2 half.x)] (.one (.bool true)):=by
 have hs0:s.v≠R.q 0:=fun e=>by
  rw[e,R.zero_mul]at hs;exact absurd (R.ku hs) (by decide)
 have hf:Go.Tw.b9 A 64 [] [mkRat 1 2] (R.q (mkRat 1 2)):=oB (n:=1) (d:=2) (by decide) (by decide) (by decide);obtain⟨half,v1,w1,c1⟩:=Jk S hA (a:=s) (b:=⟨([],[mkRat 1 2]),_,1,Nat.le_refl 1,C7 (x:=([],[mkRat 1 2])) hf (by decide)⟩) (Nat.le_trans hw (by decide)) (show 1≤800 by decide);have hv:half.v=iv s.v:=xx (by rw[v1,←R.mul_assoc,hs,←R.dT];exact congrArg R.q (by decide+kernel));have hM:∀i j,(s9 s i j).x=if j<2 then(uL s i j).x else oO i (j-2):=fun i j=>by
  unfold s9
  split
  ·rfl
  exact IJ i (j-2)
 have hW:∀i j,i<2→j<4→(s9 s i j).w≤1:=fun i j _ _=>by
  unfold s9 uL DR
  split
  ·split
   ·exact hw
   rw[yg];exact Nat.le_refl 1
  split<;>exact Nat.le_refl 1
 obtain⟨X,d,x1,x2,x3⟩:=oK S hA (r:=2) (c:=4) (s9 s) (by decide) (by decide) (by decide) (by omega) hW (by omega);obtain⟨e1,e2,e3,e4,e5⟩:=Go.Mx.GX (M:=vM (s9 s)) hs0 rfl rfl rfl rfl rfl rfl rfl rfl;have hpv:∀i,i<2→i<(red 2 (vM (s9 s)) 4).2.length∧(red 2 (vM (s9 s)) 4).2.getD i 0=i:=by rw[e1];decide
 have em:bm 2 (fun _=>4) (s9 s)=aq 2 (fun _=>2+2) fun i j=>if j<2 then(uL s i j).x else oO i (j-2):=
  congrArg (aq 2 (fun _=>4)) (funext fun i=>funext fun j=>hM i j)
 rw[em]at x3;have c2:=HS (n:=2) (fun i j=>(uL s i j).x) (fun i j=>(X i j).x) (red 2 (vM (s9 s)) 4).2 _ _ (by decide) x3 ⟨_,_,rfl⟩ ⟨_,_,rfl⟩ hpv;rw[e1]at x2;clear hpv x3
 generalize(red 2 (vM (s9 s)) 4).1=N at x1 e2 e3 e4 e5
 refine⟨half,fun i j=>X i (2+j),c1,c2.Jc (fP.cell (Dk s)),(Ix S hA (r:=2) (c:=2) (fun i j=>X i (2+j)) (uL half) (by decide) (by decide) fun i j hi hj=>⟨?_,Pv (x2 i (2+j) hi (by omega)) (by decide),?_⟩).rO (.refl _) (Dk half)⟩
 ·refine(x1 i (2+j) hi (by omega)).trans ?_
  have i0:(uL half 0 0).v=half.v:=congrArg Nu.v (if_pos ⟨rfl,rfl⟩);have i1:∀i j,¬(i=0∧j=0)→(uC [[0,0],[0,1]] i j).natAbs<2^60→(uL half i j).v=R.q (Rat.ofInt (uC [[0,0],[0,1]] i j)):=fun i j h h'=>(congrArg Nu.v (if_neg h)).trans (Il h')
  match i,hi,j,hj with
  |0,_,0,_=>exact e2.trans (hv.symm.trans i0.symm)
  |0,_,1,_=>exact e3.trans (i1 0 1 (by decide) (by decide)).symm
  |1,_,0,_=>exact e4.trans (i1 1 0 (by decide) (by decide)).symm
  |1,_,1,_=>exact e5.trans (i1 1 1 (by decide) (by decide)).symm
 unfold uL;have h8:wB=800:=rfl
 split
 ·rw[w1];show s.w+1≤wB;omega
 rw[yg];omega
end
open Go Go.Eng
open Go.Tw (El ax)
theorem OX:∃(A:List R) (s:Nu A),Go.Tw.Src 64 A∧A.length≤3∧s.v*s.v=R.q 2∧s.w≤1∧Pr prog 17 [nX (rV 2)] (.aA [nX s.x,.one (.int .i64 0)]):=by
 have S0:Go.Tw.Src 64 []:=⟨fun k hk=>absurd hk (Nat.not_lt_zero _),fun k hk=>absurd hk (Nat.not_lt_zero _)⟩;have e:mkRat 2 1=Rat.ofInt 2:=by decide+kernel
 have hf:Go.Tw.b9 [] 64 [] [mkRat 2 1] (R.q (mkRat 2 1)):=oB (n:=2) (d:=1) (by decide) (by decide) (by decide);have hn:R.nn (R.q (mkRat 2 1)):=R.bx.2 (.inr (R.ub.2 (by decide+kernel)));obtain⟨A,x,S,_,hA,nx,c⟩:=Ma S0 (by decide) (by decide) (c:=([],[mkRat 2 1])) hf hn;rw[e]at c;refine⟨A,⟨x,_,1,Nat.le_refl 1,nx.mono (by decide) (by decide)⟩,S,Nat.le_trans hA (by decide),?_,Nat.le_refl 1,c⟩;exact(R.dN hn).trans (congrArg R.q e)
theorem xY:Pr prog 4 [] (.one (.bool true)):=by
 obtain⟨A,s,S,hA,hs,hw,cq⟩:=OX;obtain⟨Xr,cr,qr⟩:=HW S hA;obtain⟨Xk,ck,qk⟩:=FN S hA;have cro:=NM S hA;obtain⟨Xs,cs,qs⟩:=Ke S hA;obtain⟨half,Xi,ch,ci,qi⟩:=Ot S hA hs hw;have i12:=iH [1,2] (by decide) (by decide);have i24:=iH [2,4] (by decide) (by decide);have i01:=iH [0,1] (by decide) (by decide);have i11:=iH [1,1] (by decide) (by decide);have i00:=iH [0,0] (by decide) (by decide);have i21:=iH [-2,1] (by decide) (by decide);have i50:=iH [5,0] (by decide) (by decide);have i5:=iH [5] (by decide) (by decide);have f2:=ja 2 (by decide) (by decide);have f0:=ja 0 (by decide) (by decide);have fr:=oz 1 2 (by decide) (by decide) (by decide) (by decide+kernel) (by decide+kernel);have fq:=qv (mkRat 1 2) [];have eq:=N8 [0] [0] (by decide) (q:=true) (by simp);refine pw func4 ⟨[0,1,2,3,4,5,6,7,8,9,11,13,14,15,16,17],[(6,(.cons 8 [6] (.cons 9 [] .nil .nil) .nil)),(7,.nil)]⟩ ?_;simp only[Tryz.f4,ntmps4,iz,seval];simp only[vx,T,seval];refine Cg i12 ?_;simp only[vx,T,seval,ak];refine Cg i24 ?_;simp only[vx,T,seval,ak];refine Cg cr ?_;simp only[vx,T,seval,bm,aq,ak];refine Cg ck ?_;simp only[vx,T,seval,bm,aq,ak];refine Cg cro ?_;simp only[vx,T,seval,bm,aq,ak];refine Cg f2 ?_;simp only[vx,T,seval,nX,nV,tC,aa];refine Cg cq ?_;simp only[vx,T,seval,nX,nV,tC,aa];refine Cg fr ?_;simp only[vx,T,seval,QV,QC];refine Cg fq ?_;simp only[vx,T,seval,nX,nV,tC,aa];refine Cg ch ?_;simp only[vx,T,seval,nX,nV,tC,aa];refine Cg f0 ?_;simp only[vx,T,seval,nX,nV,tC,aa];refine Cg i01 ?_;simp only[vx,T,seval,ak];refine Cg ci ?_;simp only[vx,T,seval,bm,aq,ak];refine Cg i11 ?_;simp only[vx,T,seval,ak];refine Cg i5 ?_;simp only[vx,T,seval,ak];refine Cg cs ?_;simp only[vx,T,seval,fV,ak];refine Cg i12 ?_;simp only[vx,T,seval,ak];refine Cg i00 ?_;simp only[vx,T,seval,ak];refine Cg qr ?_;simp only[vx,T,seval,ak];refine Cg eq ?_;simp only[vx,T,seval,ak];refine Cg i21 ?_;simp only[vx,T,seval,ak];refine Cg qk ?_;simp only[vx,T,seval,ak];refine Cg eq ?_;simp only[vx,T,seval,ak];refine Cg f0 ?_;simp only[vx,T,seval,nX,nV,tC,aa];refine Cg i01 ?_;simp only[vx,T,seval,ak];refine Cg qi ?_;simp only[vx,T,seval,ak];refine Cg i50 ?_;simp only[vx,T,seval,ak];refine Cg qs ?_;simp only[vx,T,seval,ak];exact Ve rfl
open Go Go.Eng
open Go.Tw (El)
def qe (c:Nat→Nat)(m:Nat→Nat→Nb)(t b i:Nat):C:=if i=t then .own b 2 0 (c t)else ak (c i) (m i)
def Pw (r:Nat)(c:Nat→Nat)(m:Nat→Nat→Nb)(t i:Nat):St:=
 if i<t then⟨[(0,.one (aq r c m)),(2,.one .nil),(3,.one (.own 1 1 0 i)),(4,.one (.int .i64 i))],[(1,⟨.rows 33 1 i (fun i _=>ak (c i) (m i)),true⟩)],2,21⟩
 else if i=t then⟨[(0,.one (aq r c m)),(2,.one .nil),(3,.one (.own 1 1 0 i)),(4,.one (.int .i64 i))],[(999,⟨.wins 0 0 0 (fun _=>.any),true⟩),(1,⟨.rows 33 1 i (fun i _=>ak (c i) (m i)),true⟩)],1000,21⟩
 else⟨[(0,.one (aq r c m)),(2,.one .nil),(3,.one (.win 1 2 0 i)),(4,.one (.int .i64 i))],[(1,⟨.wins 33 2 i (qe c m t 2),true⟩),(2,⟨.rows 52 2 (c t) (fun j=>bu (m t j)),true⟩)],3,21⟩
theorem Ce {r:Nat}{c:Nat→Nat}{m:Nat→Nat→Nb}{t i:Nat}(h:i<t):Pw r c m t i=⟨[(0,.one (aq r c m)),(2,.one .nil),(3,.one (.own 1 1 0 i)),(4,.one (.int .i64 i))],[(1,⟨.rows 33 1 i (fun i _=>ak (c i) (m i)),true⟩)],2,21⟩:=if_pos h
theorem BG {r:Nat}{c:Nat→Nat}{m:Nat→Nat→Nb}{t:Nat}:Pw r c m t t=⟨[(0,.one (aq r c m)),(2,.one .nil),(3,.one (.own 1 1 0 t)),(4,.one (.int .i64 t))],[(999,⟨.wins 0 0 0 (fun _=>.any),true⟩),(1,⟨.rows 33 1 t (fun i _=>ak (c i) (m i)),true⟩)],1000,21⟩:=
 (if_neg (Nat.lt_irrefl t)).trans (if_pos rfl)
theorem Ci {r:Nat}{c:Nat→Nat}{m:Nat→Nat→Nb}{t i:Nat}(h:t<i):Pw r c m t i=⟨[(0,.one (aq r c m)),(2,.one .nil),(3,.one (.win 1 2 0 i)),(4,.one (.int .i64 i))],[(1,⟨.wins 33 2 i (qe c m t 2),true⟩),(2,⟨.rows 52 2 (c t) (fun j=>bu (m t j)),true⟩)],3,21⟩:=
 (if_neg (by omega)).trans (if_neg (by omega))
theorem Gh {r t:Nat}(c:Nat→Nat)(m:Nat→Nat→Nb)(ht:t<r)(hn:r<2^38)(hc:∀i,i<r→c i<2^38):ra prog 7 [.one (aq r c m)] r (qe c m t) (.rows 52 2 (c t) (fun j=>bu (m t j))) none:=by
 refine pY yV mixed func7 rfl (by decide) _ (by simp[ntmps7]) ⟨[0,2,3,4,8],[]⟩ (by kernel_rfl) r (qe c m t) (.rows 52 2 (c t) (fun j=>bu (m t j))) none trivial (fun _ h=>by cases h<;>trivial) ?_
 show vc T _ _ (Option.get! Tryz.f7.body) _ _;simp only[Tryz.f7,ntmps7,Option.get!,iS,iM,eO,J1];simp only[vx,T,seval,aq,ak];refine Lk (fun y:{i:Nat//i≤r}=>Pw r c m t y.1) (fun y=>r-y.1) ⟨0,Nat.zero_le _⟩ ?_ (fun⟨i,hi⟩=>?_)
 ·by_cases h:0<t
  ·rw[Ce h];refine Sa ?_;simp only[ry,seval,rz,aq,ak]
  obtain rfl:t=0:=by omega
  rw[BG];refine Sub.mk [(1,none),(999,none)] ?_;simp only[ry,seval,X2,X3,X4,aq,ak]
 simp only;have wi:IntKind.i64.wrap ((i:Int)+1)=((i+1:Nat):Int):=by rw[IntWalk.i64_in _ (by omega)];omega
 by_cases h1:i<t
 ·rw[Ce h1];simp only[vx,T,seval,aq,ak];refine⟨fun g=>Lg ?_,fun g=>Lg ?_⟩
  ·have hci:=hc i (by omega);simp only[vx,T,seval,aq,ak,wi,Nat.not_lt_zero,Nat.sub_zero];refine⟨by omega,by omega,?_⟩;refine⟨⟨by omega,by omega⟩,Lq ⟨i+1,by omega⟩ ?_ (by show r-(i+1)<r-i;omega)⟩
   by_cases h2:i+1<t
   ·rw[Ce h2];refine Sa ?_;simp only[ry,seval,rz,aq,ak];exact Am (fun i=>ak (c i) (m i)) i
   obtain rfl:t=i+1:=by omega
   rw[BG];refine Sub.mk [(1,some 14),(999,none)] ?_;simp only[ry,seval,X2,X3,X4,aq,ak];exact Am (fun i=>ak (c i) (m i)) i
  exact absurd g (by omega)
 by_cases h2:i=t
 ·subst h2;rw[BG];simp only[vx,T,seval,aq,ak];refine⟨fun g=>Lg ?_,fun g=>Lg ?_⟩
  ·have hci:=hc i (by omega);simp only[vx,T,seval,aq,ak,wi,Nat.not_lt_zero,Nat.sub_zero];refine⟨by omega,⟨by omega,by omega⟩,⟨by omega,by omega⟩,Lq ⟨i+1,by omega⟩ ?_ (by show r-(i+1)<r-i;omega)⟩;rw[Ci (show i<i+1 by omega)];refine Sub.mk [(1,some 1012),(2,some 1010)] ?_;simp only[ry,seval,X2,X3,X4,aq,ak];intro j hj;unfold qe
   by_cases e:j=i
   ·rw[if_pos e,if_neg (show¬j<i by omega)];exact⟨by decide,rfl,rfl,rfl,rfl⟩
   rw[if_neg e,if_pos (show j<i by omega)];exact⟨rfl,rfl,fun _ _ _ _=>rfl⟩
  exact absurd g (by omega)
 rw[Ci (by omega:t<i)];simp only[vx,T,seval,aq,ak];refine⟨fun g=>Lg ?_,fun g=>Lg ?_⟩
 ·have hci:=hc i (by omega);simp only[vx,T,seval,aq,ak,wi,Nat.not_lt_zero,Nat.sub_zero];refine⟨by omega,⟨by omega,by omega⟩,⟨by omega,by omega⟩,Lq ⟨i+1,by omega⟩ ?_ (by show r-(i+1)<r-i;omega)⟩;rw[Ci (by omega:t<i+1)];refine Sub.mk [(1,some 15),(2,some 2)] ?_;simp only[ry,seval,X2,X3,X4,aq,ak];intro j hj
  by_cases e:j<i
  ·rw[if_pos e];unfold qe
   by_cases e1:j=t
   ·rw[if_pos e1];exact⟨by decide,rfl,rfl,rfl,rfl⟩
   rw[if_neg e1];exact⟨rfl,rfl,fun _ _ _ _=>rfl⟩
  obtain rfl:j=i:=by omega
  rw[if_neg e,Nat.sub_self];unfold qe;rw[if_neg h2];exact⟨rfl,rfl,fun _ _ _ _=>rfl⟩
 obtain rfl:i=r:=by omega
 simp only[vx,T,seval,aq,ak];refine⟨rfl,rfl,by decide,⟨rfl,rfl,fun j hj=>?_⟩,⟨rfl,rfl,rfl,fun _ _ _ _=>rfl⟩⟩;unfold qe
 by_cases e1:j=t
 ·exact .inl ⟨2,0,c t,if_pos e1,fun b=>if_pos e1⟩
 refine .inr ⟨?_,fun b=>?_⟩
 ·rw[if_neg e1];rfl
 exact(if_neg e1).trans (if_neg e1).symm
open Go Go.Eng
open Go.Tw (El)
section
variable {r:Nat}{c:Nat→Nat}(m:Nat→Nat→Nb)(hr:r<2^38)(h:¬∀i,i<r→c i=c 0)
include hr h
theorem kR:Pr prog 6 [.one (aq r c m)] (.one (.bool false)):=jx c m hr (b:=false) ⟨fun e=>(by cases e),fun k=>absurd k h⟩
theorem Im:Pr prog 10 [.one (aq r c m)] (.aA [.one .nil,.one .nil,.one (.int .i64 1)]):=by
 have cv:=kR m hr h;refine pw func10 ⟨[0,2,3,4,5,6,9],[(4,.nil)]⟩ ?_;simp only[Tryz.f10,ntmps10,iz,seval];simp only[vx,T,seval,aq,ak];refine Cg cv ?_;simp only[vx,T,seval];exact Ve rfl
theorem I4 {n:Nat}(b:Nat→Nb):Pr prog 11 [.one (aq r c m),.one (ak n b)] (.aA [.one .nil,.one (.int .i64 1)]):=by
 have cv:=kR m hr h;refine pw func11 ⟨[0,1,4,5,6,7,8,9,10,11,12,13,14,24,28,29,30,31,51,56,57,58,59,65],[]⟩ ?_;simp only[Tryz.f11,ntmps11,iz,seval];simp only[vx,T,seval,aq,ak];refine Cg cv ?_;simp only[vx,T,seval];exact Ve rfl
theorem IA:Pr prog 12 [.one (aq r c m)] (.aA [.one .nil,.one (.int .i64 1)]):=by
 have cv:=kR m hr h;refine pw func12 ⟨[0,2,3,4,5,6,7,8,9,10,13,20,23,24,25,30,36,37,38,39],[]⟩ ?_;simp only[Tryz.f12,ntmps12,iz,seval];simp only[vx,T,seval,aq,ak];refine Cg cv ?_;simp only[vx,T,seval];exact Ve rfl
theorem ML:Pr prog 13 [.one (aq r c m)] (.aA [.one .nil,.one (.int .i64 1)]):=by
 have cv:=kR m hr h;refine pw func13 ⟨[0,2,3,4,5,8],[]⟩ ?_;simp only[Tryz.f13,ntmps13,iz,seval];simp only[vx,T,seval,aq,ak];refine Cg cv ?_;simp only[vx,T,seval];exact Ve rfl
theorem zA:Pr prog 16 [.one (aq r c m)] (.one .nil):=by
 have cv:=kR m hr h;refine pw func16 ⟨[0,2,3,4,6,9,14,15,16,18,19,20,21],[(10,(.cons 11 [0,1,12] (.cons 13 [] .nil .nil) .nil))]⟩ ?_;simp only[Tryz.f16,ntmps16,iz,seval];simp only[vx,T,seval,aq,ak];refine Cg cv ?_;simp only[vx,T,seval];exact Ve rfl
theorem Ow {n:Nat}{d:Nat→Nat}(b:Nat→Nat→Nb):Pr prog 14 [.one (aq r c m),.one (aq n d b)] (.aA [.one .nil,.one (.int .i64 1)]):=by
 have cv:=kR m hr h;refine pw func14 ⟨[0,1,4,5,6,7,8,9,10,12,27,35,36,37,38,42,43,44,45,67],[(12,(.cons 11 [0,1,12] (.cons 13 [] .nil .nil) .nil)),(16,.nil)]⟩ ?_;simp only[Tryz.f14,ntmps14,iz,seval];simp only[vx,T,seval,aq,ak];refine Cg cv ?_;simp only[vx,T,seval];exact Ve rfl
end
/-- The reference's Valid. -/
theorem yL {r:Nat}(c:Nat→Nat)(m:Nat→Nat→Nb)(hr:r<2^38){b:Bool}(hb:b=true↔∀i,i<r→c i=c 0):Pr prog 9 [.one (aq r c m)] (.one (.bool b)):=by
 refine pw func9 ⟨[0,2,3,7,19],[]⟩ ?_;simp only[Tryz.f9,ntmps9,iz,seval];simp only[vx,T,seval,aq,ak];refine Lk (fun y:{i:Nat//i≤r∧∀j,j<i→c j=c 0}=>⟨[(0,.one (aq r c m)),(2,.one (.bool false)),(3,.one (.int .i64 y.1))],[],1,20⟩) (fun y=>r-y.1) ⟨0,Nat.zero_le _,fun j hj=>absurd hj (Nat.not_lt_zero _)⟩ ?_ (fun⟨i,hi,hz⟩=>?_)
 ·refine Sa ?_;simp only[ry,seval,rz,aq,ak]
 simp only;have wi:IntKind.i64.wrap ((i:Int)+1)=((i+1:Nat):Int):=by rw[IntWalk.i64_in _ (by omega)];omega
 simp only[vx,T,seval,aq,ak];refine⟨fun g=>Lg ?_,fun g=>Lg ?_⟩
 ·have hir:i<r:=by omega
  simp only[vx,T,seval,aq,ak];refine⟨by omega,by omega,?_⟩;refine⟨fun g2=>Lg ?_,fun g2=>Lg ?_⟩
  ·have e:b=false:=by
    cases b with
    |false=>rfl
    |true=>exact absurd (hb.1 rfl i hir) (by omega)
   subst e;simp only[vx,T,seval];exact Ve rfl
  simp only[vx,T,seval,wi];refine Lq ⟨i+1,by omega,fun j hj=>?_⟩ ?_ (by show r-(i+1)<r-i;omega)
  ·by_cases e:j=i
   ·subst e;omega
   exact hz j (by omega)
  refine Sa ?_;simp only[ry,seval,rz,aq,ak]
 have e:b=true:=hb.2 fun j hj=>hz j (by omega);subst e;simp only[vx,T,seval,aq,ak];exact Ve rfl
open Go Go.Eng
open Go.Tw (El ax TG)
section
variable {A:List R}(S:Go.Tw.Src 64 A)(hA:A.length≤3)
include S hA
theorem OK {n n':Nat}(a b:Nat→Nu A)(hn:n≤24)(hnn:n≤n')(ha:∀i,i<n→(a i).w≤1)(hb:∀i,i<n→(b i).w≤1):
  ∃c:Nu A,∀(C0:C) (wd io oo:Nat),Pr prog 39 [.one (.elt C0 wd io oo),.one (fV n a),.one (fV n' b)] (nX c.x):=by
 have b8:wB=800:=rfl;have b2:wA=2000:=rfl;have b3:wC=300:=rfl;obtain⟨Q,hQ⟩:=P0 (n:=n) (p:=fun i c=>c.w≤2∧Pr prog 97 [nX (a i).x,nX (b i).x] (.aA [nX c.x,.one (.int .i64 0)])) (a 0) fun i hi=>by
  have k1:=ha i hi;have k2:=hb i hi;obtain⟨c,_,c2,c3⟩:=ss S hA (a:=a i) (b:=b i) (by omega) (by omega);exact⟨c,by omega,c3⟩
 obtain⟨s,e0,hI,hS⟩:=Go.Tw.chain (α:=Nu A) (I:=fun k s=>s.w≤1+k*2)
  (St:=fun k s t=>(R.bJ (a k).v≠0→R.bJ (b k).v≠0→Pr prog 106 [nX s.x,nX (Q k).x] (.aA [nX t.x,.one (.int .i64 0)]))∧((R.bJ (a k).v=0∨R.bJ (b k).v=0)→t=s)) (x0:=Nu.int A 0) (by rw[O9];omega) (n:=n) (fun k s hk hs=>by
   by_cases h:R.bJ (a k).v=0∨R.bJ (b k).v=0
   ·exact⟨s,⟨fun h1 h2=>absurd h (by rintro(h|h)<;>contradiction),fun _=>rfl⟩,by omega⟩
   have q:=(hQ k hk).1;obtain⟨c,_,c2,c3⟩:=LG S hA (a:=s) (b:=Q k) (by omega) (by omega);exact⟨c,⟨fun _ _=>c3,fun h'=>absurd h' h⟩,by omega⟩)
 refine⟨s n,fun C0 wd io oo=>PX (fun i=>(a i).x) (fun i=>(b i).x) (fun i=>(s i).x) (fun i=>(Q i).x) (fun i=>R.bJ (a i).v) (fun i=>R.bJ (b i).v) (by omega) hnn (by rw[e0];exact pf 0 (by decide)) (fun i hi=>mK S hA (by have:=ha i hi;omega)) (fun i hi=>mK S hA (by have:=hb i hi;omega))
  (fun i hi h=>by rw[(hS i hi).2 h]) (fun i hi h1 h2=>⟨Hz (hQ i hi).2,PM ((hS i hi).1 h1 h2)⟩)⟩
end
open Go Go.Eng
open Go.Tw (El)
theorem Qe {r n c:Nat}(x y o:Nat→Nat→Nb)(hr:r<2^30)(hn:n<2^30)(hc:c<2^30)(h0:r≠0)(hn0:n=0→c=0)
  (hd:∀i j,i<r→j<c→∀(C0:C) (wd io oo:Nat),Pr prog 39 [.one (.elt C0 wd io oo),.one (ak n (x i)),.one (ak n (fun k=>y k j))] (nX (o i j))):
  Pr prog 14 [.one (aq r (fun _=>n) x),.one (aq n (fun _=>c) y)] (.aA [.one (aq r (fun _=>c) o),.one (.int .i64 0)]):=by
 have cv1:=jx (r:=r) (fun _=>n) x (by omega) (b:=true) (by simp);have cv2:=jx (r:=n) (fun _=>c) y (by omega) (b:=true) (by simp);have cl:=jn (fun _=>n) x (k:=n) (by rw[if_neg h0]) (by omega:r<2^38);have ct:=uo (r:=n) (c:=c) y hn hc hn0;refine pw func14 ⟨[0,1,4,5,6,7,8,9,10,12,27,35,36,37,38,42,43,44,45,67],[(12,(.cons 11 [0,1,12] (.cons 13 [] .nil .nil) .nil)),(16,.nil)]⟩ ?_;simp only[Tryz.f14,ntmps14,iz,seval];simp only[vx,T,seval,aq,ak];refine Cg cv1 ?_;simp only[vx,T,seval,aq,ak];refine Cg cv2 ?_;simp only[vx,T,seval,aq,ak];refine Cg cl ?_;simp only[vx,T,seval,aq,ak];refine Cg ct ?_;simp only[vx,T,seval,aq,ak];refine⟨by omega,?_⟩;refine Lk (fun z:{i:Nat//i≤r}=>⟨[(4,.one .nil),(5,.one (.int .i64 0)),(6,.one (aq c (fun _=>n) fun i j=>y j i)),(7,.one (.ptr 1 0)),(8,.one (.win 2 3 0 r)),(35,.one (aq r (fun _=>n) x)),(36,.one (.int .i64 r)),(37,.one (.int .i64 z.1))],
  [(1,⟨.var [.int .i64 0],false⟩),(2,⟨.wins 33 3 r (fun t=>if t<z.1 then ak c (o t)else .nil),true⟩)],4,73⟩) (fun z=>r-z.1) ⟨0,Nat.zero_le _⟩ ?_ (fun⟨i,hi⟩=>?_)
 ·refine Sa ?_;simp only[ry,seval,rz,aq,ak,Nat.not_lt_zero]
 simp only;have wi:IntKind.i64.wrap ((i:Int)+1)=((i+1:Nat):Int):=by rw[IntWalk.i64_in _ (by omega)];omega
 simp only[vx,T,seval,aq,ak];refine⟨fun g=>Lg ?_,fun g=>Lg ?_⟩
 ·have hir:i<r:=by omega
  simp only[vx,T,seval,aq,ak];refine⟨by omega,?_⟩;refine Lk (fun z:{j:Nat//j≤c}=>⟨[(4,.one .nil),(5,.one (.int .i64 0)),(6,.one (aq c (fun _=>n) fun i j=>y j i)),(7,.one (.ptr 1 0)),(8,.one (.win 2 3 0 r)),(9,.one (.int .i64 i)),(10,.one (ak n (x i))),(35,.one (aq r (fun _=>n) x)),(36,.one (.int .i64 r)),(37,.one (.int .i64 i)),(42,.one (aq c (fun _=>n) fun i j=>y j i)),(43,.one (.int .i64 c)),(44,.one (.int .i64 z.1))],
   [(1,⟨.var [.int .i64 0],false⟩),(2,⟨.wins 33 3 r (fun t=>if t<i then ak c (o t)else if t=i then .own 3 2 0 z.1 else .nil),true⟩),(3,⟨.rows 52 2 z.1 (fun j=>bu (o i j)),true⟩)],4,73⟩) (fun z=>c-z.1) ⟨0,Nat.zero_le _⟩ ?_ (fun⟨j,hj⟩=>?_)
  ·refine Sub.mk [(1,some 1),(2,some 2),(3,none)] ?_;simp only[ry,seval,X2,X3,X4,aq,ak];intro t ht
   by_cases h:t<i
   ·simp only[if_pos h];exact⟨trivial,trivial,fun _ _ _ _=>trivial⟩
   by_cases h2:t=i
   ·simp only[if_neg h,if_pos h2];decide
   simp only[if_neg h,if_neg h2]
  simp only;have wj:IntKind.i64.wrap ((j:Int)+1)=((j+1:Nat):Int):=by rw[IntWalk.i64_in _ (by omega)];omega
  simp only[vx,T,seval,aq,ak];refine⟨fun g1=>Lg ?_,fun g1=>Lg ?_⟩
  ·have hjc:j<c:=by omega
   have cd:=hd i j hir hjc;simp only[vx,T,seval,aq,ak,bu,tC,aa,wj,Nat.lt_irrefl];refine⟨by omega,by omega,Cg (cd _ _ _ _) ?_⟩;simp only[vx,T,seval,aq,ak,nX,nV,bu,tC,aa,wj,Nat.lt_irrefl];refine⟨by omega,⟨by omega,by omega⟩,by omega,Lq ⟨j+1,by omega⟩ ?_ (by show c-(j+1)<c-j;omega)⟩;refine Sub.mk [(1,some 1),(2,some 2),(3,some 22)] ?_;simp only[ry,seval,X2,X3,X4,aq,ak,tC,aa];refine⟨fun t ht=>?_,vF (o i) j⟩
   by_cases h2:t=i
   ·subst h2;simp only[if_neg (Nat.lt_irrefl t),if_true];decide
   by_cases h:t<i
   ·simp only[if_pos h,if_neg h2];exact⟨trivial,trivial,fun _ _ _ _=>trivial⟩
   simp only[if_neg h,if_neg h2]
  obtain rfl:c=j:=by omega
  simp only[vx,T,seval,aq,ak,wi];refine Lq ⟨i+1,by omega⟩ ?_ (by show r-(i+1)<r-i;omega);refine Sub.trans (Sub.r7 2 3 rfl rfl (by decide)) ?_;simp only[dB,dY];refine Sa ?_;simp only[ry,seval,rz,aq,ak];intro t ht
  by_cases h2:t=i
  ·subst h2;simp only[if_neg (Nat.lt_irrefl t),if_true,if_pos (show t<t+1 by omega),Nat.zero_add];exact⟨trivial,trivial,fun _ _ _ _=>trivial⟩
  by_cases h:t<i
  ·simp only[if_pos h,if_pos (show t<i+1 by omega)];exact⟨trivial,trivial,fun _ _ _ _=>trivial⟩
  simp only[if_neg h,if_neg h2,if_neg (show¬t<i+1 by omega)]
 obtain rfl:r=i:=by omega
 simp only[vx,T,seval,aq,ak,z7,Gt];exact fP.aA ⟨.cell (dr.rows rfl fun i j hi hj=>.of_eq (by rw[if_pos hi])),.refl _,trivial⟩
open Go Go.Eng
open Go.Tw (El ax TG)
open Go.Mx (sm iv iX red mU)
theorem F0 (c:Nat→Nat)(m:Nat→Nat→Nb)(t b:Nat):qe c m t b t= .own b 2 0 (c t):=if_pos rfl
def cI (t l w i:Nat):Nat:=if i=t then l else w
section
variable {A:List R}
def mI (t k:Nat)(M:Nat→Nat→Nu A)(i j:Nat):Nu A:=if i=t then(if j<k then M t j else Nu.int A 0)else M i j
theorem PR {t k r w:Nat}{M:Nat→Nat→Nu A}(ht:t<r)(hk:k≤w)(hw:∀i j,i<r→j<w→(M i j).w≤1){i j:Nat}(hi:i<r)(hj:j<w):(mI t k M i j).w≤1:=by
 unfold mI
 split
 ·split
  ·exact hw t j ht (by omega)
  exact Nat.le_refl 1
 exact hw i j hi hj
theorem FX {r c:Nat}(M:Nat→Nat→R)(h:∀i,i<r→M i c=R.q 0):c∉(red r M (c+1)).2:=fun hc=>by
 have E:=Go.Mx.fH r M (c+1);obtain⟨i,hi,e⟩:=Go.Mx.so.1 hc;have hir:i<r:=Nat.lt_of_lt_of_le hi E.len;have k0:∀N:Nat→R,sm (c+1) (fun j=>N j*if j=c then R.q 1 else R.q 0)=N c:=fun N=>by
  rw[Go.Mx.Ey (j:=c) (by omega) fun j _ hne=>by rw[if_neg hne,R.mul_zero],if_pos rfl,R.mul_one]
 have s:=(Go.Mx.DJ r (c+1) M (fun j=>if j=c then R.q 1 else R.q 0) (c+1)).2 (fun i' hi'=>(k0 (M i')).trans (h i' hi')) i hir
 replace s:=(k0 ((red r M (c+1)).1 i)).symm.trans s
 have o:=E.one i i hir hi;rw[←e,if_pos rfl]at o;exact Go.Mx.gk (o.symm.trans s)
variable (S:Go.Tw.Src 64 A)(hA:A.length≤3)
include S hA
theorem Nx {r w:Nat}(M:Nat→Nat→Nu A)(hr:1≤r)(hw1:1≤w)(hrw:r*w≤24)(hr24:r≤24)(hw12:w≤12)(hw:∀i j,i<r→j<w→(M i j).w≤1):
  (∃(X:Nat→Nat→Nu A) (p:List Nat),Pr prog 10 [.one (bm r (fun _=>w) M)] (.aA [.one (bm r (fun _=>w) X),.one (.ints .i64 (jJ p)),.one (.int .i64 0)]))∧
  (∃X:Nat→Nu A,Pr prog 11 [.one (bm r (fun _=>w) M),.one (ak r (oT (List.replicate r 0)))] (.aA [.one (fV w X),.one (.int .i64 0)]))∧
  (∃(n:Nat) (K:Nat→Nat→Nu A),Pr prog 12 [.one (bm r (fun _=>w) M)] (.aA [.one (bm n (fun _=>w) K),.one (.int .i64 0)]))∧
  (∃p:List Nat,Pr prog 13 [.one (bm r (fun _=>w) M)] (.aA [.one (.ints .i64 (jJ p)),.one (.int .i64 0)]))∧
  (∃o:Nat→Nat→Nu A,Pr prog 14 [.one (bm r (fun _=>w) M),.one (aq w (fun _=>w) fun i j=>oO i j)] (.aA [.one (bm r (fun _=>w) o),.one (.int .i64 0)])):=by
 have h5:r≤4∨w≤4:=by
  by_cases h:r≤4
  ·exact .inl h
  have:5*w≤r*w:=Nat.mul_le_mul_right _ (by omega)
  omega
 have hd1:dR r=1:=if_neg (by omega);refine⟨?_,?_,?_,?_,?_⟩
 ·obtain⟨X,d,_,_,x3⟩:=oK S hA M (by omega) (by omega) (by omega) (by omega) hw (by omega);exact⟨X,_,Dp (fun i j=>(M i j).x) (fun i j=>(X i j).x) _ _ _ (by omega) x3 ⟨_,_,rfl⟩ ⟨_,_,rfl⟩⟩
 ·have hm:=Nat.mul_le_mul hr24 (show w+dR r≤13 by omega);obtain⟨X,_,_,x2⟩:=CA S hA M (fun _=>Nu.int A 0) (r:=r) (c:=w) (by omega) (by omega) (by omega) (by omega) (fun i j hi hj=>by
   unfold kO
   split
   ·exact hw i j hi (by assumption)
   exact Nat.le_refl 1) h5
  have hz:w∉(red r (vM (kO w M (fun _=>Nu.int A 0))) (w+dR r)).2:=by
   rw[hd1];refine FX _ fun i _=>?_
   show(kO w M (fun _=>Nu.int A 0) i w).v=_
   unfold kO;rw[if_neg (Nat.lt_irrefl w)];rfl
  exact⟨X,(x2 hz).rO (.refl _) (dr.rows rfl fun i j hi _=>.of_eq (by
   show bu (rV ((List.replicate r (0:Int)).getD i 0)) j=bu (rV 0) j
   congr 2
   simp[X7,hi]))⟩
 ·obtain⟨K,_,c⟩:=y9 S hA M (r:=r) (c:=w) (by omega) (by omega) (by omega) (by omega) hw (by omega);exact⟨_,K,c⟩
 ·obtain⟨X,d,_,_,x3⟩:=oK S hA (fun i j=>M j i) (r:=w) (c:=r) (by omega) (by omega) (by rw[Nat.mul_comm];omega) (by omega) (fun i j hi hj=>hw j i hj hi) (by
   by_cases h:w≤4
   ·exact .inl h
   have:r*5≤r*w:=Nat.mul_le_mul_left _ (by omega)
   omega)
  exact⟨_,Mk (fun i j=>(M i j).x) (fun i j=>(X i j).x) _ _ _ (by omega) (by omega) (by omega) x3 ⟨_,_,rfl⟩ ⟨_,_,rfl⟩⟩
 have hex:∀i j,i<r→j<w→∃c:Nu A,∀(C0:C) (wd io oo:Nat),Pr prog 39 [.one (.elt C0 wd io oo),.one (fV w (M i)),.one (fV w (fun k=>DR A k j))] (nX c.x):=fun i j hi hj=>
  OK S hA (M i) (fun k=>DR A k j) (by omega) (Nat.le_refl _) (fun k hk=>hw i k hi hk) (fun k _=>by unfold DR;split<;>exact Nat.le_refl 1)
 obtain⟨o,ho⟩:=Px (M 0 0) hex;refine⟨o,Qe (fun i j=>(M i j).x) (fun i j=>oO i j) (fun i j=>(o i j).x) (by omega) (by omega) (by omega) (by omega) (by omega) fun i j hi hj C0 wd io oo=>?_⟩
 have:=ho i j hi hj C0 wd io oo
 have e:fV w (fun k=>DR A k j)=ak w fun k=>oO k j:=congrArg (ak w) (funext fun k=>IJ k j);rw[e]at this;exact this
end
open Go Go.Eng
open Go.Tw (El ax TG)
theorem NN {no s a0 v0:Nat}{fo:Nat→Nat→C}{cs:List Int}
  (cm:Pr prog 5 [.agg [.rows 5 no fo,.ints .u8 cs,.int .u8 s],.one (.int .i64 24)] (.aA [.one .nil,.one (.bool false)])):
  Pr prog 3 [.agg [.rows 5 no fo,.ints .u8 cs,.int .u8 s],.one (.int .u8 a0),.one (.int .u8 v0)] (.one (.bool true)):=by
 refine pw func3 ⟨[0,1,2,3,6,7,8,9,10,13,15,17,19,21,23,35,39,112],[(10,(.cons 21 [0,1,22] (.cons 23 [] .nil .nil) .nil)),(13,.nil),(16,.nil)]⟩ ?_;simp only[Tryz.f3,ntmps3,iz,seval];simp only[vx,T,seval];refine Cg xY ?_;simp only[vx,T,seval];refine Cg cm ?_;simp only[vx,T,seval];exact Ve rfl
theorem KH {no s r a0 v0:Nat}{c:Nat→Nat}{m:Nat→Nat→Nb}{fo:Nat→Nat→C}{cs:List Int}
  (cm:Pr prog 5 [.agg [.rows 5 no fo,.ints .u8 cs,.int .u8 s],.one (.int .i64 24)] (.aA [.one (aq r c m),.one (.bool false)])):
  Pr prog 3 [.agg [.rows 5 no fo,.ints .u8 cs,.int .u8 s],.one (.int .u8 a0),.one (.int .u8 v0)] (.one (.bool true)):=by
 refine pw func3 ⟨[0,1,2,3,6,7,8,9,10,13,15,17,19,21,23,35,39,112],[(10,(.cons 21 [0,1,22] (.cons 23 [] .nil .nil) .nil)),(13,.nil),(16,.nil)]⟩ ?_;simp only[Tryz.f3,ntmps3,iz,seval];simp only[vx,T,seval];refine Cg xY ?_;simp only[vx,T,seval];refine Cg cm ?_;simp only[vx,T,seval,aq];exact Ve rfl
theorem cC {A:List R}{t k z c:Nat}(M:Nat→Nat→Nu A){i:Nat}(e:i=t):dr (.rows 2 (k+z) fun i j=>if 0+i<k then bu (M t (0+i)).x j else bu (oT (List.replicate z 0) (0+i-k)) j) (ak (cI t (k+z) c i) fun j=>(mI t k M i j).x):=
 dr.rows (if_pos e).symm fun a b ha _=>.of_eq (by
  show _=bu (mI t k M i a).x b;unfold mI;rw[Nat.zero_add,if_pos e]
  by_cases h:a<k
  ·rw[if_pos h,if_pos h]
  rw[if_neg h,if_neg h];show bu (rV ((List.replicate z (0:Int)).getD (a-k) 0)) b=bu (rV 0) b
  congr 2
  rw[X7,List.getElem?_replicate,if_pos (by omega)];rfl)
theorem cH {A:List R}{t k z c:Nat}(M:Nat→Nat→Nu A){i:Nat}(e:¬i=t):dr (.rows 2 c fun j=>bu (M i j).x) (.rows 2 (cI t (k+z) c i) fun j=>bu (mI t k M i j).x):=
 dr.rows (if_neg e).symm fun a b _ _=>.of_eq (by
  show _=bu (mI t k M i a).x b;unfold mI;rw[if_neg e])
theorem Lr {A:List R}(S:Go.Tw.Src 64 A)(hA:A.length≤3){no s a0 v0:Nat}{fo:Nat→Nat→C}{cs:List Int}{r c:Nat}(M:Nat→Nat→Nu A)(hc1:r≠0→1≤c)(hrc:r*c≤24)(hr:r≤24)(hc:c≤12)(hw:∀i j,i<r→j<c→(M i j).w≤1)(ha0:a0<256)(hv0:v0<256)
  (cm:Pr prog 5 [.agg [.rows 5 no fo,.ints .u8 cs,.int .u8 s],.one (.int .i64 24)] (.aA [.one (bm r (fun _=>c) M),.one (.bool true)])):
  Pr prog 3 [.agg [.rows 5 no fo,.ints .u8 cs,.int .u8 s],.one (.int .u8 a0),.one (.int .u8 v0)] (.one (.bool true)):=by
 have cp:=CI (fun _=>c) (fun i j=>(M i j).x) (by omega:r<2^38) fun _ _=>by omega
 have cv:=jx (r:=r) (fun _=>c) (fun i j=>(M i j).x) (by omega) (b:=true) (by simp);have wa:IntKind.i64.wrap (a0:Int)=(a0:Int):=IntWalk.i64_in _ (by omega);have wv:IntKind.i64.wrap (v0:Int)=(v0:Int):=IntWalk.i64_in _ (by omega);have wc:IntKind.i64.wrap ((c:Int)+1)=((c+1:Nat):Int):=by rw[IntWalk.i64_in _ (by omega)];omega
 have wt:(a0:Int).tmod (r:Int)=((a0%r:Nat):Int):=rfl;have wk:(v0:Int).tmod ((c+1:Nat):Int)=((v0% (c+1):Nat):Int):=rfl;have wz:(v0:Int).tmod 3=((v0%3:Nat):Int):=rfl;have hz:=Nat.mod_lt v0 (show 0<3 by decide);have hk:=Nat.mod_lt v0 (show 0<c+1 by omega);have zs:∀n,n<30→Pr prog 8 [.one (.ints .i64 (List.replicate n 0))] (.one (ak n (oT (List.replicate n 0)))):=fun n hn=>by
  have:=iH (List.replicate n 0) (by simp;omega) (fun i hi=>by simp[X7,List.getElem?_replicate];split<;>decide)
  rw[List.length_replicate]at this;exact this
 have ci:=zs (v0%3) (by omega);have cr:=zs r (by omega);have cid:∀n:Nat,n<30→Pr prog 15 [.one (.int .i64 n)] (.one (aq n (fun _=>n) fun i j=>oO i j)):=fun n hn=>Af (fun i j=>oO i j) (by omega) fun i _=>(IU (n:=n) i (by omega)).rows;have vl:∀{t k z:Nat} {F:Nat→Nat→C},(∀i,i<r→dr (F i 0) (ak (cI t (k+z) c i) (fun j=>(mI t k M i j).x)))→uP [.one (.rows 1 r F)] [.one (aq r (cI t (k+z) c) (fun i j=>(mI t k M i j).x))]:=fun h=>
  ⟨.cell (dr.rows rfl fun i j hi hj=>(show j=0 by omega)▸h i hi),trivial⟩
 refine pw func3 ⟨[0,1,2,3,6,7,8,9,10,13,15,17,19,21,23,35,39,112],[(10,(.cons 21 [0,1,22] (.cons 23 [] .nil .nil) .nil)),(13,.nil),(16,.nil)]⟩ ?_;simp only[Tryz.f3,ntmps3,iz,seval];simp only[vx,T,seval];refine Cg xY ?_;simp only[vx,T,seval];refine Cg cm ?_;simp only[vx,T,seval,bm,aq,ak];refine⟨fun g0=>Lg ?_,fun g0=>Lg ?_⟩
 ·simp only[vx,T,seval,bm,aq,ak];exact Ve rfl
 have hr2:2≤r:=by omega
 have ht:=Nat.mod_lt a0 (show 0<r by omega);have cw:=Gh (t:=a0%r) (fun _=>c) (fun i j=>(M i j).x) ht (by omega:r<2^38) fun _ _=>by omega
 generalize a0%r=t at ht cw wt
 generalize v0% (c+1)=k at hk wk
 generalize v0%3=z at hz wz ci
 simp only[vx,T,seval,bm,aq,ak];refine Cg cp ?_;simp only[vx,T,seval,bm,aq,ak];refine Cg cv ?_;simp only[vx,T,seval,bm,aq,ak];refine cF.Hq cw ?_;simp only[vx,T,seval,bm,aq,ak,wa,wt,wv,wc,wk,wz,F0,Int.toNat_natCast]
 (repeat refine⟨by omega,?_⟩)
 refine Cg ci ?_;simp only[vx,T,seval,ak,wa,wt,wv,wc,wk,wz,F0,Int.toNat_natCast,List.length_replicate]
 (repeat refine⟨by omega,?_⟩)
 have cpy:=CI (r:=r) (cI t (k+z) c) (fun i j=>(mI t k M i j).x) (by omega) fun i _=>by unfold cI;split<;>omega
 have e0:((0:Nat)=t)=True∨((0:Nat)=t)=False:=by
  by_cases h:0=t
  ·exact .inl (eq_true h)
  exact .inr (eq_false h)
 have e1:qe (fun _=>c) (fun i j=>(M i j).x) t 25 0=if 0=t then .own 25 2 0 c else ak c (fun j=>(M 0 j).x):=rfl
 by_cases hL:k+z=c
 ·have hcI:cI t (k+z) c=fun _=>c:=funext fun i=>by unfold cI;split<;>omega
  have cvr:=yL (r:=r) (cI t (k+z) c) (fun i j=>(mI t k M i j).x) (by omega) (b:=true) (by rw[hcI];simp);have cvm:=jx (r:=r) (cI t (k+z) c) (fun i j=>(mI t k M i j).x) (by omega) (b:=true) (by rw[hcI];simp);obtain⟨⟨X1,p1,c1⟩,⟨X2,c2⟩,⟨n3,X3,c3⟩,⟨p4,c4⟩,⟨X5,c5⟩⟩:=Nx S hA (mI t k M) (r:=r) (w:=c) (by omega) (hc1 (by omega)) hrc hr hc fun i j hi hj=>PR ht (by omega) hw hi hj;have cidk:Pr prog 15 [.one (.int .i64 ((k+z:Nat):Int))] (.one (aq c (fun _=>c) fun i j=>oO i j)):=by rw[hL];exact cid c (by omega)
  have hc2:=hc1 (by omega);rw[hcI]at cpy cvr cvm
  replace vl:=fun{F:Nat→Nat→C} (h:∀i,i<r→dr (F i 0) (ak (cI t (k+z) c i) (fun j=>(mI t k M i j).x)))=>vl (t:=t) (k:=k) (z:=z) h
  simp only[hcI]at vl;refine Cg (Pr.args cvr (vl fun i hi=>?_)) ?_
  ·by_cases e:i=t
   ·simp only[if_pos e,seval];have q:=cC (k:=k) (z:=z) (c:=c) M e;rw[hcI]at q;exact q
   have e2:qe (fun _=>c) (fun i j=>(M i j).x) t 25 i=ak c (fun j=>(M i j).x):=if_neg e;simp only[if_neg e,e2,ak];have q:=cH (k:=k) (z:=z) (c:=c) M e;rw[hcI]at q;exact q
  simp only[vx,T,seval,bm,aq,fV,ak,Int.toNat_natCast];refine Cg (Pr.args cpy (vl fun i hi=>?_)) ?_
  ·by_cases e:i=t
   ·simp only[if_pos e,seval];have q:=cC (k:=k) (z:=z) (c:=c) M e;rw[hcI]at q;exact q
   have e2:qe (fun _=>c) (fun i j=>(M i j).x) t 25 i=ak c (fun j=>(M i j).x):=if_neg e;simp only[if_neg e,e2,ak];have q:=cH (k:=k) (z:=z) (c:=c) M e;rw[hcI]at q;exact q
  simp only[vx,T,seval,bm,aq,fV,ak,Int.toNat_natCast];refine Cg c1 ?_;simp only[vx,T,seval,bm,aq,fV,ak,Int.toNat_natCast];refine Cg (Pr.args cpy (vl fun i hi=>?_)) ?_
  ·by_cases e:i=t
   ·simp only[if_pos e,seval];have q:=cC (k:=k) (z:=z) (c:=c) M e;rw[hcI]at q;exact q
   have e2:qe (fun _=>c) (fun i j=>(M i j).x) t 25 i=ak c (fun j=>(M i j).x):=if_neg e;simp only[if_neg e,e2,ak];have q:=cH (k:=k) (z:=z) (c:=c) M e;rw[hcI]at q;exact q
  simp only[vx,T,seval,bm,aq,fV,ak,Int.toNat_natCast]
  (repeat refine⟨by omega,?_⟩)
  refine Cg cr ?_;simp only[vx,T,seval,bm,aq,fV,ak,Int.toNat_natCast];refine Cg c2 ?_;simp only[vx,T,seval,bm,aq,fV,ak,Int.toNat_natCast];refine Cg (Pr.args cpy (vl fun i hi=>?_)) ?_
  ·by_cases e:i=t
   ·simp only[if_pos e,seval];have q:=cC (k:=k) (z:=z) (c:=c) M e;rw[hcI]at q;exact q
   have e2:qe (fun _=>c) (fun i j=>(M i j).x) t 25 i=ak c (fun j=>(M i j).x):=if_neg e;simp only[if_neg e,e2,ak];have q:=cH (k:=k) (z:=z) (c:=c) M e;rw[hcI]at q;exact q
  simp only[vx,T,seval,bm,aq,fV,ak,Int.toNat_natCast];refine Cg c3 ?_;simp only[vx,T,seval,bm,aq,fV,ak,Int.toNat_natCast];refine Cg (Pr.args cpy (vl fun i hi=>?_)) ?_
  ·by_cases e:i=t
   ·simp only[if_pos e,seval];have q:=cC (k:=k) (z:=z) (c:=c) M e;rw[hcI]at q;exact q
   have e2:qe (fun _=>c) (fun i j=>(M i j).x) t 25 i=ak c (fun j=>(M i j).x):=if_neg e;simp only[if_neg e,e2,ak];have q:=cH (k:=k) (z:=z) (c:=c) M e;rw[hcI]at q;exact q
  simp only[vx,T,seval,bm,aq,fV,ak,Int.toNat_natCast];refine Cg c4 ?_;simp only[vx,T,seval,bm,aq,fV,ak,Int.toNat_natCast];refine Cg (Pr.args cpy (vl fun i hi=>?_)) ?_
  ·by_cases e:i=t
   ·simp only[if_pos e,seval];have q:=cC (k:=k) (z:=z) (c:=c) M e;rw[hcI]at q;exact q
   have e2:qe (fun _=>c) (fun i j=>(M i j).x) t 25 i=ak c (fun j=>(M i j).x):=if_neg e;simp only[if_neg e,e2,ak];have q:=cH (k:=k) (z:=z) (c:=c) M e;rw[hcI]at q;exact q
  simp only[vx,T,seval,bm,aq,fV,ak,Int.toNat_natCast];refine⟨by omega,?_⟩
  rcases e0 with e0|e0
  ·simp only[vx,T,seval,bm,aq,fV,ak,Int.toNat_natCast,e0,e1];refine Cg cidk ?_;simp only[vx,T,seval,bm,aq,fV,ak,Int.toNat_natCast,e0,e1];refine Cg c5 ?_;simp only[vx,T,seval,bm,aq,fV,ak,Int.toNat_natCast,e0,e1];refine Cg (Pr.args cvm (vl fun i hi=>?_)) ?_
   ·by_cases e:i=t
    ·simp only[if_pos e,seval];have q:=cC (k:=k) (z:=z) (c:=c) M e;rw[hcI]at q;exact q
    have e2:qe (fun _=>c) (fun i j=>(M i j).x) t 25 i=ak c (fun j=>(M i j).x):=if_neg e;simp only[if_neg e,e2,ak];have q:=cH (k:=k) (z:=z) (c:=c) M e;rw[hcI]at q;exact q
   simp only[vx,T,seval,bm,aq,fV,ak,Int.toNat_natCast,e0,e1];refine⟨by omega,fun h=>Lg ?_,fun h=>absurd h (by omega)⟩;simp only[vx,T,seval,bm,aq,fV,ak,Int.toNat_natCast,e0,e1];exact Ve rfl
  simp only[vx,T,seval,bm,aq,fV,ak,Int.toNat_natCast,e0,e1];refine Cg (cid c (by omega)) ?_;simp only[vx,T,seval,bm,aq,fV,ak,Int.toNat_natCast,e0,e1];refine Cg c5 ?_;simp only[vx,T,seval,bm,aq,fV,ak,Int.toNat_natCast,e0,e1];refine Cg (Pr.args cvm (vl fun i hi=>?_)) ?_
  ·by_cases e:i=t
   ·simp only[if_pos e,seval];have q:=cC (k:=k) (z:=z) (c:=c) M e;rw[hcI]at q;exact q
   have e2:qe (fun _=>c) (fun i j=>(M i j).x) t 25 i=ak c (fun j=>(M i j).x):=if_neg e;simp only[if_neg e,e2,ak];have q:=cH (k:=k) (z:=z) (c:=c) M e;rw[hcI]at q;exact q
  simp only[vx,T,seval,bm,aq,fV,ak,Int.toNat_natCast,e0,e1];refine⟨by omega,fun h=>Lg ?_,fun h=>absurd h (by omega)⟩;simp only[vx,T,seval,bm,aq,fV,ak,Int.toNat_natCast,e0,e1];exact Ve rfl
 have hne:¬∀i,i<r→cI t (k+z) c i=cI t (k+z) c 0:=fun h=>by
  have h1:=h t ht
  by_cases h2:t=0
  ·have h3:=h 1 (by omega);unfold cI at h3;rw[if_neg (by omega),if_pos h2.symm]at h3;omega
  unfold cI at h1;rw[if_pos rfl,if_neg (by omega)]at h1;omega
 have cvr:=yL (r:=r) (cI t (k+z) c) (fun i j=>(mI t k M i j).x) (by omega) (b:=false) ⟨fun e=>(by cases e),fun h=>absurd h hne⟩;have cvm:=kR (r:=r) (c:=cI t (k+z) c) (fun i j=>(mI t k M i j).x) (by omega) hne;have c1:=Im (r:=r) (c:=cI t (k+z) c) (fun i j=>(mI t k M i j).x) (by omega) hne;have c2:=I4 (r:=r) (c:=cI t (k+z) c) (fun i j=>(mI t k M i j).x) (by omega) hne (n:=r) (oT (List.replicate r 0));have c3:=IA (r:=r) (c:=cI t (k+z) c) (fun i j=>(mI t k M i j).x) (by omega) hne;have c4:=ML (r:=r) (c:=cI t (k+z) c) (fun i j=>(mI t k M i j).x) (by omega) hne;have c5:=fun n=>Ow (r:=r) (c:=cI t (k+z) c) (fun i j=>(mI t k M i j).x) (by omega) hne (n:=n) (d:=fun _=>n) (fun i j=>oO i j);have c6:=zA (r:=r) (c:=cI t (k+z) c) (fun i j=>(mI t k M i j).x) (by omega) hne;refine Cg (Pr.args cvr (vl fun i hi=>?_)) ?_
 ·by_cases e:i=t
  ·simp only[if_pos e,seval];exact cC M e
  have e2:qe (fun _=>c) (fun i j=>(M i j).x) t 25 i=ak c (fun j=>(M i j).x):=if_neg e;simp only[if_neg e,e2,ak];exact cH M e
 simp only[vx,T,seval,bm,aq,fV,ak,Int.toNat_natCast];refine Cg (Pr.args cpy (vl fun i hi=>?_)) ?_
 ·by_cases e:i=t
  ·simp only[if_pos e,seval];exact cC M e
  have e2:qe (fun _=>c) (fun i j=>(M i j).x) t 25 i=ak c (fun j=>(M i j).x):=if_neg e;simp only[if_neg e,e2,ak];exact cH M e
 simp only[vx,T,seval,bm,aq,fV,ak,Int.toNat_natCast];refine Cg c1 ?_;simp only[vx,T,seval,bm,aq,fV,ak,Int.toNat_natCast];refine Cg (Pr.args cpy (vl fun i hi=>?_)) ?_
 ·by_cases e:i=t
  ·simp only[if_pos e,seval];exact cC M e
  have e2:qe (fun _=>c) (fun i j=>(M i j).x) t 25 i=ak c (fun j=>(M i j).x):=if_neg e;simp only[if_neg e,e2,ak];exact cH M e
 simp only[vx,T,seval,bm,aq,fV,ak,Int.toNat_natCast]
 (repeat refine⟨by omega,?_⟩)
 refine Cg cr ?_;simp only[vx,T,seval,bm,aq,fV,ak,Int.toNat_natCast];refine Cg c2 ?_;simp only[vx,T,seval,bm,aq,fV,ak,Int.toNat_natCast];refine Cg (Pr.args cpy (vl fun i hi=>?_)) ?_
 ·by_cases e:i=t
  ·simp only[if_pos e,seval];exact cC M e
  have e2:qe (fun _=>c) (fun i j=>(M i j).x) t 25 i=ak c (fun j=>(M i j).x):=if_neg e;simp only[if_neg e,e2,ak];exact cH M e
 simp only[vx,T,seval,bm,aq,fV,ak,Int.toNat_natCast];refine Cg c3 ?_;simp only[vx,T,seval,bm,aq,fV,ak,Int.toNat_natCast];refine Cg (Pr.args cpy (vl fun i hi=>?_)) ?_
 ·by_cases e:i=t
  ·simp only[if_pos e,seval];exact cC M e
  have e2:qe (fun _=>c) (fun i j=>(M i j).x) t 25 i=ak c (fun j=>(M i j).x):=if_neg e;simp only[if_neg e,e2,ak];exact cH M e
 simp only[vx,T,seval,bm,aq,fV,ak,Int.toNat_natCast];refine Cg c4 ?_;simp only[vx,T,seval,bm,aq,fV,ak,Int.toNat_natCast];refine Cg (Pr.args cpy (vl fun i hi=>?_)) ?_
 ·by_cases e:i=t
  ·simp only[if_pos e,seval];exact cC M e
  have e2:qe (fun _=>c) (fun i j=>(M i j).x) t 25 i=ak c (fun j=>(M i j).x):=if_neg e;simp only[if_neg e,e2,ak];exact cH M e
 simp only[vx,T,seval,bm,aq,fV,ak,Int.toNat_natCast];refine⟨by omega,?_⟩
 rcases e0 with e0|e0
 ·simp only[vx,T,seval,bm,aq,fV,ak,Int.toNat_natCast,e0,e1];refine Cg (cid (k+z) (by omega)) ?_;simp only[vx,T,seval,bm,aq,fV,ak,Int.toNat_natCast,e0,e1];refine Cg (c5 _) ?_;simp only[vx,T,seval,bm,aq,fV,ak,Int.toNat_natCast,e0,e1];refine Cg (Pr.args cvm (vl fun i hi=>?_)) ?_
  ·by_cases e:i=t
   ·simp only[if_pos e,seval];exact cC M e
   have e2:qe (fun _=>c) (fun i j=>(M i j).x) t 25 i=ak c (fun j=>(M i j).x):=if_neg e;simp only[if_neg e,e2,ak];exact cH M e
  simp only[vx,T,seval,bm,aq,fV,ak,Int.toNat_natCast,e0,e1];refine Cg (Pr.args c6 (vl fun i hi=>?_)) ?_
  ·by_cases e:i=t
   ·simp only[if_pos e,seval];exact cC M e
   have e2:qe (fun _=>c) (fun i j=>(M i j).x) t 25 i=ak c (fun j=>(M i j).x):=if_neg e;simp only[if_neg e,e2,ak];exact cH M e
  simp only[vx,T,seval,bm,aq,fV,ak,Int.toNat_natCast,e0,e1];exact Ve rfl
 simp only[vx,T,seval,bm,aq,fV,ak,Int.toNat_natCast,e0,e1];refine Cg (cid c (by omega)) ?_;simp only[vx,T,seval,bm,aq,fV,ak,Int.toNat_natCast,e0,e1];refine Cg (c5 _) ?_;simp only[vx,T,seval,bm,aq,fV,ak,Int.toNat_natCast,e0,e1];refine Cg (Pr.args cvm (vl fun i hi=>?_)) ?_
 ·by_cases e:i=t
  ·simp only[if_pos e,seval];exact cC M e
  have e2:qe (fun _=>c) (fun i j=>(M i j).x) t 25 i=ak c (fun j=>(M i j).x):=if_neg e;simp only[if_neg e,e2,ak];exact cH M e
 simp only[vx,T,seval,bm,aq,fV,ak,Int.toNat_natCast,e0,e1];refine Cg (Pr.args c6 (vl fun i hi=>?_)) ?_
 ·by_cases e:i=t
  ·simp only[if_pos e,seval];exact cC M e
  have e2:qe (fun _=>c) (fun i j=>(M i j).x) t 25 i=ak c (fun j=>(M i j).x):=if_neg e;simp only[if_neg e,e2,ak];exact cH M e
 simp only[vx,T,seval,bm,aq,fV,ak,Int.toNat_natCast,e0,e1];exact Ve rfl
end Go.Proofs.YtgcmkdgpaibpeaaGreat
/-
  THE ENGINE, PART OP: what comes in, read as data, as the engine's cells.
-/
namespace Go.Eng
open Go Go.ChangeShapes Go.WideShapes Go.Deep
def po (P:Program):Nat→List Field→Nat→Bool
 |off,[],tot=>off==tot
 |off,f::r,tot=>f.offset==off&&po P (off+P.cellsOf f.type) r tot
def pa (P:Program)(S:List TypeId):Bool:=S.all fun t=>
 match P.underlying t with
 |some .bool=>true
 |some (.int _)=>true
 |some .string=>true
 |some (.slice e)=>decide (0<P.cellsOf e)&&S.contains e&&(match P.underlying e with|some (.int _)=>P.cellsOf e==1|_=>true)
 |some (.struct fs)=>po P 0 fs.toList (P.cellsOf t)&&fs.toList.all fun f=>S.contains f.type
 |some (.array n e)=>S.contains e&&P.cellsOf t==n*P.cellsOf e
 |_=>false
def OS (R:TypeId→List C→Prop):List Field→List C→Prop
 |[],cs=>cs=[]
 |f::r,cs=>∃c1 c2,cs=c1++c2∧R f.type c1∧OS R r c2
def oh (P:Program)(B:Nat):Nat→TypeId→List C→Prop
 |0,_,_=>False
 |n+1,t,cs=>
  match P.underlying t with
  |some .bool=>∃b,cs=[.bool b]
  |some (.int k)=>∃x,cs=[.int k x]∧k.min≤x∧x≤k.max
  |some .string=>∃s:ByteArray,cs=[.str s]∧s.size≤B
  |some (.slice e)=>
   match P.underlying e with
   |some (.int k)=>∃xs:List Int,cs=[.ints k xs]∧xs.length≤B∧∀x∈xs,k.min≤x∧x≤k.max
   |_=>∃m f,cs=[.rows (P.cellsOf e) m f]∧m≤B∧∀i,i<m→oh P B n e ((List.range (P.cellsOf e)).map (f i))
  |some (.struct fs)=>OS (oh P B n) fs.toList cs
  |some (.array m e)=>∃l:List (List C),cs=l.flatten∧l.length=m∧∀c∈l,oh P B n e c
  |_=>False
theorem oh.mono {P:Program}{B B':Nat}(hB:B≤B'):∀{n:Nat} {t:TypeId} {cs:List C},oh P B n t cs→oh P B' n t cs:=by
 intro n
 induction n with
 |zero=>intro t cs h;exact h
 |succ n ih=>
  intro t cs h;have hf:∀(fs:List Field) (cs:List C),OS (oh P B n) fs cs→OS (oh P B' n) fs cs:=by
   intro fs
   induction fs with
   |nil=>intro cs h;exact h
   |cons f r ihf=>
    rintro cs ⟨c1,c2,rfl,h1,h2⟩;exact⟨c1,c2,rfl,ih h1,ihf c2 h2⟩
  simp only[oh]at h⊢
  split at h
  ·exact h
  ·exact h
  ·obtain⟨s,h1,h2⟩:=h;exact⟨s,h1,Nat.le_trans h2 hB⟩
  ·split at h
   ·obtain⟨xs,h1,h2,h3⟩:=h;exact⟨xs,h1,Nat.le_trans h2 hB,h3⟩
   obtain⟨m,f,h1,h2,h3⟩:=h;exact⟨m,f,h1,Nat.le_trans h2 hB,fun i hi=>ih (h3 i hi)⟩
  ·exact hf _ _ h
  ·obtain⟨l,h1,h2,h3⟩:=h;exact⟨l,h1,h2,fun c hc=>ih (h3 c hc)⟩
  exact h
structure MN {H:Type} (bulk:DataW H→Nat):Prop where
 str:∀s:List UInt8,s.length≤bulk (.lit (.string s))
 sl:∀el sp,el.length≤bulk (.slice el sp)∧∀d∈el,bulk d≤bulk (.slice el sp)
 agg:∀ps d,d∈ps→bulk d≤bulk (.agg ps)
def Oj {H:Type}(bulk:DataW H→Nat)(B:Nat)(d:DataW H):Prop:=maxLen≤B∨(MN bulk∧bulk d≤B)
def gr (ok:Nat→Prop)(w:World):List C→List Value→Prop
 |[],[]=>True
 |c::cs,v::vs=>aP ok w c v∧gr ok w cs vs
 |_,_=>False
theorem gr.append {ok:Nat→Prop}{w:World}:∀{a b:List C} {x y:List Value},gr ok w a x→gr ok w b y→gr ok w (a++b) (x++y)
 |[],_,[],_,_,h=>h
 |_::_,_,_::_,_,h1,h2=>⟨h1.1,gr.append h1.2 h2⟩
 |[],_,_::_,_,h,_=>h.elim
 |_::_,_,[],_,h,_=>h.elim
theorem gr.length {ok:Nat→Prop}{w:World}:∀{a:List C} {x:List Value},gr ok w a x→a.length=x.length
 |[],[],_=>rfl
 |_::_,_::_,h=>by simp[gr.length h.2]
 |[],_::_,h=>h.elim
 |_::_,[],h=>h.elim
theorem gr.get {ok:Nat→Prop}{w:World}:∀{a:List C} {x:List Value},gr ok w a x→∀j,j<a.length→∃u,x[j]? =some u∧aP ok w (a.getD j .any) u
 |_::_,u::_,h,0,_=>⟨u,rfl,h.1⟩
 |_::_,_::_,h,j+1,hj=>by simpa using gr.get h.2 j (by simpa using hj)
 |[],[],_,j,hj=>absurd hj (by simp)
 |[],_::_,h,_,_=>h.elim
 |_::_,[],h,_,_=>h.elim
theorem gr.Pk {ok:Nat→Prop}{w:World}:∀{a:List C} {x:List Value},gr ok w a x→bH bg bn ok w a x
 |[],[],_=>trivial
 |_::_,_::_,h=>⟨aB.ba h.1,gr.Pk h.2⟩
 |[],_::_,h=>h.elim
 |_::_,[],h=>h.elim
theorem Kl {w:World}{a:Addr}{v:Value}(h:w.cell? a=some v):a.block<w.heap.size∧a.spot=none:=by
 unfold World.cell? at h
 split at h
 ·rename_i c _ _ hb
  refine⟨(Array.getElem?_eq_some_iff.1 hb).1,?_⟩
  split at h
  ·cases h
  rename_i hs
  cases hsp:a.spot with
  |none=>rfl
  |some x=>rw[hsp]at hs;simp at hs
 cases h
section
variable {H:Type}{bulk:DataW H→Nat}{B:Nat}{enc:TypeId×Value→H}{P:Program}{w:World}{base:Nat}{spare:Nat→Bool}{held:Bool}
theorem vA {S:List TypeId}(hS:pa P S=true):∀(fuel:Nat) (t:TypeId) (vs:List Value) (x:DataW H×List MemPlace),t∈S→DataW.trod enc P w base spare held fuel t vs=some x→Oj bulk B x.1→
  ∃cs,oh P B fuel t cs∧gr (fun g=>g<w.heap.size) w cs vs:=by
 intro fuel
 induction fuel with
 |zero=>intro t vs x _ h _;simp[DataW.trod]at h
 |succ fuel ih=>
  intro t vs x ht h hb;have hc:=List.all_eq_true.1 hS t ht;simp only[oh]
  cases hu:P.underlying t with
  |none=>rw[hu]at hc;simp at hc
  |some d=>
   rw[hu]at hc
   cases d with
   |bool=>
    obtain⟨b,rfl,_⟩:=DataW.trod_bool hu h;exact⟨[.bool b],⟨b,rfl⟩,rfl,trivial⟩
   |int k=>
    obtain⟨n,rfl,_,hw⟩:=DataW.trod_int hu h;simp only[Lit.wf,Bool.and_eq_true,decide_eq_true_eq]at hw;exact⟨[.int k n],⟨n,rfl,hw⟩,rfl,trivial⟩
   |string=>
    obtain⟨s,rfl,hx,hs⟩:=DataW.trod_string hu h;refine⟨[.str s],⟨s,rfl,?_⟩,rfl,trivial⟩
    rcases hb with hb|⟨hb,hb2⟩
    ·omega
    have h1:=hb.str s.data.toList;rw[hx]at hb2;have hb2:bulk (.lit (.string s.data.toList))≤B:=hb2;have h2:s.data.toList.length=s.size:=Array.length_toList;omega
   |slice e=>
    simp only[Bool.and_eq_true,decide_eq_true_eq]at hc;obtain⟨⟨hpos,he⟩,hk⟩:=hc;have he:e∈S:=by simpa using he
    have hfit:(vs=[.slice none 0 0])∨∃(a:Addr) (len cap:Nat),vs=[.slice (some a) len cap]∧len≤cap∧len≤B∧
      ∀i,i<len→∃cs',w.cells? base (a.add (i*P.cellsOf e)) (P.cellsOf e)=some cs'∧∃y,DataW.trod enc P w base spare held fuel e cs'=some y∧Oj bulk B y.1:=by
     rcases DataW.trod_slice hu h with⟨rfl,_⟩|⟨a,len,cap,elems,rest,n,hn,rfl,hx,_,hl,hm,hlen,hel,_,_⟩
     ·exact .inl rfl
     have hlB:len≤B:=by
      rcases hb with hb|⟨hb,hb2⟩
      ·omega
      have h1:=(hb.sl (elems.map (·.1)) (rest.map (·.1))).1;rw[hx]at hb2;rw[List.length_map]at h1;have hb2:bulk (.slice (elems.map (·.1)) (rest.map (·.1)))≤B:=hb2;omega
     refine .inr ⟨a,len,cap,rfl,hl,hlB,fun i hi=>?_⟩;obtain rfl:fuel=n:=by omega
     have h1:=hel i hi;rw[X8 (by omega)]at h1
     cases hcs:w.cells? base (a.add (i*P.cellsOf e)) (P.cellsOf e)with
     |none=>rw[hcs]at h1;simp at h1
     |some cs'=>
      rw[hcs]at h1;refine⟨cs',rfl,_,h1,?_⟩
      rcases hb with hb|⟨hb,hb2⟩
      ·exact .inl hb
      refine .inr ⟨hb,?_⟩;have h2:=(hb.sl (elems.map (·.1)) (rest.map (·.1))).2 elems[i].1 (List.mem_map.2 ⟨elems[i],List.getElem_mem _,rfl⟩);rw[hx]at hb2;exact Nat.le_trans h2 hb2
    -- by rows
    have hrows:∃m f,m≤B∧(∀i,i<m→oh P B fuel e ((List.range (P.cellsOf e)).map (f i)))∧∃v,vs=[v]∧aP (fun g=>g<w.heap.size) w (.rows (P.cellsOf e) m f) v:=by
     rcases hfit with rfl|⟨a,len,cap,rfl,hl,hm,hel⟩
     ·exact⟨0,fun _ _=>.any,Nat.zero_le _,fun i hi=>absurd hi (Nat.not_lt_zero _),_,rfl,none,0,rfl,Nat.le_refl _,.inl rfl⟩
     have hex:∀i,i<len→∃cs,oh P B fuel e cs∧cs.length=P.cellsOf e∧∀j,j<P.cellsOf e→∃u,w.cell? ((a.add (i*P.cellsOf e)).add j)=some u∧aP (fun g=>g<w.heap.size) w (cs.getD j .any) u:=by
      intro i hi;obtain⟨cs',hcs',y,hy,hyb⟩:=hel i hi;obtain⟨_,hcl,hcell⟩:=World.cells?_some hcs';obtain⟨cs,hok,hrep⟩:=ih e cs' y he hy hyb;have hlen:cs.length=P.cellsOf e:=by rw[hrep.length,hcl]
      refine⟨cs,hok,hlen,fun j hj=>?_⟩;obtain⟨u,hu,hr⟩:=hrep.get j (by omega);exact⟨u,by rw[hcell j hj,hu],hr⟩
     obtain⟨g,hg⟩:=Classical.axiomOfChoice (r:=fun(i:Nat) (cs:List C)=>i<len→oh P B fuel e cs∧cs.length=P.cellsOf e∧∀j,j<P.cellsOf e→∃u,w.cell? ((a.add (i*P.cellsOf e)).add j)=some u∧aP (fun g=>g<w.heap.size) w (cs.getD j .any) u) (fun i=>by
      by_cases hi:i<len
      ·obtain⟨cs,h⟩:=hex i hi;exact⟨cs,fun _=>h⟩
      exact⟨[],fun h=>absurd h hi⟩)
     refine⟨len,fun i j=>(g i).getD j .any,hm,fun i hi=>?_,_,rfl,some a,cap,rfl,hl,?_⟩
     ·obtain⟨h1,h2,_⟩:=hg i hi;have e:(List.range (P.cellsOf e)).map (fun j=>(g i).getD j .any)=g i:=by
       refine List.ext_getElem (by simp[h2]) fun j hj1 hj2=>?_
       simp[X7,X8 hj2]
      rw[e];exact h1
     by_cases h0:len=0
     ·exact .inl h0
     right
     obtain⟨u,hu,_⟩:=(hg 0 (by omega)).2.2 0 hpos;rw[Nat.zero_mul]at hu;have ha0:(a.add 0).add 0=a:=by simp[Addr.add]
     rw[ha0]at hu;obtain⟨hlt,hsp⟩:=Kl hu;refine⟨a.block,a.off,?_,hlt,fun i j hi hj=>?_⟩
     ·obtain⟨b,o,s⟩:=a;simp only at hsp;subst hsp;rfl
     obtain⟨u,hu,hr⟩:=(hg i hi).2.2 j hj;refine⟨u,?_,hr⟩;rw[←hu]
     congr 1
     obtain⟨b,o,s⟩:=a;simp only at hsp;subst hsp;unfold Addr.add
     split<;>split<;>simp_all<;>omega
    simp only
    cases hue:P.underlying e with
    |none=>
     obtain⟨m,f,h1,h2,v,rfl,h3⟩:=hrows;exact⟨[.rows (P.cellsOf e) m f],⟨m,f,rfl,h1,h2⟩,h3,trivial⟩
    |some de=>
     cases de with
     |int k=>
      rw[hue]at hk;have hk:P.cellsOf e=1:=by simpa using hk
      obtain⟨m,f,h1,h2,v,rfl,a,cap,rfl,h4,h5⟩:=hrows;have h2':∀i,i<m→∃x,f i 0= .int k x∧k.min≤x∧x≤k.max:=by
       intro i hi
       have:=h2 i hi
       rw[hk]at this
       cases fuel with
       |zero=>exact this.elim
       |succ fuel=>
        simp only[oh,hue]at this;obtain⟨x,hx,hr⟩:=this;simp only[List.range_succ,List.range_zero,List.nil_append,List.map_cons,List.map_nil,List.cons.injEq,and_true]at hx;exact⟨x,hx,hr⟩
      obtain⟨g,hg⟩:=Classical.axiomOfChoice (r:=fun(i:Nat) (x:Int)=>i<m→f i 0= .int k x∧k.min≤x∧x≤k.max) (fun i=>by
       by_cases hi:i<m
       ·obtain⟨x,h⟩:=h2' i hi;exact⟨x,fun _=>h⟩
       exact⟨0,fun h=>absurd h hi⟩)
      have hlen:((List.range m).map g).length=m:=by simp
      refine⟨[.ints k ((List.range m).map g)],⟨_,rfl,by rw[hlen];exact h1,fun x hx=>?_⟩,⟨a,cap,by rw[hlen],by rw[hlen];exact h4,?_⟩,trivial⟩
      ·obtain⟨i,hi,rfl⟩:=List.mem_map.1 hx;exact(hg i (List.mem_range.1 hi)).2
      rw[hlen]
      rcases h5 with h5|⟨b,o,ha,hb,hcell⟩
      ·exact .inl h5
      refine .inr ⟨b,o,ha,hb,fun i hi=>?_⟩;obtain⟨u,hu,hr⟩:=hcell i 0 hi (by omega);rw[(hg i hi).1]at hr;have hr:u= .int k (g i):=hr;rw[hk,Nat.mul_one,Nat.add_zero]at hu;rw[hu,hr]
      simp[X7,hi]
     |_=>
      obtain⟨m,f,h1,h2,v,rfl,h3⟩:=hrows;exact⟨[.rows (P.cellsOf e) m f],⟨m,f,rfl,h1,h2⟩,h3,trivial⟩
   |struct fs=>
    simp only[Bool.and_eq_true]at hc;obtain⟨hcon,hmem⟩:=hc;obtain⟨xs,n,hn,hx,hcl,hxl,hf⟩:=DataW.trod_struct hu h;obtain rfl:fuel=n:=by omega
    have hall:∀f∈fs.toList,∃y,DataW.trod enc P w base spare held fuel f.type ((vs.drop f.offset).take (P.cellsOf f.type))=some y∧Oj bulk B y.1:=by
     intro f hfm;obtain⟨i,hi,rfl⟩:=List.mem_iff_getElem.1 hfm;have hi':i<fs.size:=by simpa using hi
     have h1:=hf i fs[i] (Array.getElem?_eq_getElem hi');rw[X8 (by omega)]at h1;refine⟨xs[i],by simpa using h1,?_⟩
     rcases hb with hb|⟨hb,hb2⟩
     ·exact .inl hb
     refine .inr ⟨hb,?_⟩;have h2:=hb.agg (xs.map (·.1)) xs[i].1 (List.mem_map.2 ⟨xs[i],List.getElem_mem _,rfl⟩);rw[hx]at hb2;exact Nat.le_trans h2 hb2
    have hmem:∀f∈fs.toList,f.type∈S:=fun f hf=>by simpa using List.all_eq_true.1 hmem f hf
    simp only
    -- field by field
    have key:∀(l:List Field) (off:Nat),(∀f∈l,∃y,DataW.trod enc P w base spare held fuel f.type ((vs.drop f.offset).take (P.cellsOf f.type))=some y∧Oj bulk B y.1)→(∀f∈l,f.type∈S)→po P off l vs.length=true→
      ∃cs,OS (oh P B fuel) l cs∧gr (fun g=>g<w.heap.size) w cs (vs.drop off):=by
     intro l
     induction l with
     |nil=>
      intro off _ _ hcf;simp only[po,beq_iff_eq]at hcf;exact⟨[],rfl,by rw[List.drop_eq_nil_of_le (by omega)];trivial⟩
     |cons f r ihl=>
      intro off hy hm hcf;simp only[po,Bool.and_eq_true,beq_iff_eq]at hcf;obtain⟨ho,hcf⟩:=hcf;obtain⟨y,hy1,hy2⟩:=hy f (by simp);obtain⟨c1,h1,h2⟩:=ih f.type _ y (hm f (by simp)) hy1 hy2;obtain⟨c2,h3,h4⟩:=ihl (off+P.cellsOf f.type) (fun g hg=>hy g (by simp[hg])) (fun g hg=>hm g (by simp[hg])) hcf;refine⟨c1++c2,⟨c1,c2,rfl,h1,h3⟩,?_⟩;have e:vs.drop off=(vs.drop f.offset).take (P.cellsOf f.type)++vs.drop (off+P.cellsOf f.type):=by
       rw[ho,←List.drop_drop,List.take_append_drop]
      rw[e];exact h2.append h4
    have:=key fs.toList 0 hall hmem (by rw[hcl];exact hcon)
    rwa [List.drop_zero]at this
   |array m e=>
    simp only[Bool.and_eq_true,beq_iff_eq]at hc;obtain⟨he,hsz⟩:=hc;have he:e∈S:=by simpa using he
    obtain⟨xs,n,hn,hx,hcl,hxl,hf⟩:=DataW.trod_array hu h;obtain rfl:fuel=n:=by omega
    simp only;have key:∀j,j≤m→∃l:List (List C),l.length=j∧(∀c∈l,oh P B fuel e c)∧gr (fun g=>g<w.heap.size) w l.flatten (vs.take (j*P.cellsOf e)):=by
     intro j
     induction j with
     |zero=>intro _;exact⟨[],rfl,fun c hc=>(by cases hc),by rw[Nat.zero_mul];trivial⟩
     |succ j ihj=>
      intro hj;obtain⟨l,h1,h2,h3⟩:=ihj (by omega);have h4:=hf j (by omega);rw[X8 (by omega)]at h4;obtain⟨c,h5,h6⟩:=ih e _ xs[j] he h4 (by
       rcases hb with hb|⟨hb,hb2⟩
       ·exact .inl hb
       refine .inr ⟨hb,?_⟩;have h2:=hb.agg (xs.map (·.1)) xs[j].1 (List.mem_map.2 ⟨xs[j],List.getElem_mem _,rfl⟩);rw[hx]at hb2;exact Nat.le_trans h2 hb2)
      refine⟨l++[c],by rw[X6,h1];rfl,fun x hx=>?_,?_⟩
      ·rcases List.mem_append.1 hx with hx|hx
       ·exact h2 x hx
       obtain rfl:=List.mem_singleton.1 hx;exact h5
      rw[List.flatten_append,Nat.add_mul,Nat.one_mul,List.take_add];refine h3.append ?_
      simpa using h6
    obtain⟨l,h1,h2,h3⟩:=key m (Nat.le_refl _);rw[←hsz,←hcl,List.take_length]at h3;exact⟨l.flatten,⟨l,rfl,h1,h2⟩,h3⟩
   |_=>simp at hc
theorem Em {S:List TypeId}(hS:pa P S=true){t:TypeId}(ht:t∈S){v:Value}{d:DataW H}{p:List MemPlace}(hv:v.oneCell'=true)(h:DataW.Trod enc P w base spare held t v d p)(hb:Oj bulk B d):
  ∃n c,oh P B n t [c]∧aP (fun g=>g<w.heap.size) w c v:=by
 obtain⟨fuel,hf⟩:=h;have hvc:v.cells.toList=[v]:=by
  cases v<;>first|rfl|(simp[Value.oneCell']at hv)
 rw[hvc]at hf;obtain⟨cs,h1,h2⟩:=vA hS fuel t _ _ ht hf hb
 match cs,h2 with
 |[c],h2=>exact⟨fuel,c,h1,h2.1⟩
theorem BP {S:List TypeId}(hS:pa P S=true){t:TypeId}(ht:t∈S){us:Array Value}{d:DataW H}{p:List MemPlace}(h:DataW.Trod enc P w base spare held t (.agg us) d p)(hb:Oj bulk B d):
  ∃n cs,oh P B n t cs∧dJ bg bn (fun g=>g<w.heap.size) w (.agg cs) (.agg us):=by
 obtain⟨fuel,hf⟩:=h;obtain⟨cs,h1,h2⟩:=vA hS fuel t _ _ ht hf hb;exact⟨fuel,cs,h1,us,rfl,h2.Pk⟩
theorem zC {S:List TypeId}(hS:pa P S=true){t:TypeId}(ht:t∈S){v:Value}{d:DataW H}{p:List MemPlace}(hv:v.oneCell'=true)(h:DataW.Trod enc P w base spare held t v d p):
  ∃n c,oh P maxLen n t [c]∧aP (fun g=>g<w.heap.size) w c v:=Em (bulk:=fun _=>0) hS ht hv h (.inl (Nat.le_refl _))
end
end Go.Eng
/-
  THE ENGINE, PART LW: a law: a function that answers true, and leaves its arguments as they were.
-/
namespace Go.Eng
open Go Go.ChangeShapes Go.WideShapes Go.RowKit
section
variable {H:Type}{enc:TypeId×Value→H}{P:Program}
theorem qF (hl:laidOutB P=true){t:TypeId}(hr:P.readableRec t=true)(hrow:t<P.types.size){W W':World}{v:Value}{d:DataW H}{ps:List MemPlace}(h:DataW.Trod enc P W 0 (fun _=>true) true t v d ps)
  (hb:Below W.heap.size W W') (hlt:∀x∈ps,x.block<W.heap.size):DataW.Trod enc P W' 0 (fun b=>decide (b<W.heap.size)) true t v d ps:=
 Below.trod hl hr hrow h hb hlt
theorem Hm {f:Func}{s:ChangeSpec}{W W':World}{args:Array Value}{ds:List (DataW H)}{before:List MemPlace}{tb:TypeId}
  (hW:DataW.Whole enc P f.params.toList s.vars false W args.toList ds [] before) (hv:s.vars=[]) (hrt:f.resultTypes= #[tb]) (htb:P.underlying tb=some .bool)
  (hres:(s.fn H (ds++[])).results=[.lit (.bool true)]) (hargs:DataW.TrodAll enc P W' 0 (fun b=>decide (b<W.heap.size)) true f.params.toList args.toList (s.fn H (ds++[])).args before)
  (hvs:(s.fn H (ds++[])).vars=[]) (hb:Below W.heap.size W W'):s.post enc P f false true false false W args (.bool true) W':=by
 refine⟨ds,[],before,[],before,[],hW,?_,hargs,?_,World.keptBut_mono (fun p hp=>⟨hp,.inr (.inl hp)⟩) (hb.frame (· ∈before)),fun h=>by cases h⟩
 ·rw[hres,hrt];exact trodAll_mk1 (shut_bool htb true)
 rw[hv,hvs];rfl
end
end Go.Eng
namespace Go.Proofs.YtgcmkdgpaibpeaaGreat
open Go.Proofs.Tryz
open Go Go.Eng
set_option maxRecDepth 100000 in
theorem wU:pa prog [26,23,97,24,5,95]=true:=by kernel_rfl
def Oe:List C→List C→Prop
 |[],[]=>True
 |a::x,b::y=>dr a b∧Oe x y
 |_,_=>False
theorem Oe.rep {ok:Nat→Prop}{w:World}:∀{a b:List C} {vs:List Value},Oe a b→bH bg bn ok w a vs→bH bg bn ok w b vs
 |[],[],_,_,h=>h
 |_::_,_::_,[],_,h=>h.elim
 |_::_,_::_,_::_,ha,h=>⟨aB.ba (ha.1 _ _ _ (aP.dX h.1)),Oe.rep ha.2 h.2⟩
 |[],_::_,_,ha,_=>ha.elim
 |_::_,[],_,ha,_=>ha.elim
theorem DO {a b:List C}(h:Oe a b):tQ (.agg a) (.agg b):=fun ok w v hr=>by
 obtain⟨vs,e,hl⟩:=hr;exact⟨vs,e,h.rep hl⟩
theorem oF {n:Nat}{cs:List C}(h:oh prog maxLen n 5 cs):∃x:Nat,cs=[.int .u8 x]∧x<256:=by
 cases n with
 |zero=>exact h.elim
 |succ n=>
  simp only[oh,Tryz.underlying5]at h;obtain⟨x,rfl,h1,h2⟩:=h;have e1:IntKind.u8.min=0:=rfl;have e2:IntKind.u8.max=255:=rfl;rw[e1]at h1;rw[e2]at h2;exact⟨x.toNat,by rw[Int.toNat_of_nonneg h1],by omega⟩
theorem NU {n:Nat}{cs:List C}(h:oh prog maxLen n 97 cs):∃o:A0,cs=(List.range 5).map (oC o)∧o.Ok:=by
 cases n with
 |zero=>exact h.elim
 |succ n=>
  simp only[oh,Tryz.underlying97]at h;obtain⟨c1,c2,rfl,h1,c3,c4,rfl,h2,c5,c6,rfl,h3,c7,c8,rfl,h4,c9,c10,rfl,h5,h6⟩:=h;have h6:c10=[]:=h6;subst h6;obtain⟨k,rfl,k1⟩:=oF h1;obtain⟨a,rfl,k2⟩:=oF h2;obtain⟨b,rfl,k3⟩:=oF h3;obtain⟨d,rfl,k5⟩:=oF h5
  cases n with
  |zero=>exact h4.elim
  |succ n=>
   simp only[oh,Tryz.underlying95]at h4;obtain⟨x,rfl,k4⟩:=h4;have e1:IntKind.i8.min= -128:=rfl;have e2:IntKind.i8.max=127:=rfl;rw[e1,e2]at k4;exact⟨⟨k,a,b,x,d⟩,rfl,k1,k2,k3,k4,k5⟩
set_option maxRecDepth 100000 in
theorem AB {n:Nat}{cs:List C}(h:oh prog maxLen n 23 cs):∃(c:C) (r:List A0),cs=[c]∧(∀o∈r,o.Ok)∧r.length<2^63∧dr c (F1 r):=by
 cases n with
 |zero=>exact h.elim
 |succ n=>
  simp only[oh,Tryz.underlying23,Tryz.underlying97]at h;obtain⟨m,f,hc,hm0,hm⟩:=h;have h5:prog.cellsOf 97=5:=by kernel_rfl
  rw[h5]at hc hm;subst hc;obtain⟨g,hg⟩:=Classical.axiomOfChoice (r:=fun(i:Nat) (a:A0)=>i<m→(List.range 5).map (f i)=(List.range 5).map (oC a)∧a.Ok) (fun i=>by
   by_cases hi:i<m
   ·obtain⟨a,h1,h2⟩:=NU (hm i hi);exact⟨a,fun _=>⟨h1,h2⟩⟩
   exact⟨default,fun h=>absurd h hi⟩)
  refine⟨_,(List.range m).map g,rfl,fun a ha=>?_,?_,dr.rows (by simp) fun i j hi hj=>dr.of_eq ?_⟩
  ·obtain⟨i,hi,rfl⟩:=List.mem_map.1 ha;exact(hg i (List.mem_range.1 hi)).2
  ·have:maxLen<2^63:=by decide
   simp only[List.length_map,List.length_range];omega
  have h1:=congrArg (fun l:List C=>l[j]?) (hg i hi).1;simp only[List.getElem?_map,List.getElem?_range hj,Option.map_some,Option.some.injEq]at h1;rw[h1]
  congr 1
  rw[X7,List.getElem?_map,List.getElem?_range hi];rfl
def Qm (l:List Int):Prop:=l.length<2^63∧∀i,i<l.length→0≤l.getD i 0∧l.getD i 0<256
theorem LF {n:Nat}{cs:List C}(h:oh prog maxLen n 24 cs):∃l:List Int,cs=[.ints .u8 l]∧Qm l:=by
 cases n with
 |zero=>exact h.elim
 |succ n=>
  simp only[oh,Tryz.underlying24,Tryz.underlying5]at h;obtain⟨l,rfl,h1,h2⟩:=h;have e1:IntKind.u8.min=0:=rfl;have e2:IntKind.u8.max=255:=rfl;rw[e1,e2]at h2
  have:maxLen<2^63:=by decide
  refine⟨l,rfl,by omega,fun i hi=>?_⟩
  have:=h2 (l.getD i 0) (by rw[X7,X8 hi];exact List.getElem_mem _)
  omega
set_option maxRecDepth 100000 in
theorem FO {n:Nat}{cells:List C}(h:oh prog maxLen n 26 cells):∃(r:List A0) (cs:List Int) (s:Nat),(∀o∈r,o.Ok)∧r.length<2^63∧Qm cs∧s<256∧Oe cells [F1 r,.ints .u8 cs,.int .u8 s]:=by
 cases n with
 |zero=>exact h.elim
 |succ n=>
  simp only[oh,Tryz.underlying26]at h;obtain⟨c1,r1,rfl,h1,c2,r2,rfl,h2,c3,r3,rfl,h3,h4⟩:=h;have h4:r3=[]:=h4;subst h4;obtain⟨c,r,rfl,hr,hl,hle⟩:=AB h1;obtain⟨cs,rfl,hc⟩:=LF h2;obtain⟨s,rfl,hs⟩:=oF h3;exact⟨r,cs,s,hr,hl,hc,hs,hle,.refl _,.refl _,trivial⟩
theorem C4 (s:Nat):1≤gB s∧gB s≤12:=by
 have:=Nat.mod_lt s (show 0<12 by decide)
 unfold gB;omega
theorem G6 {l most:Nat}(s:Nat)(h:l≤most):(l/gB s=0→A9 (l/gB s) (gB s)=0)∧l/gB s*A9 (l/gB s) (gB s)≤most∧l/gB s≤most∧A9 (l/gB s) (gB s)≤12:=by
 have hw:=C4 s;have h1:=Nat.div_mul_le_self l (gB s);have h2:=Nat.div_le_self l (gB s);unfold A9;refine⟨fun e=>if_pos e,?_,by omega,?_⟩
 ·split
  ·omega
  omega
 split<;>omega
theorem AN {n a0 v0:Nat}{cells:List C}(h:oh prog maxLen n 26 cells)(ha0:a0<256)(hv0:v0<256):Pr prog 3 [.agg cells,.one (.int .u8 a0),.one (.int .u8 v0)] (.one (.bool true)):=by
 obtain⟨r,cs,s,hr,hrl,⟨hl,hcs⟩,hs,hle⟩:=FO h;refine Pr.args (ys:=[.agg [F1 r,.ints .u8 cs,.int .u8 s],.one (.int .u8 a0),.one (.int .u8 v0)]) ?_ ⟨DO hle,.refl _,.refl _,trivial⟩;obtain⟨A,n,a,S,hA,hn,cb,ca,hf⟩:=OQ r hr hrl;have M:=fun{R:V} h1 h2=>Fe a (F1 r) cs s 24 (by omega) hs hcs hl (by decide) cb ca ⟨_,_,rfl⟩ (R:=R) h1 h2
 by_cases h1:24<cs.length
 ·exact NN (M (fun _=>rfl) (fun h=>absurd h1 (by omega)))
 by_cases h2:(Ep a n:Int)≤2
 ·obtain⟨f,hf⟩:=hf h2;obtain⟨d1,d2,d3,d4⟩:=G6 (l:=cs.length) (most:=24) s (by omega);have cm:=M (fun h=>absurd h h1) (fun _=>rfl);rw[decide_eq_true h2,show xd n a cs (gB s)=fun i j=>(f (cs.getD (i*gB s+j) 0).toNat).x from funext fun i=>funext fun j=>((hf _).1).symm]at cm;exact Lr S hA (fun i j=>f (cs.getD (i*gB s+j) 0).toNat) (fun e=>by unfold A9;rw[if_neg e];exact(C4 s).1) d2 d3 d4 (fun i j _ _=>Nat.le_of_eq (hf _).2) ha0 hv0 cm
 have cm:=M (fun h=>absurd h h1) (fun _=>rfl);rw[decide_eq_false h2]at cm;exact KH cm
end Go.Proofs.YtgcmkdgpaibpeaaGreat
/-
  MatrixInvalid: for every input the law returns true, and each argument reads afterwards as it read before. No condition beyond the given row's own cells.
-/
namespace Go.Proofs.YtgcmkdgpaibpeaaGreat
open Go.Proofs.Tryz
open Go Go.Proofs Go.Eng Go.ChangeShapes Go.WideShapes Go.ChangeAt Go.RowKit
theorem Tryz.own:ownKnob prog.godebug=none:=by kernel_rfl
theorem Tryz.laidOut:laidOutB prog=true:=by kernel_rfl
set_option maxRecDepth 100000 in
theorem mL (os:Os)(started:os.Started)(H:Type)(enc:TypeId×Value→H):
  ReturnsInHanded {} Tryz.checked os 3 .any (Rows.matrixInvalidSpec.pre6 enc prog Tryz.f3 Rows.matrixInvalidRow.domain false) (Rows.matrixInvalidSpec.post enc prog Tryz.f3 false true false false):=by
 refine returnsInHanded_of_change (C:=Tryz.checked) Tryz.own started (by kernel_rfl) func3
  (ChangeSpec.witness6 (enc:=enc) (C:=Tryz.checked) false ⟨#[],#[.agg #[.slice none 0 0,.slice none 0 0,.int .u8 0],.int .u8 0,.int .u8 0],[]⟩ 8 (by kernel_rfl) (by kernel_rfl) (by kernel_rfl) (by kernel_rfl)) ?_
 intro W base args ds gs before hval0 hW hcnd _;have hval:∀(j:Nat) t v,Tryz.f3.params[j]? =some t→args[j]? =some v→Value.okWide prog W .any base t v:=hval0;have hW':=hW;obtain⟨p,q,hA0,hV,rfl,hfz,hnd⟩:=hW;have hA:DataW.TrodAll enc prog W 0 (fun _=>true) true Tryz.f3.params.toList args.toList ds p:=hA0;rw[Tryz.params3]at hA hval;obtain⟨v0,v1,v2,d0,d1,d2,p0,p1,p2,rfl,rfl,rfl,h0,h1,h2⟩:=trodAll_three hA;obtain⟨rfl,rfl⟩:=trodVars_none hV;clear hA0 hval0;simp only[List.append_nil]at hW';have hlt:=fun x hx=>hW'.lt x hx;obtain⟨us,rfl,hsz⟩:=okWide_struct Tryz.underlying26 (hval 0 26 v0 rfl rfl);have s0:=fun W' hb=>qF (W':=W') Tryz.laidOut (by kernel_rfl) (of_decide_eq_true (by kernel_rfl)) h0 hb (fun x hx=>hlt x (List.mem_append_left _ (List.mem_append_left _ hx)));have s1:=fun W' hb=>qF (W':=W') Tryz.laidOut (by kernel_rfl) (of_decide_eq_true (by kernel_rfl)) h1 hb (fun x hx=>hlt x (List.mem_append_left _ (List.mem_append_right _ hx)));have s2:=fun W' hb=>qF (W':=W') Tryz.laidOut (by kernel_rfl) (of_decide_eq_true (by kernel_rfl)) h2 hb (fun x hx=>hlt x (List.mem_append_right _ hx));obtain⟨n0,cs0,hc0,hr0⟩:=BP (bulk:=fun _=>0) (B:=maxLen) wU (by decide) h0 (.inl (Nat.le_refl _));have o1:v1.oneCell'=true:=by obtain⟨_,rfl,_⟩:=open_int Tryz.underlying5 (hval 1 5 v1 rfl rfl) h1;rfl
 have o2:v2.oneCell'=true:=by obtain⟨_,rfl,_⟩:=open_int Tryz.underlying5 (hval 2 5 v2 rfl rfl) h2;rfl
 obtain⟨n1,c1,hc1,hr1⟩:=zC wU (by decide) o1 h1;obtain⟨n2,c2,hc2,hr2⟩:=zC wU (by decide) o2 h2;obtain⟨x1,e1,hx1⟩:=oF hc1;obtain⟨x2,e2,hx2⟩:=oF hc2;obtain rfl:c1= .int .u8 x1:=by simpa using e1
 obtain rfl:c2= .int .u8 x2:=by simpa using e2
 have hcon:=AN hc0 hx1 hx2;have hargs:a6 bg bn (fun g=>g<W.heap.size) W [.agg cs0,.one (.int .u8 x1),.one (.int .u8 x2)] [.agg us,v1,v2]:=⟨hr0,aB.ba (ρ:=bg) (dom:=bn) hr1,aB.ba (ρ:=bg) (dom:=bn) hr2,trivial⟩
 refine((hcon.2 (fun g=>g<W.heap.size) W #[.agg us,v1,v2] (fun _ h=>h) hargs).mono ?_)
 rintro e W' ⟨v,rfl,hB,hv⟩;have hv:v= .bool true:=hv;subst hv;exact⟨_,rfl,Hm hW' rfl rfl Tryz.underlying4 rfl (by rw[List.append_assoc p0 p1 p2];exact trodAll_mk3 (s0 W' hB) (s1 W' hB) (s2 W' hB)) rfl hB⟩
theorem matrixInvalid_holds:Rows.MatrixInvalidSaid:=
 OpenClaim.holds_of_wide 3 Tryz.f3 rfl rfl rfl rfl rfl rfl rfl ⟨rfl,rfl,rfl,rfl,rfl⟩ rfl rfl rfl rfl rfl (by kernel_rfl) func3 (by kernel_rfl)
  (of_decide_eq_true (by kernel_rfl)) (by unfold Func.isWrapper;first|(rw[if_pos (by decide+kernel)];kernel_rfl)|(rw[if_neg (by decide+kernel)];exact⟨rfl,rfl⟩))
  (fun os started H enc _=>mL os started H enc)
end Go.Proofs.YtgcmkdgpaibpeaaGreat
