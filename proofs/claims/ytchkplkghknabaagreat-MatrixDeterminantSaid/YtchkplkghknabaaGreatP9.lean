/-
  MatrixDeterminant: for every input the law returns true, and each argument reads afterwards as it read before. No condition beyond the given row's own cells.
  (Text 9 of 9; made by a program out of smaller texts.)
-/
import Derived.Deep.Slices
import Derived.ChangeArms
import Derived.ChangeSame
import Derived.Below
import Derived.OpenShut
import Derived.ProofKit
import Derived.Test.YtchkplkghknabaaGreatRows
import Derived.Test.YtchkplkghknabaaGreatP8
set_option linter.unusedSimpArgs false
set_option linter.unusedVariables false
set_option maxHeartbeats 16000000
set_option maxRecDepth 10000
open Nat renaming reduceAdd→J1,reduceMul→J2,reduceSub→J3,reduceEqDiff→J4,reduceLT→J5,reduceLeDiff→J6,reduceBEq→J7,reduceDiv→J8,reduceMod→J9,reducePow→J0
open Int renaming reduceToNat→K1,reduceLE→K2,reduceLT→K3,reduceEq→K4,reducePow→K5,reduceSub→K6,reduceNeg→K7,natCast_add→X2,natCast_one→X3,natCast_zero→X4
open List renaming getD_cons_zero→X0,getD_cons_succ→X1,length_take→X5,length_append→X6,getD_eq_getElem?_getD→X7,getElem?_eq_getElem→X8
namespace Go.Proofs.YtchkplkghknabaaGreat
open Go.Proofs.Tryz
open Go Go.Eng
open Go.Tw (El)
theorem KG {r c:Nat}(x N:Nat→Nat→Nb)(p:List Nat)(D1 D2:C)(hr:r<2^30)
  (hE:Pr prog 34 [.one (ao r (fun _=>c) x)] (.aB [.agg [ao r (fun _=>c) N,.ints .i64 (jA p),D1,D2],.one (.int .i64 0)])) (s1:∃n f,D1= .rows 1 n f) (s2:∃n f,D2= .rows 4 n f):
  Pr prog 16 [.one (ao r (fun _=>c) x)] (.aB [.one (ao r (fun _=>c) N),.one (.ints .i64 (jA p)),.one (.int .i64 0)]):=by
 obtain⟨n1,f1,rfl⟩:=s1;obtain⟨n2,f2,rfl⟩:=s2;have cv:=qL (r:=r) (fun _=>c) x (by omega) (b:=true) (by simp);refine pw func16 ⟨[0,2,3,4,5,6,9],[(4,.nil)]⟩ ?_;simp only[Tryz.f16,ntmps16,iz,seval];simp only[vx,T,seval,ao,ak];refine Cg cv ?_;simp only[vx,T,seval,ao,ak];refine Cg hE ?_;simp only[vx,T,seval,ao,ak];exact fB.refl _
theorem Ou (a b:List Int)(ha:a.length<2^38){q:Bool}(hq:q=true↔a=b):Pr prog 26 [.one (.ints .i64 a),.one (.ints .i64 b)] (.one (.bool q)):=by
 refine pw func26 ⟨[0,1,4,5,10,12,13,14,24],[]⟩ ?_;simp only[Tryz.f26,ntmps26,iz,seval];simp only[vx,T,seval];refine⟨fun g=>Lg ?_,fun g=>Lg ?_⟩
 ·have e:q=false:=by
   cases q with
   |false=>rfl
   |true=>exact absurd (congrArg List.length (hq.1 rfl)) (by omega)
  subst e;simp only[vx,T,seval];exact Ve rfl
 have hl:a.length=b.length:=by omega
 simp only[vx,T,seval];refine Lk (fun y:{i:Nat//i≤a.length∧∀j,j<i→a.getD j 0=b.getD j 0}=>⟨[(0,.one (.ints .i64 a)),(1,.one (.ints .i64 b)),(4,.one (.bool false)),(12,.one (.int .i64 a.length)),(13,.one (.int .i64 y.1))],[],1,26⟩) (fun y=>a.length-y.1) ⟨0,Nat.zero_le _,fun j hj=>absurd hj (Nat.not_lt_zero _)⟩ ?_ (fun⟨i,hi,hb⟩=>?_)
 ·refine Sa ?_;simp only[ry,seval,rz]
 simp only;have wi:=wI i (by omega);simp only[vx,T,seval];refine⟨fun g1=>Lg ?_,fun g1=>Lg ?_⟩
 ·simp only[vx,T,seval];refine⟨by omega,by omega,?_⟩;refine⟨fun g2=>Lg ?_,fun g2=>Lg ?_⟩
  ·have e:q=false:=by
    cases q with
    |false=>rfl
    |true=>exact absurd (by rw[hq.1 rfl]) g2
   subst e;simp only[vx,T,seval];exact Ve rfl
  simp only[vx,T,seval,wi];refine Lq ⟨i+1,by omega,fun j hj=>?_⟩ ?_ (by show a.length-(i+1)<a.length-i;omega)
  ·by_cases e:j=i
   ·rw[e];exact g2
   exact hb j (by omega)
  refine Sa ?_;simp only[ry,seval,rz]
 have e:q=true:=hq.2 (List.ext_getElem hl fun j h1 h2=>by
  have:=hb j (by omega)
  rw[X7,X7,X8 h1,X8 h2]at this;exact this)
 subst e;simp only[vx,T,seval];exact Ve rfl
open Go Go.Eng
open Go.Tw (El)
theorem Bf {r c:Nat}(x:Nat→Nat→Nb)(hr:r<2^30)(hc:c<2^30)(h0:r=0→c=0):Pr prog 47 [.one (ao r (fun _=>c) x)] (.one (ao c (fun _=>r) fun i j=>x j i)):=by
 have cl:=kj (fun _=>c) x (k:=c) (by split;exact h0 (by assumption);rfl) (by omega:r<2^38);have cv:=qL (r:=r) (fun _=>c) x (by omega) (b:=true) (by simp);refine pw func47 ⟨[0,2,3,4,6,9,14,15,16,18,19,20,21],[(10,(.cons 11 [0,1,12] (.cons 13 [] .nil .nil) .nil))]⟩ ?_;simp only[Tryz.f47,ntmps47,iz,seval];simp only[vx,T,seval,ao,ak];refine Cg cv ?_;simp only[vx,T,seval,ao,ak];refine Cg cl ?_;simp only[vx,T,seval,ao,ak];refine⟨by omega,?_⟩;refine Lk (fun y:{k:Nat//k≤c}=>⟨[(0,.one (ao r (fun _=>c) x)),(2,.one .nil),(3,.one (.win 1 2 0 c)),(14,.one (.int .i64 c)),(15,.one (.int .i64 y.1))],
  [(1,⟨.wins 32 2 c (fun i=>if i<y.1 then ak r (fun a=>x a i)else .nil),true⟩)],3,40⟩) (fun y=>c-y.1) ⟨0,Nat.zero_le _⟩ ?_ (fun⟨k,hk⟩=>?_)
 ·refine Sa ?_;simp only[ry,seval,rz,ao,ak,Nat.not_lt_zero]
 simp only;have wi:=wI k (by omega);simp only[vx,T,seval,ao,ak];refine⟨fun g=>Lg ?_,fun g=>Lg ?_⟩
 ·have VA:k<c:=by omega
  simp only[vx,T,seval,ao,ak];refine Lk (fun y:{n:Nat//n≤r}=>⟨[(0,.one (ao r (fun _=>c) x)),(2,.one .nil),(3,.one (.win 1 2 0 c)),(4,.one (.int .i64 k)),(14,.one (.int .i64 c)),(15,.one (.int .i64 k)),(18,.one (ao r (fun _=>c) x)),(19,.one (.int .i64 r)),(20,.one (.int .i64 y.1))],
   [(1,⟨.wins 32 2 c (fun i=>if i<k then ak r (fun a=>x a i)else if i=k then .own 2 2 0 y.1 else .nil),true⟩),(2,⟨.rows 37 2 y.1 (fun a=>bR (x a k)),true⟩)],3,40⟩) (fun y=>r-y.1) ⟨0,Nat.zero_le _⟩ ?_ (fun⟨n,hn⟩=>?_)
  ·refine Sub.mk [(2,none)] ?_;simp only[ry,seval,X2,X3,X4,ao,ak];intro i hi
   by_cases h:i<k
   ·simp only[if_pos h];exact⟨trivial,trivial,fun _ _ _ _=>trivial⟩
   by_cases h2:i=k
   ·simp only[if_neg h,if_pos h2];decide
   simp only[if_neg h,if_neg h2]
  simp only;have wn:=wI n (by omega);simp only[vx,T,seval,ao,ak];refine⟨fun g1=>Lg ?_,fun g1=>Lg ?_⟩
  ·have T1:n<r:=by omega
   simp only[vx,T,seval,ao,ak,bR,tC,ae,wn,Nat.lt_irrefl];refine⟨by omega,by omega,by omega,by omega,⟨by omega,by omega⟩,by omega,Lq ⟨n+1,by omega⟩ ?_ (by show r-(n+1)<r-n;omega)⟩;refine Sub.mk [(2,some 21)] ?_;simp only[ry,seval,X2,X3,X4,ao,ak,tC,ae];refine⟨fun i hi=>?_,yG (fun a=>x a k) n⟩
   by_cases h2:i=k
   ·subst h2;simp only[if_neg (Nat.lt_irrefl i),if_true];decide
   by_cases h:i<k
   ·simp only[if_pos h,if_neg h2];exact⟨trivial,trivial,fun _ _ _ _=>trivial⟩
   simp only[if_neg h,if_neg h2]
  obtain rfl:r=n:=by omega
  simp only[vx,T,seval,ao,ak,wi];refine Lq ⟨k+1,by omega⟩ ?_ (by show c-(k+1)<c-k;omega);refine Sub.trans (Sub.ui 1 2 rfl rfl (by decide)) ?_;simp only[dJ,eD];refine Sa ?_;simp only[ry,seval,rz,ao,ak];intro i hi
  by_cases h2:i=k
  ·subst h2;simp only[if_neg (Nat.lt_irrefl i),if_true,if_pos (show i<i+1 by omega),Nat.zero_add];exact⟨trivial,trivial,fun _ _ _ _=>trivial⟩
  by_cases h:i<k
  ·simp only[if_pos h,if_pos (show i<k+1 by omega)];exact⟨trivial,trivial,fun _ _ _ _=>trivial⟩
  simp only[if_neg h,if_neg h2,if_neg (show¬i<k+1 by omega)]
 obtain rfl:c=k:=by omega
 simp only[vx,T,seval,ao,ak];refine fB.cell (dB.rows rfl fun i j hi hj=>.of_eq ?_);simp only[if_pos hi]
theorem PD {r c:Nat}(x N:Nat→Nat→Nb)(p:List Nat)(D1 D2:C)(hr:r<2^30)(hc:c<2^30)(h0:r=0→c=0)
  (hE:Pr prog 34 [.one (ao c (fun _=>r) fun i j=>x j i)] (.aB [.agg [ao c (fun _=>r) N,.ints .i64 (jA p),D1,D2],.one (.int .i64 0)])) (s1:∃n f,D1= .rows 1 n f) (s2:∃n f,D2= .rows 4 n f):
  Pr prog 18 [.one (ao r (fun _=>c) x)] (.aB [.one (.ints .i64 (jA p)),.one (.int .i64 0)]):=by
 obtain⟨n1,f1,rfl⟩:=s1;obtain⟨n2,f2,rfl⟩:=s2;have cv:=qL (r:=r) (fun _=>c) x (by omega) (b:=true) (by simp);have ct:=Bf x hr hc h0;refine pw func18 ⟨[0,2,3,4,5,8],[]⟩ ?_;simp only[Tryz.f18,ntmps18,iz,seval];simp only[vx,T,seval,ao,ak];refine Cg cv ?_;simp only[vx,T,seval,ao,ak];refine Cg ct ?_;simp only[vx,T,seval,ao,ak];refine Cg hE ?_;simp only[vx,T,seval,ao,ak];exact fB.refl _
open Go Go.Eng
open Go.Tw (El)
theorem It {r c d:Nat}(x y:Nat→Nat→Nb)(hr:r<2^30)(hc:c<2^30)(hd:d<2^30):Pr prog 52 [.one (ao r (fun _=>c) x),.one (ao r (fun _=>d) y)] (.one (ao r (fun _=>c+d) fun i j=>if j<c then x i j else y i (j-c))):=by
 refine pw func52 ⟨[0,1,4,5,6,11,12,13],[]⟩ ?_;simp only[Tryz.f52,ntmps52,iz,seval];simp only[vx,T,seval,ao,ak];refine⟨by omega,?_⟩;refine Lk (fun z:{k:Nat//k≤r}=>⟨[(0,.one (ao r (fun _=>c) x)),(1,.one (ao r (fun _=>d) y)),(4,.one .nil),(5,.one (.own 1 1 0 r)),(11,.one (.int .i64 r)),(12,.one (.int .i64 z.1))],
  [(1,⟨.rows 32 1 r (fun i _=>if i<z.1 then ak (c+d) (fun j=>if j<c then x i j else y i (j-c))else .nil),true⟩)],2,30⟩) (fun z=>r-z.1) ⟨0,Nat.zero_le _⟩ ?_ (fun⟨k,hk⟩=>?_)
 ·refine Sa ?_;simp only[ry,seval,rz,ao,ak,Nat.not_lt_zero];intro i j hi hj;obtain rfl:j=0:=by omega
  rfl
 simp only;have wi:=wI k (by omega);simp only[vx,T,seval,ao,ak];refine⟨fun g=>Lg ?_,fun g=>Lg ?_⟩
 ·have Yo:k<r:=by omega
  have cc:=tL (n:=c) (m:=d) (x k) (y k) (by omega);simp only[vx,T,seval,ao,ak];refine⟨by omega,by omega,Cg cc ?_⟩;simp only[vx,T,seval,ao,ak,wi];refine⟨by omega,Lq ⟨k+1,by omega⟩ ?_ (by show r-(k+1)<r-k;omega)⟩;refine Sa ?_;simp only[ry,seval,rz,ao,ak];intro i j hi hj;obtain rfl:j=0:=by omega
  by_cases e:i=k
  ·subst e;rw[if_pos (Nat.lt_succ_self i)]
   simp[bt]
  by_cases h:i<k
  ·rw[if_pos (show i<k+1 by omega)]
   simp[bt,e,h]
  rw[if_neg (show¬i<k+1 by omega)]
  simp[bt,e,h]
 obtain rfl:k=r:=by omega
 simp only[vx,T,seval,ao,ak];refine fB.cell (dB.rows rfl fun i j hi hj=>.of_eq ?_);rw[if_pos hi]
theorem DF {r:Nat}(x:Nat→Nat→Nb)(hr:r<2^30):Pr prog 33 [.one (ao r (fun _=>r) x)] (.one (.bool true)):=by
 have cv:=qL (r:=r) (fun _=>r) x (by omega) (b:=true) (by simp)
 have cl:=kj (fun _=>r) x (k:=r) (by split<;>omega) (by omega:r<2^38)
 refine pw func33 ⟨[0,2],[]⟩ ?_;simp only[Tryz.f33,ntmps33,iz,seval];simp only[vx,T,seval,ao,ak];refine Cg cv ?_;simp only[vx,T,seval,ao,ak];refine Cg cl ?_;simp only[vx,T,seval,ao,ak];exact Ve rfl
theorem FP {n:Nat}(x N:Nat→Nat→Nb)(p:List Nat)(D1 D2:C)(hn:n<2^29)
  (hE:Pr prog 34 [.one (ao n (fun _=>n+n) fun i j=>if j<n then x i j else yA i (j-n))] (.aB [.agg [ao n (fun _=>n+n) N,.ints .i64 (jA p),D1,D2],.one (.int .i64 0)]))
  (s1:∃n f,D1= .rows 1 n f) (s2:∃n f,D2= .rows 4 n f) (hp:∀i,i<n→i<p.length∧p.getD i 0=i):
  Pr prog 23 [.one (ao n (fun _=>n) x)] (.aB [.one (ao n (fun _=>n) fun i j=>N i (n+j)),.one (.int .i64 0)]):=by
 obtain⟨n1,f1,rfl⟩:=s1;obtain⟨n2,f2,rfl⟩:=s2;have cs:=DF x (show n<2^30 by omega);have cb:=It (r:=n) (c:=n) (d:=n) x (fun i j=>yA i j) (by omega) (by omega) (by omega);refine pw func23 ⟨[0,2,3,4,5,6,7,8,9,10,13,19,20,21,38,43,44,45,53],[]⟩ ?_;simp only[Tryz.f23,ntmps23,iz,seval];simp only[vx,T,seval,ao,ak];refine Cg cs ?_;simp only[vx,T,seval,ao,ak];refine⟨by omega,?_⟩;refine Lk (fun z:{k:Nat//k≤n}=>⟨[(0,.one (ao n (fun _=>n) x)),(2,.one .nil),(3,.one (.int .i64 0)),(4,.one (.int .i64 n)),(5,.one (.own 1 1 0 n)),(19,.one (.int .i64 n)),(20,.one (.int .i64 z.1))],
  [(1,⟨.rows 32 1 n (fun i _=>if i<z.1 then ak n (fun j=>yA i j)else .nil),true⟩)],2,66⟩) (fun z=>n-z.1) ⟨0,Nat.zero_le _⟩ ?_ (fun⟨k,hk⟩=>?_)
 ·refine Sa ?_;simp only[ry,seval,rz,ao,ak,Nat.not_lt_zero];intro i j hi hj;obtain rfl:j=0:=by omega
  rfl
 simp only;have wi:=wI k (by omega);simp only[vx,T,seval,ao,ak];refine⟨fun g=>Lg ?_,fun g=>Lg ?_⟩
 ·have hkn:k<n:=by omega
  have cu:=Mb n k (by omega) hkn;simp only[vx,T,seval,ao,ak];refine cK.fresh cu ?_;simp only[vx,T,seval,ao,ak,wi,uO,dJ,eD,List.contains,List.elem];refine⟨by omega,Lq ⟨k+1,by omega⟩ ?_ (by show n-(k+1)<n-k;omega)⟩;refine Sa ?_;simp only[ry,seval,rz,ao,ak];intro i j hi hj;obtain rfl:j=0:=by omega
  by_cases e:i=k
  ·subst e;rw[if_pos (Nat.lt_succ_self i)]
   simp[bt]
  by_cases h:i<k
  ·rw[if_pos (show i<k+1 by omega)]
   simp[bt,e,h]
  rw[if_neg (show¬i<k+1 by omega)]
  simp[bt,e,h]
 obtain rfl:k=n:=by omega
 have cb':=cb.tz (.refl _) (x':=.rows 1 k fun i _=>if i<k then ak k (fun j=>yA i j)else .nil) (dB.rows rfl fun i j hi hj=>.of_eq (by rw[if_pos hi]));simp only[vx,T,seval,ao,ak];refine Cg cb' ?_;simp only[vx,T,seval,ao,ak];refine Cg hE ?_;simp only[vx,T,seval,ao,ak];refine⟨by omega,?_⟩;refine Lk (fun z:{i:Nat//i≤k}=>⟨[(2,.one .nil),(3,.one (.int .i64 0)),(4,.one (.int .i64 k)),(7,.one (.ptr 1 0)),(9,.one (.own 2 1 0 k)),(43,.one (.int .i64 k)),(44,.one (.int .i64 z.1))],
  [(1,⟨.var [ao k (fun _=>k+k) N,.ints .i64 (jA p),.rows 1 n1 f1,.rows 4 n2 f2],true⟩),(2,⟨.rows 32 1 k (fun i _=>if i<z.1 then ak k (fun j=>N i (k+j))else .nil),true⟩)],3,66⟩) (fun z=>k-z.1) ⟨0,Nat.zero_le _⟩ ?_ (fun⟨i,hi⟩=>?_)
 ·refine Sa ?_;simp only[ry,seval,rz,ao,ak,Nat.not_lt_zero];intro i j hi hj;obtain rfl:j=0:=by omega
  rfl
 simp only;have wj:=wI i (by omega);simp only[vx,T,seval,ao,ak];refine⟨fun g1=>Lg ?_,fun g1=>Lg ?_⟩
 ·obtain⟨h1,h2⟩:=hp i (by omega);simp only[vx,T,seval,ao,ak,oO,cM,h2,wj];have e0:((k+k:Nat):Int)-(k:Int)=(k:Int):=by omega
  refine⟨by omega,by omega,by omega,by omega,Lq ⟨i+1,by omega⟩ ?_ (by show k-(i+1)<k-i;omega)⟩;refine Sa ?_;simp only[ry,seval,rz,ao,ak];intro i' j Tm hj;obtain rfl:j=0:=by omega
  by_cases e:i'=i
  ·subst e;rw[if_pos (Nat.lt_succ_self i')]
   simp[bt]
   try omega
  by_cases h:i'<i
  ·rw[if_pos (show i'<i+1 by omega)]
   simp[bt,e,h]
  rw[if_neg (show¬i'<i+1 by omega)]
  simp[bt,e,h]
 obtain rfl:k=i:=by omega
 simp only[vx,T,seval,ao,ak];exact fB.aB ⟨.cell (dB.rows rfl fun i j hi hj=>.of_eq (by rw[if_pos hi])),.refl _,trivial⟩
open Go Go.Eng
open Go.Tw (El)
open Go.Mx (lR gN red free)
section
variable {A:List R}
def JP (A:List R)(k j:Nat):Nu A:=if j=k then Nu.int A 1 else Nu.int A 0
theorem Ma (k j:Nat):(JP A k j).x=yA k j:=by
 unfold JP yA
 by_cases h:j=k
 ·rw[if_pos h,if_pos (by omega)];rfl
 rw[if_neg h,if_neg (by omega)];rfl
theorem O5 (k j:Nat):(JP A k j).v=if j=k then R.q 1 else R.q 0:=by
 unfold JP
 split<;>rfl
def Me (p:List Nat)(G:Nat→Nat→Nu A)(k:Nat):Nat→Nu A:=lR p (fun i=>G i k) (JP A k) p.length
theorem O0 (p:List Nat)(G:Nat→Nat→Nu A)(k j:Nat):(Me p G k j).x=Mp p (fun i k=>(G i k).x) (fun k=>yA k) p.length k j:=by
 unfold Me Mp;rw[Go.Mx.pB Nu.x]
 congr 1
 funext j
 exact Ma k j
theorem O2 (p:List Nat)(G:Nat→Nat→Nu A)(k j:Nat):(Me p G k j).v=lR p (fun i=>(G i k).v) (fun j=>if j=k then R.q 1 else R.q 0) p.length j:=by
 unfold Me;rw[Go.Mx.pB Nu.v]
 congr 1
 funext j
 exact O5 k j
theorem xE {α:Type}{P:α→Prop}{p:List Nat}{f b:Nat→α}(hf:∀i,i<p.length→P (f i))(hb:∀j,P (b j)):∀{n:Nat} (_:n≤p.length) (j:Nat),P (lR p f b n j)
 |0,_,j=>hb j
 |n+1,h,j=>by
  rw[sE]
  split
  ·exact hf n (by omega)
  exact xE hf hb (by omega) j
theorem sU {α:Type}{p:List Nat}{f g b:Nat→α}(h:∀i,i<p.length→f i=g i):∀{n:Nat} (_:n≤p.length) (j:Nat),lR p f b n j=lR p g b n j
 |0,_,j=>rfl
 |n+1,hn,j=>by
  rw[sE,sE,h n (by omega),sU h (by omega) j]
theorem B6 (p:List Nat):∀(c i:Nat),i<(fl p c).length→(fl p c).getD i 0<c∧(fl p c).getD i 0∉p
 |0,i,h=>absurd h (Nat.not_lt_zero _)
 |c+1,i,h=>by
  by_cases hc:c∈p
  ·rw[show fl p (c+1)=fl p c from if_pos hc]at h⊢;obtain⟨h1,h2⟩:=B6 p c i h;exact⟨by omega,h2⟩
  have e:fl p (c+1)=fl p c++[c]:=if_neg hc;rw[e]at h⊢
  by_cases h1:i<(fl p c).length
  ·obtain⟨h2,h3⟩:=B6 p c i h1;rw[X7,List.getElem?_append_left h1,←X7];exact⟨by omega,h3⟩
  rw[X6,List.length_singleton]at h;obtain rfl:i=(fl p c).length:=by omega
  rw[X7,List.getElem?_append_right (Nat.le_refl _),Nat.sub_self];exact⟨by show c<c+1;omega,hc⟩
noncomputable def P5 (M:Nat→Nat→R)(r c i j:Nat):R:=lR (red r M c).2 (fun i'=> -(red r M c).1 i' ((fl (red r M c).2 c).getD i 0)) (fun j=>if j=(fl (red r M c).2 c).getD i 0 then R.q 1 else R.q 0) (red r M c).2.length j
theorem Jr {r c:Nat}(M X G:Nat→Nat→Nu A)(h1:gN r c (vM X) (red r (vM M) c).1)(h2:∀i j,i<r→j<c→(X i j).w≤4^(red r (vM M) c).2.length)
  (hG:∀i k,i<r→k<c→(G i k).v= -(X i k).v∧(G i k).w=(X i k).w) {i j:Nat} (hi:i<(fl (red r (vM M) c).2 c).length):
  (Me (red r (vM M) c).2 G ((fl (red r (vM M) c).2 c).getD i 0) j).v=P5 (vM M) r c i j∧(Me (red r (vM M) c).2 G ((fl (red r (vM M) c).2 c).getD i 0) j).w≤4^(red r (vM M) c).2.length:=by
 have hk:=(B6 _ c i hi).1;have hl:=(Go.Mx.dQ r (vM M) c).len;unfold P5
 generalize(fl (red r (vM M) c).2 c).getD i 0=k at hk
 refine⟨?_,?_⟩
 ·rw[O2];exact sU (fun i' Tm=>by rw[(hG i' k (by omega) hk).1];exact congrArg _ (h1 i' k (by omega) hk)) (Nat.le_refl _) j
 refine xE (P:=fun a:Nu A=>a.w≤4^(red r (vM M) c).2.length) (fun i' Tm=>?_) (fun j'=>?_) (Nat.le_refl _) j
 ·show(G i' k).w≤_
  rw[(hG i' k (by omega) hk).2];exact h2 i' k (by omega) hk
 show(JP A k j').w≤_
 have:1≤4^(red r (vM M) c).2.length:=Nat.one_le_pow _ _ (by decide)
 unfold JP
 split<;>exact this
theorem HK {f:FuncId}(hf:∀a:Nu A,a.w≤wA→∃c:Nu A,c.v= -a.v∧c.w=a.w∧Pr prog f [nX a.x] (nX c.x)){r c W:Nat}(X:Nat→Nat→Nu A)(hw:∀i j,i<r→j<c→(X i j).w≤W)(hW:W≤wA):
  ∃G:Nat→Nat→Nu A,∀i k,i<r→k<c→((G i k).v= -(X i k).v∧(G i k).w=(X i k).w)∧Pr prog f [nX (X i k).x] (nX (G i k).x):=by
 refine Qq (p:=fun i k c=>(c.v= -(X i k).v∧c.w=(X i k).w)∧Pr prog f [nX (X i k).x] (nX c.x)) (X 0 0) fun i j hi hj=>?_;obtain⟨c,c1,c2,c3⟩:=hf (X i j) (Nat.le_trans (hw i j hi hj) hW);exact⟨c,⟨c1,c2⟩,c3⟩
variable (S:Go.Tw.Src 64 A)(hA:Go.Tw.j9 A)
include S hA
omit S hA in
theorem p4 {q:Nat}(h:q≤5):4^q≤wA:=Nat.le_trans (Nat.pow_le_pow_right (by decide) h) (by decide)
omit S hA in
theorem JG {r c:Nat}(M:Nat→Nat→R)(h5:r≤4∨c≤5):(red r M c).2.length≤5:=by
 have:=A7 r M c
 have:=(Go.Mx.dQ r M c).len
 omega
omit S hA in
theorem JU {r c:Nat}(M:Nat→Nat→Nu A)(G:Nat→Nat→Nu A):ao (fl (red r (vM M) c).2 c).length (fun _=>c) (fun i=>Mp (red r (vM M) c).2 (fun i k=>(G i k).x) (fun k=>yA k) (red r (vM M) c).2.length ((fl (red r (vM M) c).2 c).getD i 0))=eA (fl (red r (vM M) c).2 c).length (fun _=>c) (fun i j=>Me (red r (vM M) c).2 G ((fl (red r (vM M) c).2 c).getD i 0) j):=by
 unfold eA
 congr 1
 funext i j
 exact(O0 _ _ _ _).symm
theorem GA {r c:Nat}(M:Nat→Nat→Nu A)(hr:r<2^30)(hc:c<2^30)(UT:r*c<2^30)(h0:r=0→c=0)(hw:∀i j,i<r→j<c→(M i j).w≤1)(h5:r≤4∨c≤5):
  ∃K:Nat→Nat→Nu A,(∀i j,i<(fl (red r (vM M) c).2 c).length→(K i j).v=P5 (vM M) r c i j∧(K i j).w≤4^(red r (vM M) c).2.length)∧
   Pr prog 17 [.one (eA r (fun _=>c) M)] (.aB [.one (eA (fl (red r (vM M) c).2 c).length (fun _=>c) K),.one (.int .i64 0)]):=by
 obtain⟨X,d,x1,x2,x3⟩:=tY S hA M hr hc UT h0 hw h5;obtain⟨G,hG⟩:=HK (f:=46) (fun a ha=>D9 S hA ha) X x2 (p4 (JG (vM M) h5));have E:=Go.Mx.dQ r (vM M) c;refine⟨fun i j=>Me (red r (vM M) c).2 G ((fl (red r (vM M) c).2 c).getD i 0) j,fun i j hi=>Jr M X G x1 x2 (fun i k hi hk=>(hG i k hi hk).1) hi,?_⟩;rw[←JU];exact KI (fun i j=>(M i j).x) (fun i j=>(X i j).x) (fun i k=>(G i k).x) (red r (vM M) c).2 _ _ hr hc h0 E.len E.lt x3 (fun k i hk hi=>(hG i k (Nat.lt_of_lt_of_le hi E.len) hk).2) ⟨_,_,rfl⟩ ⟨_,_,rfl⟩
end
open Go Go.Eng
open Go.Tw (El)
open Go.Mx (lR gN red free)
section
variable {A:List R}
def oH (c:Nat)(M:Nat→Nat→Nu A)(b:Nat→Nu A)(i j:Nat):Nu A:=if j<c then M i j else b i
theorem MU (c:Nat)(M:Nat→Nat→Nu A)(b:Nat→Nu A)(i j:Nat):(oH c M b i j).x=EL c (fun i j=>(M i j).x) (fun i=>(b i).x) i j:=by
 unfold oH EL
 split<;>rfl
def dR (r:Nat):Nat:=if r=0 then 0 else 1
noncomputable def Qb (r c:Nat)(M:Nat→Nat→R)(j:Nat):R:=lR (red r M (c+dR r)).2 (fun i=>(red r M (c+dR r)).1 i c) (fun _=>R.q 0) (red r M (c+dR r)).2.length j
def OU (c:Nat)(p:List Nat)(X:Nat→Nat→Nu A):Nat→Nu A:=lR p (fun i=>X i c) (fun _=>Nu.int A 0) p.length
theorem PS (c:Nat)(p:List Nat)(X:Nat→Nat→Nu A):(fun j=>(OU c p X j).x)=lR p (fun i=>(X i c).x) (fun _=>ru 0) p.length:=by
 funext j
 unfold OU;rw[Go.Mx.pB Nu.x];rfl
theorem KF {r c:Nat}(M X:Nat→Nat→Nu A)(h1:gN r (c+dR r) (vM X) (red r (vM M) (c+dR r)).1)(h2:∀i j,i<r→j<c+dR r→(X i j).w≤4^(red r (vM M) (c+dR r)).2.length)(j:Nat):
  (OU c (red r (vM M) (c+dR r)).2 X j).v=Qb r c (vM M) j∧(OU c (red r (vM M) (c+dR r)).2 X j).w≤4^(red r (vM M) (c+dR r)).2.length:=by
 have hl:=(Go.Mx.dQ r (vM M) (c+dR r)).len;have hd:∀i,i<(red r (vM M) (c+dR r)).2.length→i<r∧c<c+dR r:=fun i hi=>⟨by omega,by unfold dR;rw[if_neg (by omega)];omega⟩;unfold OU Qb;refine⟨?_,?_⟩
 ·rw[Go.Mx.pB Nu.v];exact sU (fun i hi=>h1 i c (hd i hi).1 (hd i hi).2) (Nat.le_refl _) j
 refine xE (P:=fun a:Nu A=>a.w≤4^(red r (vM M) (c+dR r)).2.length) (fun i hi=>h2 i c (hd i hi).1 (hd i hi).2) (fun _=>?_) (Nat.le_refl _) j;exact Nat.one_le_pow _ _ (by decide)
variable (S:Go.Tw.Src 64 A)(hA:Go.Tw.j9 A)
include S hA
omit S hA in
theorem Kk {r c d:Nat}(M:Nat→Nat→Nu A)(b:Nat→Nu A):eA r (fun _=>c+d) (oH c M b)=ao r (fun _=>c+d) (EL c (fun i j=>(M i j).x) (fun i=>(b i).x)):=by
 unfold eA
 congr 1
 funext i j
 exact MU c M b i j
theorem Jm {r c:Nat}(M:Nat→Nat→Nu A)(b:Nat→Nu A)(hr:r<2^30)(hc:c<2^29)(UT:r*(c+dR r)<2^30)(h0:r=0→c=0)(hw:∀i j,i<r→j<c+dR r→(oH c M b i j).w≤1)(h5:r≤4∨c≤4):
  ∃X:Nat→Nu A,(∀j,(X j).v=Qb r c (vM (oH c M b)) j∧(X j).w≤4^(red r (vM (oH c M b)) (c+dR r)).2.length)∧
   (c∈(red r (vM (oH c M b)) (c+dR r)).2→Pr prog 24 [.one (eA r (fun _=>c) M),.one (AA r b)] (.aB [.one .nil,.one (.int .i64 13)]))∧
   (c∉(red r (vM (oH c M b)) (c+dR r)).2→Pr prog 24 [.one (eA r (fun _=>c) M),.one (AA r b)] (.aB [.one (AA c X),.one (.int .i64 0)])):=by
 have hd:dR r≤1:=by unfold dR;split<;>omega
 obtain⟨X,d,x1,x2,x3⟩:=tY S hA (oH c M b) hr (show c+dR r<2^30 by omega) UT (fun h=>by unfold dR;rw[if_pos h];exact h0 h) hw (by omega);have E:=Go.Mx.dQ r (vM (oH c M b)) (c+dR r);rw[Kk]at x3;refine⟨OU c (red r (vM (oH c M b)) (c+dR r)).2 X,fun j=>KF (oH c M b) X x1 x2 j,fun h=>?_,fun h=>?_⟩
 ·exact Ih (fun i j=>(M i j).x) (fun i j=>(X i j).x) (fun i=>(b i).x) _ _ _ hr (by omega) h0 rfl E.len E.lt x3 ⟨_,_,rfl⟩ ⟨_,_,rfl⟩ _ (fun _=>rfl) (fun h'=>absurd h h')
 refine Ih (fun i j=>(M i j).x) (fun i j=>(X i j).x) (fun i=>(b i).x) _ _ _ hr (by omega) h0 rfl E.len E.lt x3 ⟨_,_,rfl⟩ ⟨_,_,rfl⟩ _ (fun h'=>absurd h' h) (fun _=>?_);unfold AA;rw[PS]
end
open Go Go.Eng
open Go.Tw (El)
def uM (l:List Int)(i:Nat):Nb:=ru (l.getD i 0)
theorem jS (l:List Int)(hl:l.length<2^30)(hb:∀i,i<l.length→(l.getD i 0).natAbs<2^60):Pr prog 15 [.one (.ints .i64 l)] (.one (ak l.length (uM l))):=by
 refine pw func15 ⟨[0,2,3,5,6,7,8,9],[]⟩ ?_;simp only[Tryz.f15,ntmps15,iz,seval];simp only[vx,T,seval];refine Lk (fun y:{i:Nat//i≤l.length}=>⟨[(2,.one .nil),(3,.one (.own 1 2 0 y.1)),(6,.one (.ints .i64 l)),(7,.one (.int .i64 l.length)),(8,.one (.int .i64 y.1))],[(1,⟨.rows 37 2 y.1 (fun i=>bR (uM l i)),true⟩)],2,19⟩) (fun y=>l.length-y.1) ⟨0,Nat.zero_le _⟩ ?_ (fun⟨i,hi⟩=>?_)
 ·refine Sa ?_;simp only[ry,seval,rz]
 simp only;have wi:=wI i (by omega);simp only[vx,T,seval];refine⟨fun g=>Lg ?_,fun g=>Lg ?_⟩
 ·have RP:i<l.length:=by omega
  have hz:=hb i RP;have c:=kH (l.getD i 0) (by omega) (by omega);simp only[vx,T,seval];refine⟨by omega,Cg c ?_⟩;simp only[vx,T,seval,nX,nV,tC,ae,wi];refine⟨⟨by omega,by omega⟩,Lq ⟨i+1,by omega⟩ ?_ (by show l.length-(i+1)<l.length-i;omega)⟩;refine Sa ?_;simp only[ry,seval,rz,tC,ae];exact yG (uM l) i
 obtain rfl:i=l.length:=by omega
 simp only[vx,T,seval,ak];exact Ve rfl
def LP (n:Nat)(a:Nat→Nb)(i:Nat):Nb:=if n=0 then ru 0 else a (i%n)
theorem Qr {n:Nat}(a:Nat→Nb)(i:Nat)(hn:n<2^30)(hi:i<2^30):Pr prog 30 [.one (ak n a),.one (.int .i64 i)] (nX (LP n a i)):=by
 have c0:=kH 0 (by decide) (by decide);refine pw func30 ⟨[0,1,4,11],[]⟩ ?_;simp only[Tryz.f30,ntmps30,iz,seval];simp only[vx,T,seval,ak];refine⟨fun h=>Lg ?_,fun h=>Lg ?_⟩
 ·have e:LP n a i=ru 0:=if_pos (by omega);simp only[vx,T,seval];refine Cg c0 ?_;simp only[vx,T,seval,nX,nV,tC,ae];rw[e];exact Ve rfl
 have e:LP n a i=a (i%n):=if_neg (by omega);simp only[vx,T,seval,ak];refine⟨fun h=>absurd h (by omega),fun _=>Lg ?_⟩;have hm:=Nat.mod_lt i (show 0<n by omega);have et:(i:Int).tmod (n:Int)=((i%n:Nat):Int):=rfl;simp only[vx,T,seval,ak,bR,tC,ae,et];refine⟨by omega,by omega,?_⟩;rw[e];exact Ve rfl
def FD (a:Nat→Nb):Nat→Nat
 |0=>0
 |n+1=>if FD a n<(a n).1.length then(a n).1.length else FD a n
theorem AE {n:Nat}(a:Nat→Nb)(hn:n<2^30):Pr prog 6 [.one (ak n a)] (.one (.int .i64 (FD a n))):=by
 refine pw func6 ⟨[0,2,3,4,8,18],[]⟩ ?_;simp only[Tryz.f6,ntmps6,iz,seval];simp only[vx,T,seval,ak];refine Lk (fun y:{i:Nat//i≤n}=>⟨[(0,.one (ak n a)),(2,.one (.int .i64 0)),(3,.one (.int .i64 (FD a y.1))),(4,.one (.int .i64 y.1))],[],1,26⟩) (fun y=>n-y.1) ⟨0,Nat.zero_le _⟩ ?_ (fun⟨i,hi⟩=>?_)
 ·refine Sa ?_;simp only[ry,seval,rz,ak,FD]
 simp only;have wi:=wI i (by omega);simp only[vx,T,seval,ak];refine⟨fun g=>Lg ?_,fun g=>Lg ?_⟩
 ·have Se:i<n:=by omega
  simp only[vx,T,seval,ak,bR,tC,ae];refine⟨by omega,?_⟩;refine⟨fun g2=>Lg ?_,fun g2=>Lg ?_⟩
  ·have e:FD a (i+1)=(a i).1.length:=if_pos (by omega);simp only[vx,T,seval,ak,bR,tC,ae,wi];refine⟨by omega,Lq ⟨i+1,by omega⟩ ?_ (by show n-(i+1)<n-i;omega)⟩;refine Sa ?_;simp only[ry,seval,rz,ak,e]
  have e:FD a (i+1)=FD a i:=if_neg (by omega);simp only[vx,T,seval,ak,wi];refine Lq ⟨i+1,by omega⟩ ?_ (by show n-(i+1)<n-i;omega);refine Sa ?_;simp only[ry,seval,rz,ak,e]
 obtain rfl:i=n:=by omega
 simp only[vx,T,seval,ak];exact Ve rfl
open Go Go.Eng
open Go.Tw (El)
def fX (s:Nat):Nat:=1+s%12
def BM (r w:Nat):Nat:=if r=0 then 0 else w
def xi (n:Nat)(a:Nat→Nb)(cs:List Int)(w i j:Nat):Nb:=LP n a (cs.getD (i*w+j) 0).toNat
theorem Fm {n:Nat}(a:Nat→Nb)(oc:C)(cs:List Int)(s most:Nat)(hn:n<2^30)(hs:s<256)(Sc:∀i,i<cs.length→0≤cs.getD i 0∧cs.getD i 0<256)(hl:cs.length<2^63)(hm:most≤100)
  (cb:Pr prog 28 [.one oc] (.one (ak n a))) (ca:Pr prog 29 [.one (ak n a)] (.one (.bool true))) (ho:∃n f,oc= .rows 5 n f) {R:V} (h1:most<cs.length→R= .aB [.one .nil,.one (.bool false)])
  (h2:cs.length≤most→R= .aB [.one (ao (cs.length/fX s) (fun _=>BM (cs.length/fX s) (fX s)) (xi n a cs (fX s))),.one (.bool (decide ((FD a n:Int)≤2)))]):
  Pr prog 5 [.agg [oc,.ints .u8 cs,.int .u8 s],.one (.int .i64 most)] R:=by
 obtain⟨no,fo,rfl⟩:=ho;have cg:=AE a hn;refine pw func5 ⟨[0,1,2,4,5,6,7,8,9,10,11,29,36,42],[]⟩ ?_;simp only[Tryz.f5,ntmps5,iz,seval];simp only[vx,T,seval,ak];refine Cg cb ?_;have ew:IntKind.i64.wrap (1+(IntKind.i64.wrap (s:Int)).tmod 12)=((fX s:Nat):Int):=by
  rw[IntWalk.i64_in (s:Int) (by omega),show (s:Int).tmod 12=((s%12:Nat):Int)from rfl]
  have:=Nat.mod_lt s (show 0<12 by decide)
  rw[IntWalk.i64_in _ (by omega)];unfold fX;omega
 have w1:1≤fX s∧fX s≤12:=by
  have:=Nat.mod_lt s (show 0<12 by decide)
  unfold fX;omega
 generalize fX s=w at ew w1 h2
 simp only[vx,T,seval,ak,ew];refine Cg ca ?_;simp only[vx,T,seval,ak,ew];refine⟨fun g=>Lg ?_,fun g=>Lg ?_⟩
 ·have e:=h1 (by omega);simp only[vx,T,seval];exact Ve e.symm
 have e:=h2 (by omega);simp only[vx,T,seval];have hdv:=Nat.div_mul_le_self cs.length w;refine Lk (fun y:{q:Nat//q≤cs.length/w}=>⟨[(2,.one (.ptr 1 0)),(4,.one .nil),(5,.one (.bool false)),(6,.one (ak n a)),(7,.one (.int .i64 w)),(8,.one (.own 2 1 0 y.1)),(9,.one (.int .i64 (y.1*w:Nat)))],
  [(1,⟨.var [.rows 5 no fo,.ints .u8 cs,.int .u8 s],true⟩),(2,⟨.rows 32 1 y.1 (fun i _=>ak w (xi n a cs w i)),true⟩)],3,66⟩) (fun y=>cs.length/w-y.1) ⟨0,Nat.zero_le _⟩ ?_ (fun⟨q,hq⟩=>?_)
 ·refine Sa ?_;simp only[ry,seval,rz,ak,Nat.zero_mul]
 simp only;have wa:IntKind.i64.wrap (((q*w:Nat):Int)+(w:Int))=(((q+1)*w:Nat):Int):=by
  have:q*w≤cs.length:=Nat.le_trans (Nat.mul_le_mul_right _ hq) hdv
  rw[Nat.add_mul,Nat.one_mul,IntWalk.i64_in _ (by omega)];omega
 simp only[vx,T,seval,ak,wa];refine⟨fun g1=>Lg ?_,fun g1=>Lg ?_⟩
 ·have Us:q<cs.length/w:=by
   have:(q+1)*w≤cs.length:=by omega
   exact(Nat.le_div_iff_mul_le (by omega)).2 this
  have hqw:q*w+w≤cs.length:=by
   have:(q+1)*w≤cs.length:=by omega
   rw[Nat.add_mul,Nat.one_mul]at this;exact this
  simp only[vx,T,seval,ak];refine Lk (fun y:{j:Nat//j≤w}=>⟨[(2,.one (.ptr 1 0)),(4,.one .nil),(5,.one (.bool false)),(6,.one (ak n a)),(7,.one (.int .i64 w)),(8,.one (.own 2 1 0 q)),(9,.one (.int .i64 (q*w:Nat))),(10,.one (.own 3 2 0 y.1)),(11,.one (.int .i64 y.1))],
   [(1,⟨.var [.rows 5 no fo,.ints .u8 cs,.int .u8 s],true⟩),(2,⟨.rows 32 1 q (fun i _=>ak w (xi n a cs w i)),true⟩),(3,⟨.rows 37 2 y.1 (fun j=>bR (xi n a cs w q j)),true⟩)],4,66⟩) (fun y=>w-y.1) ⟨0,Nat.zero_le _⟩ ?_ (fun⟨j,hj⟩=>?_)
  ·refine Sa ?_;simp only[ry,seval,rz,ak]
  simp only;have wj:=wI j (by omega);simp only[vx,T,seval,ak];refine⟨fun g2=>Lg ?_,fun g2=>Lg ?_⟩
  ·have ZS:j<w:=by omega
   have wq:IntKind.i64.wrap (((q*w:Nat):Int)+(j:Int))=((q*w+j:Nat):Int):=by rw[IntWalk.i64_in _ (by omega)];omega
   obtain⟨b1,b2⟩:=Sc (q*w+j) (by omega);obtain⟨v,hv⟩:∃v:Nat,cs.getD (q*w+j) 0=v:=⟨(cs.getD (q*w+j) 0).toNat,by omega⟩;have wv:IntKind.i64.wrap (v:Int)=(v:Int):=IntWalk.i64_in _ (by omega);have hc:=Qr a v hn (by omega);have ev:xi n a cs w q j=LP n a v:=by unfold xi;rw[hv];rfl
   simp only[vx,T,seval,ak,wq,hv,wv];refine⟨by omega,Cg hc ?_⟩;simp only[vx,T,seval,nX,nV,tC,ae,wj];refine⟨⟨by omega,by omega⟩,Lq ⟨j+1,by omega⟩ ?_ (by show w-(j+1)<w-j;omega)⟩;refine Sa ?_;simp only[ry,seval,rz,ak,tC,ae];have s:=yG (xi n a cs w q) j;rw[ev]at s;exact s
  obtain rfl:w=j:=by omega
  have hq1:q<2^40:=by
   have:=Nat.le_mul_of_pos_right q (show 0<w by omega)
   omega
  simp only[vx,T,seval,ak,wa];refine⟨⟨by omega,by omega⟩,Lq ⟨q+1,by omega⟩ ?_ (by show cs.length/w-(q+1)<cs.length/w-q;omega)⟩;refine Sa ?_;simp only[ry,seval,rz,ak];exact Ae (fun i=>ak w (xi n a cs w i)) q
 obtain rfl:cs.length/w=q:=by
  refine Nat.le_antisymm (Nat.le_of_lt_succ ((Nat.div_lt_iff_lt_mul (by omega)).2 (show cs.length<(q+1)*w by omega))) hq
 simp only[vx,T,seval,ak];refine Cg cg ?_;simp only[vx,T,seval,ak];rw[e];exact fB.aB ⟨.cell (dB.rows rfl fun i j hi hj=>.of_eq (by unfold BM ak;rw[if_neg (by omega)])),.refl _,trivial⟩
open Go Go.Eng
open Go.Tw (El ax TG bO gW)
open Go.Mx (sm iv gN red lR free)
theorem KQ {A:List R}{x:List El×El}{v:R}(h:bO A 64 x.1 x.2 v)(h2:x.1.length≤2):ax A x.1 x.2 v (300*1-1) (3*1):=by
 obtain⟨T,ha,hv,hb,_⟩:=h;refine⟨T,ha,hv,fun c=>?_⟩;rw[←hv]
 refine(Go.Tw.Sz.expr (c:=c) ha hb (fun j hj=>.gen ⟨⟨_,T.mem j hj,rfl⟩,rfl⟩)).mono ?_
 have e:=Go.Tw.ti (B:=64) (c:=c) x.1.length
 rcases(by omega:x.1.length=0∨x.1.length=1∨x.1.length=2)with h|h|h<;>rw [h]at e⊢<;>omega
theorem Co (a:Nat→Nb):∀{n i:Nat},i<n→(a i).1.length≤FD a n
 |n+1,i,h=>by
  unfold FD
  by_cases e:i=n
  ·subst e
   split<;>omega
  have:=Co a (show i<n by omega)
  split<;>omega
def CU (r:List Bv):C:=.rows 5 r.length (fun i=>oC (r.getD i default))
theorem OF (l:List (List El×El))(hl:l.length<2^38)(h:∀i,i<l.length→Pr prog 63 [nX (l.getD i default)] (.one (.bool true))):Pr prog 29 [.one (bU l)] (.one (.bool true)):=by
 refine pw func29 ⟨[0,2,3,7,15],[]⟩ ?_;simp only[Tryz.f29,ntmps29,iz,seval];simp only[vx,T,seval,bU];refine Lk (fun y:{i:Nat//i≤l.length}=>⟨[(0,.one (bU l)),(2,.one (.bool false)),(3,.one (.int .i64 y.1))],[],1,16⟩) (fun y=>l.length-y.1) ⟨0,Nat.zero_le _⟩ ?_ (fun⟨i,hi⟩=>?_)
 ·refine Sa ?_;simp only[ry,seval,rz,bU]
 simp only;have wi:=wI i (by omega);simp only[vx,T,seval,bU];refine⟨fun g=>Lg ?_,fun g=>Lg ?_⟩
 ·have c:=h i (by omega);obtain⟨x,hx⟩:∃x,x=l.getD i default:=⟨_,rfl⟩;rw[←hx]at c;simp only[vx,T,seval,bU,fp,←hx,bR];refine⟨by omega,Cg c ?_⟩;simp only[vx,T,seval,bU,wi];refine Lq ⟨i+1,by omega⟩ ?_ (by show l.length-(i+1)<l.length-i;omega);refine Sa ?_;simp only[ry,seval,rz,bU]
 simp only[vx,T,seval,bU];exact Ve rfl
theorem yu {A:List R}(S:Go.Tw.Src 64 A)(hA:Go.Tw.j9 A){x:List El×El}{v:R}(h:bO A 64 x.1 x.2 v):Pr prog 63 [nX x] (.one (.bool true)):=by
 have h3:=h.tg.nN hA;have key:∀{a:El},Go.Tw.gW 64 a→∀i,i<a.length→¬nD 6 (a.getD i default):=fun{a} hb i hi hq=>by
  have hm:=hb (a.getD i default) (by rw[X7,X8 hi];exact List.getElem_mem _)
  have:=Go.Tw.ya hm.1 hm.2
  unfold nD at hq;unfold qm at this;omega
 refine JA x (by rw[h.len];exact aN (by omega)) (by omega) (fun j hj=>by rw[(h.tg.rd.rl j hj).1];exact aN (by omega)) ⟨fun e=>(by cases e),fun hl=>?_⟩
 rcases hl with⟨i,h1,h2⟩|⟨j,h1,i,h2,h3⟩
 ·exact absurd h2 (key h.bits i h1)
 exact absurd h3 (key (h.tb j h1) i h2)
section
variable {A:List R}(S:Go.Tw.Src 64 A)(hA:Go.Tw.j9 A)
include S hA
end
end Go.Proofs.YtchkplkghknabaaGreat
namespace Go.Mx
open Go Go.R
theorem QF (x:Rat):iv (q x)=q x⁻¹:=by
 by_cases h:x=0
 ·subst h;unfold iv;rw[dif_neg (by simp)];exact congrArg q (by decide+kernel)
 have h0:q x≠q 0:=fun e=>h (jT e);refine gB (z:=q x) ?_ h0;rw[mul_comm,oy h0,←dr,Rat.inv_mul_cancel x h]
abbrev Mq:=Nat→Nat→Rat
def H6 (M:Mq)(k:Nat):Nat→Nat→Nat
 |0,p=>p
 |n+1,p=>if M p k=0 then H6 M k n (p+1)else p
def NM (M:Mq)(a b:Nat):Mq:=fun i=>if i=a then M b else if i=b then M a else M i
def NO (M:Mq)(t k:Nat):Mq:=fun i j=>if i=t then M t j*(M t k)⁻¹ else M i j-M t j*(M t k)⁻¹*M i k
def Ky (r k:Nat)(s:Mq×List Nat):Mq×List Nat:=
 if H6 s.1 k (r-s.2.length) s.2.length<r then(NO (NM s.1 s.2.length (H6 s.1 k (r-s.2.length) s.2.length)) s.2.length k,s.2++[k])else s
def Ar (r:Nat)(M:Mq):Nat→Mq×List Nat
 |0=>(M,[])
 |k+1=>Ky r k (Ar r M k)
def qM (M:Mq):Mt:=fun i j=>q (M i j)
theorem Mu (M:Mq)(k:Nat):∀n p,ka (qM M) k n p=H6 M k n p
 |0,_=>rfl
 |n+1,p=>by
  unfold ka H6;rw[Mu M k n (p+1)]
  by_cases h:M p k=0
  ·rw[if_pos h,if_pos (show qM M p k=q 0 by unfold qM;rw[h])]
  rw[if_neg h,if_neg (show qM M p k≠q 0 from fun e=>h (jT e))]
theorem PV (M:Mq)(a b:Nat):lS (qM M) a b=qM (NM M a b):=by
 funext i j
 unfold lS NM qM
 by_cases h1:i=a
 ·simp only[if_pos h1]
 by_cases h2:i=b
 ·simp only[if_neg h1,if_pos h2]
 simp only[if_neg h1,if_neg h2]
theorem PK (M:Mq)(t k:Nat):iH (qM M) t k=qM (NO M t k):=by
 funext i j
 unfold iH NO qM;simp only[QF]
 by_cases h:i=t
 ·simp only[if_pos h,dr]
 simp only[if_neg h,Rat.sub_eq_add_neg,vH,vL,dr];rfl
theorem Mk (r:Nat)(M:Mq):∀k,red r (qM M) k=(qM (Ar r M k).1,(Ar r M k).2)
 |0=>rfl
 |k+1=>by
  rw[red,Mk r M k];unfold j7;show _=(qM (Ky r k (Ar r M k)).1,(Ky r k (Ar r M k)).2);unfold Ky;simp only[Mu]
  split
  ·rw[PV,PK]
  rfl
end Go.Mx
namespace Go.Mx
open Go Go.R
theorem swpz (M:Mt)(a:Nat):lS M a a=M:=by
 funext i
 unfold lS
 by_cases h:i=a
 ·rw[if_pos h,h]
 rw[if_neg h,if_neg h]
theorem HO {r k:Nat}{s:Mt×List Nat}(h:s.2.length<r)(h0:s.1 s.2.length k≠q 0):j7 r k s=(iH s.1 s.2.length k,s.2++[k]):=by
 have e:ka s.1 k (r-s.2.length) s.2.length=s.2.length:=by
  obtain⟨n,hn⟩:∃n,r-s.2.length=n+1:=⟨r-s.2.length-1,by omega⟩;rw[hn];unfold ka;rw[if_neg h0]
 unfold j7;rw[e,if_pos h,swpz]
theorem Ac {r k:Nat}{s:Mt×List Nat}(h:s.2.length=r):j7 r k s=s:=by
 unfold j7;rw[h,Nat.sub_self];unfold ka;rw[if_neg (Nat.lt_irrefl r)]
theorem Nw:iv (q 1)=q 1:=by
 refine gB (z:=q 1) ?_ il;rw[mul_comm,oy il,mul_one]
theorem H9 {s:R}(hs:s≠q 0){M:Mt}(h00:M 0 0=s)(h01:M 0 1=q 0)(h02:M 0 2=q 1)(h03:M 0 3=q 0)(TW:M 1 0=q 0)(WB:M 1 1=q 1)(U2:M 1 2=q 0)(h13:M 1 3=q 1):
  (red 2 M 4).2=[0,1]∧(red 2 M 4).1 0 2=iv s∧(red 2 M 4).1 0 3=q 0∧(red 2 M 4).1 1 2=q 0∧(red 2 M 4).1 1 3=q 1:=by
 have e1:red 2 M 1=(iH M 0 0,[0]):=HO (s:=(M,[])) (by show 0<2;decide) (by show M 0 0≠q 0;rw[h00];exact hs);have n0:∀j,iH M 0 0 0 j=M 0 j*iv s:=fun j=>by unfold iH;rw[if_pos rfl,h00]
 have n1:∀j,iH M 0 0 1 j=M 1 j:=fun j=>by unfold iH;rw[if_neg (by decide),TW,mul_zero,sub_zero]
 have e2:red 2 M 2=(iH (iH M 0 0) 1 1,[0,1]):=by
  show j7 2 1 (red 2 M 1)=_;rw[e1];exact HO (s:=(iH M 0 0,[0])) (by show 1<2;decide) (by show iH M 0 0 1 1≠q 0;rw[n1,WB];exact il)
 have e4:red 2 M 4=(iH (iH M 0 0) 1 1,[0,1]):=by
  show j7 2 3 (j7 2 2 (red 2 M 2))=_;rw[e2,Ac (r:=2) (s:=(iH (iH M 0 0) 1 1,[0,1])) rfl,Ac (r:=2) (s:=(iH (iH M 0 0) 1 1,[0,1])) rfl]
 have m0:∀j,iH (iH M 0 0) 1 1 0 j=M 0 j*iv s:=fun j=>by
  have:iH (iH M 0 0) 1 1 0 j=iH M 0 0 0 j-iH M 0 0 1 j*iv (iH M 0 0 1 1)*iH M 0 0 0 1:=if_neg (by decide)
  rw[this,n0,n0 1,h01,zero_mul,mul_zero,sub_zero]
 have m1:∀j,iH (iH M 0 0) 1 1 1 j=M 1 j:=fun j=>by
  have:iH (iH M 0 0) 1 1 1 j=iH M 0 0 1 j*iv (iH M 0 0 1 1):=if_pos rfl
  rw[this,n1,n1,WB,Nw,mul_one]
 rw[e4];exact⟨rfl,(m0 2).trans (by rw[h02,one_mul]),(m0 3).trans (by rw[h03,zero_mul]),(m1 2).trans U2,(m1 3).trans h13⟩
end Go.Mx
namespace Go.Proofs.YtchkplkghknabaaGreat
open Go.Proofs.Tryz
open Go Go.Eng
open Go.Tw (El ax TG)
open Go.Mx (sm iv gN red lR Ar)
def uK (l:List (List Int))(i j:Nat):Int:=(l.getD i []).getD j 0
abbrev Pm (r c:Nat)(l:List (List Int)):Prop:=∀i,i<r→∀j,j<c→(uK l i j).natAbs<2^60
section
variable {A:List R}
def iN (A:List R)(l:List (List Int))(i j:Nat):Nu A:=if h:(uK l i j).natAbs<2^60 then Nu.int A (uK l i j) h else Nu.int A 0
theorem QH {l:List (List Int)}{i j:Nat}(h:(uK l i j).natAbs<2^60):(iN A l i j).x=ru (uK l i j):=by unfold iN;rw[dif_pos h];rfl
theorem II {l:List (List Int)}{i j:Nat}(h:(uK l i j).natAbs<2^60):(iN A l i j).v=R.q (Rat.ofInt (uK l i j)):=by unfold iN;rw[dif_pos h];rfl
theorem xx (l:List (List Int))(i j:Nat):(iN A l i j).w=1:=by unfold iN;split<;>rfl
theorem qc {c:Nat}(a:List Int){l:List (List Int)}{i:Nat}(h:∀j,j<c→a.getD j 0=uK l i j∧(uK l i j).natAbs<2^60):dB (ak c (uM a)) (ak c (fun j=>(iN A l i j).x)):=
 dB.rows rfl fun j k hj _=>.of_eq (by show bR (ru (a.getD j 0)) k=bR (iN A l i j).x k;rw[QH (h j hj).2,(h j hj).1])
theorem G9 {r c:Nat}(M:Nat→Nat→Nu A)(l n:List (List Int))(p:List Nat)(hM:∀i j,i<r→j<c→(M i j).v=R.q (Rat.ofInt (uK l i j)))
  (h:(Ar r (fun i j=>Rat.ofInt (uK l i j)) c).2=p∧∀i,i<r→∀j,j<c→(Ar r (fun i j=>Rat.ofInt (uK l i j)) c).1 i j=Rat.ofInt (uK n i j)):
  (red r (vM M) c).2=p∧∀i j,i<r→j<c→(red r (vM M) c).1 i j=R.q (Rat.ofInt (uK n i j)):=by
 obtain⟨h1,h2⟩:=Go.Mx.Dl (M:=vM M) (N:=Go.Mx.qM fun i j=>Rat.ofInt (uK l i j)) (r:=r) (c:=c) (fun i j hi hj=>hM i j hi hj) c (Nat.le_refl c);rw[Go.Mx.Mk]at h1 h2;refine⟨h2.trans h.1,fun i j hi hj=>(h1 i j hi hj).trans ?_⟩;show R.q _=_;rw[h.2 i hi j hj]
def QA (a:List Int):C:=.rows 1 1 (fun i j=>[ak 2 (uM a)].getD (i*1+j) .any)
def O1 (a b:List Int):C:=.rows 1 2 (fun i j=>[ak 2 (uM a),ak 2 (uM b)].getD (i*1+j) .any)
theorem F5 {a:List Int}(h:Pm 1 2 [a]):dB (QA a) (eA 1 (fun _=>2) (iN A [a])):=
 dB.rows rfl fun i j hi hj=>by
  obtain rfl:i=0:=by omega
  obtain rfl:j=0:=by omega
  exact qc a fun j hj=>⟨rfl,h 0 (by decide) j hj⟩
theorem wP {a b:List Int}(h:Pm 2 2 [a,b]):dB (O1 a b) (eA 2 (fun _=>2) (iN A [a,b])):=
 dB.rows rfl fun i j hi hj=>by
  obtain rfl:j=0:=by omega
  match i,hi with
  |0,_=>exact qc a fun j hj=>⟨rfl,h 0 (by decide) j hj⟩
  |1,_=>exact qc b fun j hj=>⟨rfl,h 1 (by decide) j hj⟩
def Qf (a b:Nb):C:=.rows 2 2 (fun i j=>[tC a.1.length a.1,ae a.2,tC b.1.length b.1,ae b.2].getD (i*2+j) .any)
def inv2 (x:Nb):C:=.rows 1 2 (fun i j=>[Qf x (ru 0),ak 2 (uM [0,1])].getD (i*1+j) .any)
def uR (a:Nu A)(i j:Nat):Nu A:=if i=0∧j=0 then a else iN A [[0,0],[0,1]] i j
def sK (a:Nu A)(i j:Nat):Nu A:=if j<2 then uR a i j else JP A i (j-2)
theorem D5 (a:Nu A):dB (inv2 a.x) (eA 2 (fun _=>2) (uR a)):=
 dB.rows rfl fun i j hi hj=>by
  obtain rfl:j=0:=by omega
  match i,hi with
  |0,_=>
   exact dB.rows rfl fun k l hk hl=>by
    match k,hk,l,hl with
    |0,_,0,_=>exact .refl _
    |0,_,1,_=>exact .refl _
    |1,_,0,_=>exact .refl _
    |1,_,1,_=>exact .refl _
  |1,_=>exact qc (A:=A) (c:=2) [0,1] (l:=[[0,0],[0,1]]) (i:=1) (by decide)
def Dx:List (List Int):=[[1,2],[2,4]]
theorem FQ:Pm 2 2 Dx:=by decide
theorem xI {M:Nat→Nat→Nu A}(hM:∀i j,i<2→j<2→(M i j).v=R.q (Rat.ofInt (uK Dx i j))):(red 2 (vM M) 2).2=[0]∧∀i j,i<2→j<2→(red 2 (vM M) 2).1 i j=R.q (Rat.ofInt (uK [[1,2],[0,0]] i j)):=
 G9 M Dx _ _ hM (by decide+kernel)
theorem Mr:∀i j,i<2→j<2→(iN A Dx i j).v=R.q (Rat.ofInt (uK Dx i j)):=fun i j hi hj=>II (FQ i hi j hj)
theorem Qa {a:Nu A}{n:Nat}(h:a.w≤4^n)(hn:n≤4):a.w≤wA:=Nat.le_trans h (Nat.le_trans (Nat.pow_le_pow_right (by decide) hn) (by decide))
variable (S:Go.Tw.Src 64 A)(hA:Go.Tw.j9 A)
include S hA
theorem IS {r c:Nat}(X Y:Nat→Nat→Nu A)(hr:r<2^38)(hc:c<2^38)(h:∀i j,i<r→j<c→(X i j).v=(Y i j).v∧(X i j).w≤wA∧(Y i j).w≤wB):
  Pr prog 25 [.one (eA r (fun _=>c) X),.one (eA r (fun _=>c) Y)] (.one (.bool true)):=
 Lz S hA (n:=r) (n':=r) (fun _=>c) (fun _=>c) X Y hr (fun _ _=>hc) (fun _ i j hi _ hj=>⟨(h i j hi hj).2.1,(h i j hi hj).2.2,.inl (h i j hi hj).1⟩) (by simp;exact fun i hi j hj=>(h i j hi hj).1)
theorem G5:∃X:Nat→Nat→Nu A,Pr prog 16 [.one (O1 [1,2] [2,4])] (.aB [.one (eA 2 (fun _=>2) X),.one (.ints .i64 [0]),.one (.int .i64 0)])∧
  Pr prog 25 [.one (eA 2 (fun _=>2) X),.one (O1 [1,2] [0,0])] (.one (.bool true)):=by
 obtain⟨e1,e2⟩:=xI (A:=A) Mr;obtain⟨X,d,x1,x2,x3⟩:=tY S hA (r:=2) (c:=2) (iN A Dx) (by decide) (by decide) (by decide) (by omega) (fun i j _ _=>by rw[xx];exact Nat.le_refl 1) (by omega);have c:=KG (r:=2) (c:=2) (fun i j=>(iN A Dx i j).x) (fun i j=>(X i j).x) _ _ _ (by decide) x3 ⟨_,_,rfl⟩ ⟨_,_,rfl⟩;rw[e1]at c x2;refine⟨X,c.A3 (fB.cell (wP FQ)),(IS S hA (r:=2) (c:=2) X (iN A [[1,2],[0,0]]) (by decide) (by decide) fun i j hi hj=>⟨?_,Qa (x2 i j hi hj) (by decide),by rw[xx];decide⟩).tz (.refl _) (wP (by decide))⟩;rw[II ((show Pm 2 2 [[1,2],[0,0]] by decide) i hi j hj)];exact(x1 i j hi hj).trans (e2 i j hi hj)
theorem Iv:∃X:Nat→Nat→Nu A,Pr prog 17 [.one (O1 [1,2] [2,4])] (.aB [.one (eA 1 (fun _=>2) X),.one (.int .i64 0)])∧
  Pr prog 25 [.one (eA 1 (fun _=>2) X),.one (QA [-2,1])] (.one (.bool true)):=by
 obtain⟨e1,e2⟩:=xI (A:=A) Mr;obtain⟨X,x1,x2⟩:=GA S hA (r:=2) (c:=2) (iN A Dx) (by decide) (by decide) (by decide) (by omega) (fun i j _ _=>by rw[xx];exact Nat.le_refl 1) (by omega);unfold P5 at x1;rw[e1]at x1 x2;refine⟨X,x2.A3 (fB.cell (wP FQ)),(IS S hA (r:=1) (c:=2) X (iN A [[-2,1]]) (by decide) (by decide) fun i j hi hj=>⟨?_,Qa (x1 i j hi).2 (by decide),by rw[xx];decide⟩).tz (.refl _) (F5 (by decide))⟩;rw[II ((show Pm 1 2 [[-2,1]] by decide) i hi j hj),(x1 i j hi).1];obtain rfl:i=0:=by omega
 match j,hj with
 |0,_=>
  show-((red 2 (vM (iN A Dx)) 2).1 0 1)=_
  rw[e2 0 1 (by decide) (by decide),←R.vL];exact congrArg R.q (by decide+kernel)
 |1,_=>rfl
theorem M8:Pr prog 18 [.one (O1 [1,2] [2,4])] (.aB [.one (.ints .i64 [0]),.one (.int .i64 0)]):=by
 have hM:∀i j,i<2→j<2→(iN A Dx j i).v=R.q (Rat.ofInt (uK Dx i j)):=fun i j hi hj=>by
  rw[II (FQ j hj i hi)]
  match i,hi,j,hj with
  |0,_,0,_=>rfl
  |0,_,1,_=>rfl
  |1,_,0,_=>rfl
  |1,_,1,_=>rfl
 obtain⟨e1,e2⟩:=xI (A:=A) (M:=fun i j=>iN A Dx j i) hM;obtain⟨X,d,x1,x2,x3⟩:=tY S hA (r:=2) (c:=2) (fun i j=>iN A Dx j i) (by decide) (by decide) (by decide) (by omega) (fun i j _ _=>by rw[xx];exact Nat.le_refl 1) (by omega);have c:=PD (r:=2) (c:=2) (fun i j=>(iN A Dx i j).x) (fun i j=>(X i j).x) _ _ _ (by decide) (by decide) (by omega) x3 ⟨_,_,rfl⟩ ⟨_,_,rfl⟩;rw[e1]at c;exact c.A3 (fB.cell (wP FQ))
theorem L4:∃X:Nat→Nu A,Pr prog 24 [.one (QA [1,1]),.one (ak 1 (uM [5]))] (.aB [.one (AA 2 X),.one (.int .i64 0)])∧
  Pr prog 27 [.one (AA 2 X),.one (ak 2 (uM [5,0]))] (.one (.bool true)):=by
 have hM:∀i j,i<1→j<3→(oH 2 (iN A [[1,1]]) (fun j=>iN A [[5]] 0 j) i j).v=R.q (Rat.ofInt (uK [[1,1,5]] i j)):=fun i j hi hj=>by
  obtain rfl:i=0:=by omega
  match j,hj with
  |0,_=>rfl
  |1,_=>rfl
  |2,_=>rfl
 obtain⟨e1,e2⟩:=G9 (r:=1) (c:=3) (oH 2 (iN A [[1,1]]) (fun j=>iN A [[5]] 0 j)) [[1,1,5]] [[1,1,5]] [0] hM (by decide+kernel)
 obtain⟨X,x1,_,x3⟩:=Jm S hA (r:=1) (c:=2) (iN A [[1,1]]) (fun j=>iN A [[5]] 0 j) (by decide) (by decide) (by decide) (by omega) (fun i j _ _=>by unfold oH;split<;>rw [xx]<;>exact Nat.le_refl 1) (by omega)
 unfold Qb at x1;rw[show 2+dR 1=3 from rfl,e1]at x1 x3;have c:=x3 (by decide);have hv:∀j,j<2→(X j).v=(iN A [[5,0]] 0 j).v:=fun j hj=>by
  rw[(x1 j).1]
  match j,hj with
  |0,_=>exact(e2 0 2 (by decide) (by decide)).trans rfl
  |1,_=>rfl
 exact⟨X,c.tz (F5 (by decide)) (qc [5] (l:=[[5]]) (i:=0) (by decide)),(Gp S hA (n:=2) (n':=2) X (fun j=>iN A [[5,0]] 0 j) (by decide) (fun _ i hi=>⟨Qa (x1 i).2 (by decide),by rw[xx];decide,.inl (hv i hi)⟩) (by simp;exact hv)).tz (.refl _) (qc [5,0] (l:=[[5,0]]) (i:=0) (by decide))⟩
theorem Px {s:Nu A}(hs:s.v*s.v=R.q 2)(hw:s.w≤1):∃(half:Nu A) (X:Nat→Nat→Nu A),Pr prog 13 [nX s.x,nX ([],[mkRat 1 2])] (.aB [nX half.x,.one (.int .i64 0)])∧
  Pr prog 23 [.one (inv2 s.x)] (.aB [.one (eA 2 (fun _=>2) X),.one (.int .i64 0)])∧Pr prog 25 [.one (eA 2 (fun _=>2) X),.one (inv2 half.x)] (.one (.bool true)):=by
 have Xn:s.v≠R.q 0:=fun e=>by
  rw[e,R.zero_mul]at hs;exact absurd (R.jT hs) (by decide)
 have hf:Go.Tw.bO A 64 [] [mkRat 1 2] (R.q (mkRat 1 2)):=lA (n:=1) (d:=2) (by decide) (by decide) (by decide);obtain⟨half,v1,w1,c1⟩:=xj S hA (a:=s) (b:=⟨([],[mkRat 1 2]),_,1,Nat.le_refl 1,KQ (x:=([],[mkRat 1 2])) hf (by decide)⟩) (Nat.le_trans hw (by decide)) (show 1≤3400 by decide);have hv:half.v=iv s.v:=xW (by rw[v1,←R.mul_assoc,hs,←R.dr];exact congrArg R.q (by decide+kernel));have hM:∀i j,(sK s i j).x=if j<2 then(uR s i j).x else yA i (j-2):=fun i j=>by
  unfold sK
  split
  ·rfl
  exact Ma i (j-2)
 have hW:∀i j,i<2→j<4→(sK s i j).w≤1:=fun i j _ _=>by
  unfold sK uR JP
  split
  ·split
   ·exact hw
   rw[xx];exact Nat.le_refl 1
  split<;>exact Nat.le_refl 1
 obtain⟨X,d,x1,x2,x3⟩:=tY S hA (r:=2) (c:=4) (sK s) (by decide) (by decide) (by decide) (by omega) hW (by omega);obtain⟨e1,e2,e3,e4,e5⟩:=Go.Mx.H9 (M:=vM (sK s)) Xn rfl rfl rfl rfl rfl rfl rfl rfl;have hpv:∀i,i<2→i<(red 2 (vM (sK s)) 4).2.length∧(red 2 (vM (sK s)) 4).2.getD i 0=i:=by rw[e1];decide
 have em:eA 2 (fun _=>4) (sK s)=ao 2 (fun _=>2+2) fun i j=>if j<2 then(uR s i j).x else yA i (j-2):=
  congrArg (ao 2 (fun _=>4)) (funext fun i=>funext fun j=>hM i j)
 rw[em]at x3;have c2:=FP (n:=2) (fun i j=>(uR s i j).x) (fun i j=>(X i j).x) (red 2 (vM (sK s)) 4).2 _ _ (by decide) x3 ⟨_,_,rfl⟩ ⟨_,_,rfl⟩ hpv;rw[e1]at x2;clear hpv x3
 generalize(red 2 (vM (sK s)) 4).1=N at x1 e2 e3 e4 e5
 refine⟨half,fun i j=>X i (2+j),c1,c2.A3 (fB.cell (D5 s)),(IS S hA (r:=2) (c:=2) (fun i j=>X i (2+j)) (uR half) (by decide) (by decide) fun i j hi hj=>⟨?_,Qa (x2 i (2+j) hi (by omega)) (by decide),?_⟩).tz (.refl _) (D5 half)⟩
 ·refine(x1 i (2+j) hi (by omega)).trans ?_
  have i0:(uR half 0 0).v=half.v:=congrArg Nu.v (if_pos ⟨rfl,rfl⟩);have i1:∀i j,¬(i=0∧j=0)→(uK [[0,0],[0,1]] i j).natAbs<2^60→(uR half i j).v=R.q (Rat.ofInt (uK [[0,0],[0,1]] i j)):=fun i j h h'=>(congrArg Nu.v (if_neg h)).trans (II h')
  match i,hi,j,hj with
  |0,_,0,_=>exact e2.trans (hv.symm.trans i0.symm)
  |0,_,1,_=>exact e3.trans (i1 0 1 (by decide) (by decide)).symm
  |1,_,0,_=>exact e4.trans (i1 1 0 (by decide) (by decide)).symm
  |1,_,1,_=>exact e5.trans (i1 1 1 (by decide) (by decide)).symm
 unfold uR;have h8:wB=3400:=rfl
 split
 ·rw[w1];show s.w+1≤wB;omega
 rw[xx];omega
end
open Go Go.Eng
open Go.Tw (El ax)
theorem Pb:∃(A:List R) (s:Nu A),Go.Tw.Src 64 A∧A.length≤3∧s.v*s.v=R.q 2∧s.w≤1∧Pr prog 19 [nX (ru 2)] (.aB [nX s.x,.one (.int .i64 0)]):=by
 have S0:Go.Tw.Src 64 []:=⟨fun k hk=>absurd hk (Nat.not_lt_zero _),fun k hk=>absurd hk (Nat.not_lt_zero _)⟩;have e:mkRat 2 1=Rat.ofInt 2:=by decide+kernel
 have hf:Go.Tw.bO [] 64 [] [mkRat 2 1] (R.q (mkRat 2 1)):=lA (n:=2) (d:=1) (by decide) (by decide) (by decide);have hn:R.nn (R.q (mkRat 2 1)):=R.br.2 (.inr (R.tP.2 (by decide+kernel)));obtain⟨A,x,S,_,hA,nx,c⟩:=ME S0 (by decide) (by decide) (c:=([],[mkRat 2 1])) hf hn;rw[e]at c;refine⟨A,⟨x,_,1,Nat.le_refl 1,nx.mono (by decide) (by decide)⟩,S,Nat.le_trans hA (by decide),?_,Nat.le_refl 1,c⟩;exact(R.dk hn).trans (congrArg R.q e)
theorem lC:Pr prog 4 [] (.one (.bool true)):=by
 obtain⟨A,s,S,h3,hs,hw,cq⟩:=Pb;have hA:Go.Tw.j9 A:=.inl h3;obtain⟨Xr,cr,qr⟩:=G5 S hA;obtain⟨Xk,ck,qk⟩:=Iv S hA;have cro:=M8 S hA;obtain⟨Xs,cs,qs⟩:=L4 S hA;obtain⟨half,Xi,ch,ci,qi⟩:=Px S hA hs hw;have i12:=jS [1,2] (by decide) (by decide);have i24:=jS [2,4] (by decide) (by decide);have i01:=jS [0,1] (by decide) (by decide);have i11:=jS [1,1] (by decide) (by decide);have i00:=jS [0,0] (by decide) (by decide);have i21:=jS [-2,1] (by decide) (by decide);have i50:=jS [5,0] (by decide) (by decide);have i5:=jS [5] (by decide) (by decide);have f2:=kH 2 (by decide) (by decide);have f0:=kH 0 (by decide) (by decide);have fr:=oi 1 2 (by decide) (by decide) (by decide) (by decide+kernel) (by decide+kernel);have fq:=rh (mkRat 1 2) [];have eq:=Ou [0] [0] (by decide) (q:=true) (by simp);refine pw func4 ⟨[0,1,2,3,4,5,6,7,8,9,11,13,14,15,16,17],[(6,(.cons 8 [6] (.cons 9 [] .nil .nil) .nil)),(7,.nil)]⟩ ?_;simp only[Tryz.f4,ntmps4,iz,seval];simp only[vx,T,seval];refine Cg i12 ?_;simp only[vx,T,seval,ak];refine Cg i24 ?_;simp only[vx,T,seval,ak];refine Cg cr ?_;simp only[vx,T,seval,eA,ao,ak];refine Cg ck ?_;simp only[vx,T,seval,eA,ao,ak];refine Cg cro ?_;simp only[vx,T,seval,eA,ao,ak];refine Cg f2 ?_;simp only[vx,T,seval,nX,nV,tC,ae];refine Cg cq ?_;simp only[vx,T,seval,nX,nV,tC,ae];refine Cg fr ?_;simp only[vx,T,seval,QV,QC];refine Cg fq ?_;simp only[vx,T,seval,nX,nV,tC,ae];refine Cg ch ?_;simp only[vx,T,seval,nX,nV,tC,ae];refine Cg f0 ?_;simp only[vx,T,seval,nX,nV,tC,ae];refine Cg i01 ?_;simp only[vx,T,seval,ak];refine Cg ci ?_;simp only[vx,T,seval,eA,ao,ak];refine Cg i11 ?_;simp only[vx,T,seval,ak];refine Cg i5 ?_;simp only[vx,T,seval,ak];refine Cg cs ?_;simp only[vx,T,seval,AA,ak];refine Cg i12 ?_;simp only[vx,T,seval,ak];refine Cg i00 ?_;simp only[vx,T,seval,ak];refine Cg qr ?_;simp only[vx,T,seval,ak];refine Cg eq ?_;simp only[vx,T,seval,ak];refine Cg i21 ?_;simp only[vx,T,seval,ak];refine Cg qk ?_;simp only[vx,T,seval,ak];refine Cg eq ?_;simp only[vx,T,seval,ak];refine Cg f0 ?_;simp only[vx,T,seval,nX,nV,tC,ae];refine Cg i01 ?_;simp only[vx,T,seval,ak];refine Cg qi ?_;simp only[vx,T,seval,ak];refine Cg i50 ?_;simp only[vx,T,seval,ak];refine Cg qs ?_;simp only[vx,T,seval,ak];exact Ve rfl
open Go Go.Eng
open Go.Tw (El ax TG)
open Go.Mx (sm iv gN red lR free)
open Go Go.Eng
open Go.Tw (El ax TG)
open Go.Mx (sm iv gN red lR)
end Go.Proofs.YtchkplkghknabaaGreat
namespace Go.Eng
open Go Go.ChangeShapes Go.WideShapes Go.Deep
def pZ (P:Program):Nat→List Field→Nat→Bool
 |off,[],tot=>off==tot
 |off,f::r,tot=>f.offset==off&&pZ P (off+P.cellsOf f.type) r tot
def xc (P:Program)(S:List TypeId):Bool:=S.all fun t=>
 match P.underlying t with
 |some .bool=>true
 |some (.int _)=>true
 |some .string=>true
 |some (.slice e)=>decide (0<P.cellsOf e)&&S.contains e&&(match P.underlying e with|some (.int _)=>P.cellsOf e==1|_=>true)
 |some (.struct fs)=>pZ P 0 fs.toList (P.cellsOf t)&&fs.toList.all fun f=>S.contains f.type
 |some (.array n e)=>S.contains e&&P.cellsOf t==n*P.cellsOf e
 |_=>false
def PC (R:TypeId→List C→Prop):List Field→List C→Prop
 |[],cs=>cs=[]
 |f::r,cs=>∃c1 c2,cs=c1++c2∧R f.type c1∧PC R r c2
def oD (P:Program)(B:Nat):Nat→TypeId→List C→Prop
 |0,_,_=>False
 |n+1,t,cs=>
  match P.underlying t with
  |some .bool=>∃b,cs=[.bool b]
  |some (.int k)=>∃x,cs=[.int k x]∧k.min≤x∧x≤k.max
  |some .string=>∃s:ByteArray,cs=[.str s]∧s.size≤B
  |some (.slice e)=>
   match P.underlying e with
   |some (.int k)=>∃xs:List Int,cs=[.ints k xs]∧xs.length≤B∧∀x∈xs,k.min≤x∧x≤k.max
   |_=>∃m f,cs=[.rows (P.cellsOf e) m f]∧m≤B∧∀i,i<m→oD P B n e ((List.range (P.cellsOf e)).map (f i))
  |some (.struct fs)=>PC (oD P B n) fs.toList cs
  |some (.array m e)=>∃l:List (List C),cs=l.flatten∧l.length=m∧∀c∈l,oD P B n e c
  |_=>False
theorem oD.mono {P:Program}{B B':Nat}(hB:B≤B'):∀{n:Nat} {t:TypeId} {cs:List C},oD P B n t cs→oD P B' n t cs:=by
 intro n
 induction n with
 |zero=>intro t cs h;exact h
 |succ n ih=>
  intro t cs h;have hf:∀(fs:List Field) (cs:List C),PC (oD P B n) fs cs→PC (oD P B' n) fs cs:=by
   intro fs
   induction fs with
   |nil=>intro cs h;exact h
   |cons f r ihf=>
    rintro cs ⟨c1,c2,rfl,h1,h2⟩;exact⟨c1,c2,rfl,ih h1,ihf c2 h2⟩
  simp only[oD]at h⊢
  split at h
  ·exact h
  ·exact h
  ·obtain⟨s,h1,h2⟩:=h;exact⟨s,h1,Nat.le_trans h2 hB⟩
  ·split at h
   ·obtain⟨xs,h1,h2,h3⟩:=h;exact⟨xs,h1,Nat.le_trans h2 hB,h3⟩
   obtain⟨m,f,h1,h2,h3⟩:=h;exact⟨m,f,h1,Nat.le_trans h2 hB,fun i hi=>ih (h3 i hi)⟩
  ·exact hf _ _ h
  ·obtain⟨l,h1,h2,h3⟩:=h;exact⟨l,h1,h2,fun c hc=>ih (h3 c hc)⟩
  exact h
structure Nl {H:Type} (bulk:DataW H→Nat):Prop where
 str:∀s:List UInt8,s.length≤bulk (.lit (.string s))
 sl:∀el sp,el.length≤bulk (.slice el sp)∧∀d∈el,bulk d≤bulk (.slice el sp)
 agg:∀ps d,d∈ps→bulk d≤bulk (.agg ps)
def PR {H:Type}(bulk:DataW H→Nat)(B:Nat)(d:DataW H):Prop:=maxLen≤B∨(Nl bulk∧bulk d≤B)
def gu (ok:Nat→Prop)(w:World):List C→List Value→Prop
 |[],[]=>True
 |c::cs,v::vs=>aP ok w c v∧gu ok w cs vs
 |_,_=>False
theorem gu.append {ok:Nat→Prop}{w:World}:∀{a b:List C} {x y:List Value},gu ok w a x→gu ok w b y→gu ok w (a++b) (x++y)
 |[],_,[],_,_,h=>h
 |_::_,_,_::_,_,h1,h2=>⟨h1.1,gu.append h1.2 h2⟩
 |[],_,_::_,_,h,_=>h.elim
 |_::_,_,[],_,h,_=>h.elim
theorem gu.length {ok:Nat→Prop}{w:World}:∀{a:List C} {x:List Value},gu ok w a x→a.length=x.length
 |[],[],_=>rfl
 |_::_,_::_,h=>by simp[gu.length h.2]
 |[],_::_,h=>h.elim
 |_::_,[],h=>h.elim
theorem gu.get {ok:Nat→Prop}{w:World}:∀{a:List C} {x:List Value},gu ok w a x→∀j,j<a.length→∃u,x[j]? =some u∧aP ok w (a.getD j .any) u
 |_::_,u::_,h,0,_=>⟨u,rfl,h.1⟩
 |_::_,_::_,h,j+1,hj=>by simpa using gu.get h.2 j (by simpa using hj)
 |[],[],_,j,hj=>absurd hj (by simp)
 |[],_::_,h,_,_=>h.elim
 |_::_,[],h,_,_=>h.elim
theorem gu.Pd {ok:Nat→Prop}{w:World}:∀{a:List C} {x:List Value},gu ok w a x→bG bg bm ok w a x
 |[],[],_=>trivial
 |_::_,_::_,h=>⟨aC.bh h.1,gu.Pd h.2⟩
 |[],_::_,h=>h.elim
 |_::_,[],h=>h.elim
theorem Jd {w:World}{a:Addr}{v:Value}(h:w.cell? a=some v):a.block<w.heap.size∧a.spot=none:=by
 unfold World.cell? at h
 split at h
 ·rename_i c _ _ hb
  refine⟨(Array.getElem?_eq_some_iff.1 hb).1,?_⟩
  split at h
  ·cases h
  rename_i hs
  cases Yp:a.spot with
  |none=>rfl
  |some x=>rw[Yp]at hs;simp at hs
 cases h
section
variable {H:Type}{bulk:DataW H→Nat}{B:Nat}{enc:TypeId×Value→H}{P:Program}{w:World}{base:Nat}{spare:Nat→Bool}{held:Bool}
theorem ES {S:List TypeId}(hS:xc P S=true):∀(fuel:Nat) (t:TypeId) (vs:List Value) (x:DataW H×List MemPlace),t∈S→DataW.trod enc P w base spare held fuel t vs=some x→PR bulk B x.1→
  ∃cs,oD P B fuel t cs∧gu (fun g=>g<w.heap.size) w cs vs:=by
 intro fuel
 induction fuel with
 |zero=>intro t vs x _ h _;simp[DataW.trod]at h
 |succ fuel ih=>
  intro t vs x ht h hb;have hc:=List.all_eq_true.1 hS t ht;simp only[oD]
  cases hu:P.underlying t with
  |none=>rw[hu]at hc;simp at hc
  |some d=>
   rw[hu]at hc
   cases d with
   |bool=>
    obtain⟨b,rfl,_⟩:=DataW.trod_bool hu h;exact⟨[.bool b],⟨b,rfl⟩,rfl,trivial⟩
   |int k=>
    obtain⟨n,rfl,_,hw⟩:=DataW.trod_int hu h;simp only[Lit.wf,Bool.and_eq_true,decide_eq_true_eq]at hw;exact⟨[.int k n],⟨n,rfl,hw⟩,rfl,trivial⟩
   |string=>
    obtain⟨s,rfl,hx,hs⟩:=DataW.trod_string hu h;refine⟨[.str s],⟨s,rfl,?_⟩,rfl,trivial⟩
    rcases hb with hb|⟨hb,Sn⟩
    ·omega
    have h1:=hb.str s.data.toList;rw[hx]at Sn;have Sn:bulk (.lit (.string s.data.toList))≤B:=Sn;have h2:s.data.toList.length=s.size:=Array.length_toList;omega
   |slice e=>
    simp only[Bool.and_eq_true,decide_eq_true_eq]at hc;obtain⟨⟨R1,he⟩,hk⟩:=hc;have he:e∈S:=by simpa using he
    have Sg:(vs=[.slice none 0 0])∨∃(a:Addr) (len cap:Nat),vs=[.slice (some a) len cap]∧len≤cap∧len≤B∧
      ∀i,i<len→∃cs',w.cells? base (a.add (i*P.cellsOf e)) (P.cellsOf e)=some cs'∧∃y,DataW.trod enc P w base spare held fuel e cs'=some y∧PR bulk B y.1:=by
     rcases DataW.trod_slice hu h with⟨rfl,_⟩|⟨a,len,cap,elems,rest,n,hn,rfl,hx,_,hl,hm,hlen,Wl,_,_⟩
     ·exact .inl rfl
     have Ww:len≤B:=by
      rcases hb with hb|⟨hb,Sn⟩
      ·omega
      have h1:=(hb.sl (elems.map (·.1)) (rest.map (·.1))).1;rw[hx]at Sn;rw[List.length_map]at h1;have Sn:bulk (.slice (elems.map (·.1)) (rest.map (·.1)))≤B:=Sn;omega
     refine .inr ⟨a,len,cap,rfl,hl,Ww,fun i hi=>?_⟩;obtain rfl:fuel=n:=by omega
     have h1:=Wl i hi;rw[X8 (by omega)]at h1
     cases Sc:w.cells? base (a.add (i*P.cellsOf e)) (P.cellsOf e)with
     |none=>rw[Sc]at h1;simp at h1
     |some cs'=>
      rw[Sc]at h1;refine⟨cs',rfl,_,h1,?_⟩
      rcases hb with hb|⟨hb,Sn⟩
      ·exact .inl hb
      refine .inr ⟨hb,?_⟩;have h2:=(hb.sl (elems.map (·.1)) (rest.map (·.1))).2 elems[i].1 (List.mem_map.2 ⟨elems[i],List.getElem_mem _,rfl⟩);rw[hx]at Sn;exact Nat.le_trans h2 Sn
    -- by rows
    have Wb:∃m f,m≤B∧(∀i,i<m→oD P B fuel e ((List.range (P.cellsOf e)).map (f i)))∧∃v,vs=[v]∧aP (fun g=>g<w.heap.size) w (.rows (P.cellsOf e) m f) v:=by
     rcases Sg with rfl|⟨a,len,cap,rfl,hl,hm,Wl⟩
     ·exact⟨0,fun _ _=>.any,Nat.zero_le _,fun i hi=>absurd hi (Nat.not_lt_zero _),_,rfl,none,0,rfl,Nat.le_refl _,.inl rfl⟩
     have hex:∀i,i<len→∃cs,oD P B fuel e cs∧cs.length=P.cellsOf e∧∀j,j<P.cellsOf e→∃u,w.cell? ((a.add (i*P.cellsOf e)).add j)=some u∧aP (fun g=>g<w.heap.size) w (cs.getD j .any) u:=by
      intro i hi;obtain⟨cs',XT,y,hy,hyb⟩:=Wl i hi;obtain⟨_,Tx,R0⟩:=World.cells?_some XT;obtain⟨cs,R6,RG⟩:=ih e cs' y he hy hyb;have hlen:cs.length=P.cellsOf e:=by rw[RG.length,Tx]
      refine⟨cs,R6,hlen,fun j hj=>?_⟩;obtain⟨u,hu,hr⟩:=RG.get j (by omega);exact⟨u,by rw[R0 j hj,hu],hr⟩
     obtain⟨g,hg⟩:=Classical.axiomOfChoice (r:=fun(i:Nat) (cs:List C)=>i<len→oD P B fuel e cs∧cs.length=P.cellsOf e∧∀j,j<P.cellsOf e→∃u,w.cell? ((a.add (i*P.cellsOf e)).add j)=some u∧aP (fun g=>g<w.heap.size) w (cs.getD j .any) u) (fun i=>by
      by_cases hi:i<len
      ·obtain⟨cs,h⟩:=hex i hi;exact⟨cs,fun _=>h⟩
      exact⟨[],fun h=>absurd h hi⟩)
     refine⟨len,fun i j=>(g i).getD j .any,hm,fun i hi=>?_,_,rfl,some a,cap,rfl,hl,?_⟩
     ·obtain⟨h1,h2,_⟩:=hg i hi;have e:(List.range (P.cellsOf e)).map (fun j=>(g i).getD j .any)=g i:=by
       refine List.ext_getElem (by simp[h2]) fun j hj1 hj2=>?_
       simp[X7,X8 hj2]
      rw[e];exact h1
     by_cases h0:len=0
     ·exact .inl h0
     right
     obtain⟨u,hu,_⟩:=(hg 0 (by omega)).2.2 0 R1;rw[Nat.zero_mul]at hu;have Zp:(a.add 0).add 0=a:=by simp[Addr.add]
     rw[Zp]at hu;obtain⟨RE,Yp⟩:=Jd hu;refine⟨a.block,a.off,?_,RE,fun i j hi hj=>?_⟩
     ·obtain⟨b,o,s⟩:=a;simp only at Yp;subst Yp;rfl
     obtain⟨u,hu,hr⟩:=(hg i hi).2.2 j hj;refine⟨u,?_,hr⟩;rw[←hu]
     congr 1
     obtain⟨b,o,s⟩:=a;simp only at Yp;subst Yp;unfold Addr.add
     split<;>split<;>simp_all<;>omega
    simp only
    cases hue:P.underlying e with
    |none=>
     obtain⟨m,f,h1,h2,v,rfl,h3⟩:=Wb;exact⟨[.rows (P.cellsOf e) m f],⟨m,f,rfl,h1,h2⟩,h3,trivial⟩
    |some de=>
     cases de with
     |int k=>
      rw[hue]at hk;have hk:P.cellsOf e=1:=by simpa using hk
      obtain⟨m,f,h1,h2,v,rfl,a,cap,rfl,h4,h5⟩:=Wb;have Yh:∀i,i<m→∃x,f i 0= .int k x∧k.min≤x∧x≤k.max:=by
       intro i hi
       have:=h2 i hi
       rw[hk]at this
       cases fuel with
       |zero=>exact this.elim
       |succ fuel=>
        simp only[oD,hue]at this;obtain⟨x,hx,hr⟩:=this;simp only[List.range_succ,List.range_zero,List.nil_append,List.map_cons,List.map_nil,List.cons.injEq,and_true]at hx;exact⟨x,hx,hr⟩
      obtain⟨g,hg⟩:=Classical.axiomOfChoice (r:=fun(i:Nat) (x:Int)=>i<m→f i 0= .int k x∧k.min≤x∧x≤k.max) (fun i=>by
       by_cases hi:i<m
       ·obtain⟨x,h⟩:=Yh i hi;exact⟨x,fun _=>h⟩
       exact⟨0,fun h=>absurd h hi⟩)
      have hlen:((List.range m).map g).length=m:=by simp
      refine⟨[.ints k ((List.range m).map g)],⟨_,rfl,by rw[hlen];exact h1,fun x hx=>?_⟩,⟨a,cap,by rw[hlen],by rw[hlen];exact h4,?_⟩,trivial⟩
      ·obtain⟨i,hi,rfl⟩:=List.mem_map.1 hx;exact(hg i (List.mem_range.1 hi)).2
      rw[hlen]
      rcases h5 with h5|⟨b,o,ha,hb,R0⟩
      ·exact .inl h5
      refine .inr ⟨b,o,ha,hb,fun i hi=>?_⟩;obtain⟨u,hu,hr⟩:=R0 i 0 hi (by omega);rw[(hg i hi).1]at hr;have hr:u= .int k (g i):=hr;rw[hk,Nat.mul_one,Nat.add_zero]at hu;rw[hu,hr]
      simp[X7,hi]
     |_=>
      obtain⟨m,f,h1,h2,v,rfl,h3⟩:=Wb;exact⟨[.rows (P.cellsOf e) m f],⟨m,f,rfl,h1,h2⟩,h3,trivial⟩
   |struct fs=>
    simp only[Bool.and_eq_true]at hc;obtain⟨XU,VP⟩:=hc;obtain⟨xs,n,hn,hx,Tx,U8,hf⟩:=DataW.trod_struct hu h;obtain rfl:fuel=n:=by omega
    have RI:∀f∈fs.toList,∃y,DataW.trod enc P w base spare held fuel f.type ((vs.drop f.offset).take (P.cellsOf f.type))=some y∧PR bulk B y.1:=by
     intro f hfm;obtain⟨i,hi,rfl⟩:=List.mem_iff_getElem.1 hfm;have Tm:i<fs.size:=by simpa using hi
     have h1:=hf i fs[i] (Array.getElem?_eq_getElem Tm);rw[X8 (by omega)]at h1;refine⟨xs[i],by simpa using h1,?_⟩
     rcases hb with hb|⟨hb,Sn⟩
     ·exact .inl hb
     refine .inr ⟨hb,?_⟩;have h2:=hb.agg (xs.map (·.1)) xs[i].1 (List.mem_map.2 ⟨xs[i],List.getElem_mem _,rfl⟩);rw[hx]at Sn;exact Nat.le_trans h2 Sn
    have VP:∀f∈fs.toList,f.type∈S:=fun f hf=>by simpa using List.all_eq_true.1 VP f hf
    simp only
    -- field by field
    have key:∀(l:List Field) (off:Nat),(∀f∈l,∃y,DataW.trod enc P w base spare held fuel f.type ((vs.drop f.offset).take (P.cellsOf f.type))=some y∧PR bulk B y.1)→(∀f∈l,f.type∈S)→pZ P off l vs.length=true→
      ∃cs,PC (oD P B fuel) l cs∧gu (fun g=>g<w.heap.size) w cs (vs.drop off):=by
     intro l
     induction l with
     |nil=>
      intro off _ _ UU;simp only[pZ,beq_iff_eq]at UU;exact⟨[],rfl,by rw[List.drop_eq_nil_of_le (by omega)];trivial⟩
     |cons f r ihl=>
      intro off hy hm UU;simp only[pZ,Bool.and_eq_true,beq_iff_eq]at UU;obtain⟨ho,UU⟩:=UU;obtain⟨y,hy1,hy2⟩:=hy f (by simp);obtain⟨c1,h1,h2⟩:=ih f.type _ y (hm f (by simp)) hy1 hy2;obtain⟨c2,h3,h4⟩:=ihl (off+P.cellsOf f.type) (fun g hg=>hy g (by simp[hg])) (fun g hg=>hm g (by simp[hg])) UU;refine⟨c1++c2,⟨c1,c2,rfl,h1,h3⟩,?_⟩;have e:vs.drop off=(vs.drop f.offset).take (P.cellsOf f.type)++vs.drop (off+P.cellsOf f.type):=by
       rw[ho,←List.drop_drop,List.take_append_drop]
      rw[e];exact h2.append h4
    have:=key fs.toList 0 RI VP (by rw[Tx];exact XU)
    rwa [List.drop_zero]at this
   |array m e=>
    simp only[Bool.and_eq_true,beq_iff_eq]at hc;obtain⟨he,SJ⟩:=hc;have he:e∈S:=by simpa using he
    obtain⟨xs,n,hn,hx,Tx,U8,hf⟩:=DataW.trod_array hu h;obtain rfl:fuel=n:=by omega
    simp only;have key:∀j,j≤m→∃l:List (List C),l.length=j∧(∀c∈l,oD P B fuel e c)∧gu (fun g=>g<w.heap.size) w l.flatten (vs.take (j*P.cellsOf e)):=by
     intro j
     induction j with
     |zero=>intro _;exact⟨[],rfl,fun c hc=>(by cases hc),by rw[Nat.zero_mul];trivial⟩
     |succ j ihj=>
      intro hj;obtain⟨l,h1,h2,h3⟩:=ihj (by omega);have h4:=hf j (by omega);rw[X8 (by omega)]at h4;obtain⟨c,h5,h6⟩:=ih e _ xs[j] he h4 (by
       rcases hb with hb|⟨hb,Sn⟩
       ·exact .inl hb
       refine .inr ⟨hb,?_⟩;have h2:=hb.agg (xs.map (·.1)) xs[j].1 (List.mem_map.2 ⟨xs[j],List.getElem_mem _,rfl⟩);rw[hx]at Sn;exact Nat.le_trans h2 Sn)
      refine⟨l++[c],by rw[X6,h1];rfl,fun x hx=>?_,?_⟩
      ·rcases List.mem_append.1 hx with hx|hx
       ·exact h2 x hx
       obtain rfl:=List.mem_singleton.1 hx;exact h5
      rw[List.flatten_append,Nat.add_mul,Nat.one_mul,List.take_add];refine h3.append ?_
      simpa using h6
    obtain⟨l,h1,h2,h3⟩:=key m (Nat.le_refl _);rw[←SJ,←Tx,List.take_length]at h3;exact⟨l.flatten,⟨l,rfl,h1,h2⟩,h3⟩
   |_=>simp at hc
theorem tu {S:List TypeId}(hS:xc P S=true){t:TypeId}(ht:t∈S){us:Array Value}{d:DataW H}{p:List MemPlace}(h:DataW.Trod enc P w base spare held t (.agg us) d p)(hb:PR bulk B d):
  ∃n cs,oD P B n t cs∧dM bg bm (fun g=>g<w.heap.size) w (.agg cs) (.agg us):=by
 obtain⟨fuel,hf⟩:=h;obtain⟨cs,h1,h2⟩:=ES hS fuel t _ _ ht hf hb;exact⟨fuel,cs,h1,us,rfl,h2.Pd⟩
end
end Go.Eng
namespace Go.Eng
open Go Go.ChangeShapes Go.WideShapes Go.RowKit
section
variable {H:Type}{enc:TypeId×Value→H}{P:Program}
theorem wx (hl:laidOutB P=true){t:TypeId}(hr:P.readableRec t=true)(Xp:t<P.types.size){W W':World}{v:Value}{d:DataW H}{ps:List MemPlace}(h:DataW.Trod enc P W 0 (fun _=>true) true t v d ps)
  (hb:Below W.heap.size W W') (RE:∀x∈ps,x.block<W.heap.size):DataW.Trod enc P W' 0 (fun b=>decide (b<W.heap.size)) true t v d ps:=
 Below.trod hl hr Xp h hb RE
theorem HH {f:Func}{s:ChangeSpec}{W W':World}{args:Array Value}{ds:List (DataW H)}{before:List MemPlace}{tb:TypeId}
  (hW:DataW.Whole enc P f.params.toList s.vars false W args.toList ds [] before) (hv:s.vars=[]) (hrt:f.resultTypes= #[tb]) (htb:P.underlying tb=some .bool)
  (SY:(s.fn H (ds++[])).results=[.lit (.bool true)]) (RH:DataW.TrodAll enc P W' 0 (fun b=>decide (b<W.heap.size)) true f.params.toList args.toList (s.fn H (ds++[])).args before)
  (Sd:(s.fn H (ds++[])).vars=[]) (hb:Below W.heap.size W W'):s.post enc P f false true false false W args (.bool true) W':=by
 refine⟨ds,[],before,[],before,[],hW,?_,RH,?_,World.keptBut_mono (fun p hp=>⟨hp,.inr (.inl hp)⟩) (hb.frame (· ∈before)),fun h=>by cases h⟩
 ·rw[SY,hrt];exact trodAll_mk1 (shut_bool htb true)
 rw[hv,Sd];rfl
end
end Go.Eng
namespace Go.Proofs.YtchkplkghknabaaGreat
open Go.Proofs.Tryz
open Go Go.Eng
set_option maxRecDepth 100000 in
theorem C1:xc prog [26,23,98,24,5,96]=true:=by kernel_rfl
def OP:List C→List C→Prop
 |[],[]=>True
 |a::x,b::y=>dB a b∧OP x y
 |_,_=>False
theorem OP.rep {ok:Nat→Prop}{w:World}:∀{a b:List C} {vs:List Value},OP a b→bG bg bm ok w a vs→bG bg bm ok w b vs
 |[],[],_,_,h=>h
 |_::_,_::_,[],_,h=>h.elim
 |_::_,_::_,_::_,ha,h=>⟨aC.bh (ha.1 _ _ _ (aP.dZ h.1)),OP.rep ha.2 h.2⟩
 |[],_::_,_,ha,_=>ha.elim
 |_::_,[],_,ha,_=>ha.elim
theorem vT {a b:List C}(h:OP a b):ua (.agg a) (.agg b):=fun ok w v hr=>by
 obtain⟨vs,e,hl⟩:=hr;exact⟨vs,e,h.rep hl⟩
theorem sI {n:Nat}{cs:List C}(h:oD prog maxLen n 5 cs):∃x:Nat,cs=[.int .u8 x]∧x<256:=by
 cases n with
 |zero=>exact h.elim
 |succ n=>
  simp only[oD,Tryz.underlying5]at h;obtain⟨x,rfl,h1,h2⟩:=h;have e1:IntKind.u8.min=0:=rfl;have e2:IntKind.u8.max=255:=rfl;rw[e1]at h1;rw[e2]at h2;exact⟨x.toNat,by rw[Int.toNat_of_nonneg h1],by omega⟩
theorem Oj {n:Nat}{cs:List C}(h:oD prog maxLen n 98 cs):∃o:Bv,cs=(List.range 5).map (oC o)∧o.Ok:=by
 cases n with
 |zero=>exact h.elim
 |succ n=>
  simp only[oD,Tryz.underlying98]at h;obtain⟨c1,c2,rfl,h1,c3,c4,rfl,h2,c5,c6,rfl,h3,c7,c8,rfl,h4,c9,c10,rfl,h5,h6⟩:=h;have h6:c10=[]:=h6;subst h6;obtain⟨k,rfl,k1⟩:=sI h1;obtain⟨a,rfl,k2⟩:=sI h2;obtain⟨b,rfl,k3⟩:=sI h3;obtain⟨d,rfl,k5⟩:=sI h5
  cases n with
  |zero=>exact h4.elim
  |succ n=>
   simp only[oD,Tryz.underlying96]at h4;obtain⟨x,rfl,k4⟩:=h4;have e1:IntKind.i8.min= -128:=rfl;have e2:IntKind.i8.max=127:=rfl;rw[e1,e2]at k4;exact⟨⟨k,a,b,x,d⟩,rfl,k1,k2,k3,k4,k5⟩
set_option maxRecDepth 100000 in
theorem CH {n:Nat}{cs:List C}(h:oD prog maxLen n 23 cs):∃(c:C) (r:List Bv),cs=[c]∧(∀o∈r,o.Ok)∧r.length<2^63∧dB c (CU r):=by
 cases n with
 |zero=>exact h.elim
 |succ n=>
  simp only[oD,Tryz.underlying23,Tryz.underlying98]at h;obtain⟨m,f,hc,ZL,hm⟩:=h;have h5:prog.cellsOf 98=5:=by kernel_rfl
  rw[h5]at hc hm;subst hc;obtain⟨g,hg⟩:=Classical.axiomOfChoice (r:=fun(i:Nat) (a:Bv)=>i<m→(List.range 5).map (f i)=(List.range 5).map (oC a)∧a.Ok) (fun i=>by
   by_cases hi:i<m
   ·obtain⟨a,h1,h2⟩:=Oj (hm i hi);exact⟨a,fun _=>⟨h1,h2⟩⟩
   exact⟨default,fun h=>absurd h hi⟩)
  refine⟨_,(List.range m).map g,rfl,fun a ha=>?_,?_,dB.rows (by simp) fun i j hi hj=>dB.of_eq ?_⟩
  ·obtain⟨i,hi,rfl⟩:=List.mem_map.1 ha;exact(hg i (List.mem_range.1 hi)).2
  ·have:maxLen<2^63:=by decide
   simp only[List.length_map,List.length_range];omega
  have h1:=congrArg (fun l:List C=>l[j]?) (hg i hi).1;simp only[List.getElem?_map,List.getElem?_range hj,Option.map_some,Option.some.injEq]at h1;rw[h1]
  congr 1
  rw[X7,List.getElem?_map,List.getElem?_range hi];rfl
def QX (l:List Int):Prop:=l.length<2^63∧∀i,i<l.length→0≤l.getD i 0∧l.getD i 0<256
theorem Jp {n:Nat}{cs:List C}(h:oD prog maxLen n 24 cs):∃l:List Int,cs=[.ints .u8 l]∧QX l:=by
 cases n with
 |zero=>exact h.elim
 |succ n=>
  simp only[oD,Tryz.underlying24,Tryz.underlying5]at h;obtain⟨l,rfl,h1,h2⟩:=h;have e1:IntKind.u8.min=0:=rfl;have e2:IntKind.u8.max=255:=rfl;rw[e1,e2]at h2
  have:maxLen<2^63:=by decide
  refine⟨l,rfl,by omega,fun i hi=>?_⟩
  have:=h2 (l.getD i 0) (by rw[X7,X8 hi];exact List.getElem_mem _)
  omega
set_option maxRecDepth 100000 in
theorem y9 {n:Nat}{cells:List C}(h:oD prog maxLen n 26 cells):∃(r:List Bv) (cs:List Int) (s:Nat),(∀o∈r,o.Ok)∧r.length<2^63∧QX cs∧s<256∧OP cells [CU r,.ints .u8 cs,.int .u8 s]:=by
 cases n with
 |zero=>exact h.elim
 |succ n=>
  simp only[oD,Tryz.underlying26]at h;obtain⟨c1,r1,rfl,h1,c2,r2,rfl,h2,c3,r3,rfl,h3,h4⟩:=h;have h4:r3=[]:=h4;subst h4;obtain⟨c,r,rfl,hr,hl,hle⟩:=CH h1;obtain⟨cs,rfl,hc⟩:=Jp h2;obtain⟨s,rfl,hs⟩:=sI h3;exact⟨r,cs,s,hr,hl,hc,hs,hle,.refl _,.refl _,trivial⟩
theorem I8 (s:Nat):1≤fX s∧fX s≤12:=by
 have:=Nat.mod_lt s (show 0<12 by decide)
 unfold fX;omega
theorem zq {l most:Nat}(s:Nat)(h:l≤most):(l/fX s=0→BM (l/fX s) (fX s)=0)∧l/fX s*BM (l/fX s) (fX s)≤most∧l/fX s≤most∧BM (l/fX s) (fX s)≤12:=by
 have hw:=I8 s;have h1:=Nat.div_mul_le_self l (fX s);have h2:=Nat.div_le_self l (fX s);unfold BM;refine⟨fun e=>if_pos e,?_,by omega,?_⟩
 ·split
  ·omega
  omega
 split<;>omega
open Go Go.Eng
open Go.Tw (El ax TG bO gW Ra)
noncomputable def yM (A:List R):List R:=A.filter fun a=>@decide (Ra 64 a) (Classical.propDecidable _)
theorem sh {A:List R}{a:R}:a∈yM A↔a∈A∧Ra 64 a:=by
 unfold yM;rw[List.mem_filter];exact⟨fun h=>⟨h.1,@of_decide_eq_true _ (Classical.propDecidable _) h.2⟩,fun h=>⟨h.1,@decide_eq_true _ (Classical.propDecidable _) h.2⟩⟩
theorem DB {A:List R}{B:Nat}(S:Go.Tw.Src B A){a:R}(ha:a∈A):R.pos a:=by
 obtain⟨k,hk,e⟩:=List.mem_iff_getElem.1 ha
 have:=S.pos k hk
 rwa [X7,X8 hk,Option.getD_some,e]at this
theorem Lo {A B:List R}(S:Go.Tw.Src 64 A)(T:Go.Tw.Src 64 B):Go.Tw.Src 64 (yM A++yM B):=by
 have key:∀k,k<(yM A++yM B).length→R.pos ((yM A++yM B).getD k (R.q 0))∧Ra 64 ((yM A++yM B).getD k (R.q 0)):=fun k hk=>by
  rw[X7,X8 hk,Option.getD_some]
  rcases List.mem_append.1 (List.getElem_mem hk)with h|h
  ·obtain⟨h1,h2⟩:=sh.1 h;exact⟨DB S h1,h2⟩
  obtain⟨h1,h2⟩:=sh.1 h;exact⟨DB T h1,h2⟩
 refine⟨fun k hk=>(key k hk).1,fun k hk=>?_⟩;obtain⟨x,e,h1,h2⟩:=(key k hk).2;rw[e];refine⟨0,[],[x],Nat.zero_le _,rfl,fun c hc=>?_,fun j hj=>absurd hj (Nat.not_lt_zero _),rfl⟩;rw[List.mem_singleton.1 hc];exact⟨h1,h2⟩
theorem KS {A B:List R}(h1:A.length≤3)(h2:B.length≤3):Go.Tw.j9 (yM A++yM B):=by
 refine .inr ⟨?_,fun a ha=>?_⟩
 ·have k1:(yM A).length≤A.length:=by unfold yM;exact List.length_filter_le _ _
  have k2:(yM B).length≤B.length:=by unfold yM;exact List.length_filter_le _ _
  rw[X6];omega
 rcases List.mem_append.1 ha with h|h<;>exact (sh.1 h).2
theorem tK {A B:List R}{x:List El×El}{v:R}(h:bO A 64 x.1 x.2 v)(h1:x.1.length≤1)(hs:∀a,a∈yM A→a∈B):ax B x.1 x.2 v (300*1-1) (3*1):=by
 have T:TG B x.1:=by
  refine⟨h.tg.rd,fun j hj=>hs _ (sh.2 ⟨h.tg.mem j hj,?_⟩)⟩;obtain rfl:j=0:=by omega
  have hl:=(h.tg.rd.rl 0 hj).1;obtain⟨y,e⟩:=Go.Tw.bx hl;have hb:=h.tb 0 hj;rw[e]at hb⊢;obtain⟨k1,k2⟩:=hb y (by simp);exact⟨y,rfl,k1,k2⟩
 refine⟨T,h.len,h.val,fun c=>?_⟩;rw[←h.val]
 refine(Go.Tw.Sz.expr (c:=c) h.len h.bits (fun j hj=>.gen ⟨⟨_,T.mem j hj,rfl⟩,rfl⟩)).mono ?_
 have e:=Go.Tw.ti (B:=64) (c:=c) x.1.length
 rcases(by omega:x.1.length=0∨x.1.length=1)with h|h<;>rw [h]at e⊢<;>omega
theorem Mj (r:List Bv)(hr:∀o∈r,o.Ok)(Vz:r.length<2^63):∃(A:List R) (n:Nat) (a:Nat→Nb),Go.Tw.Src 64 A∧A.length≤3∧n≤24∧Pr prog 28 [.one (CU r)] (.one (ak n a))∧
  Pr prog 29 [.one (ak n a)] (.one (.bool true))∧∀v,∃w,bO A 64 (LP n a v).1 (LP n a v).2 w:=by
 obtain⟨A,l,S,hA,hl,hs,cb⟩:=Jl r hr Vz;have get:∀i,i<l.length→∃v,bO A 64 (l.getD i default).1 (l.getD i default).2 v:=fun i hi=>hs _ (by rw[X7,X8 hi];exact List.getElem_mem _);refine⟨A,l.length,fun i=>l.getD i default,S,hA,hl,cb,OF l (by omega) fun i hi=>?_,fun v=>?_⟩
 ·obtain⟨v,hv⟩:=get i hi;exact yu S (.inl hA) hv
 by_cases h0:l.length=0
 ·rw[show LP l.length (fun i=>l.getD i default) v=ru 0 from if_pos h0];exact⟨_,lA (n:=0) (d:=1) (by decide) (by decide) (by decide)⟩
 rw[show LP l.length (fun i=>l.getD i default) v=_ from if_neg h0];exact get _ (Nat.mod_lt v (by omega))
open Go Go.Eng
open Go.Tw (El)
section
variable {r:Nat}{c:Nat→Nat}(m:Nat→Nat→Nb)(hr:r<2^38)(h:¬∀i,i<r→c i=c 0)
include hr h
end
theorem Gz {r:Nat}(c:Nat→Nat)(m:Nat→Nat→Nb)(hr:r<2^38){b:Bool}(hb:b=true↔∀i,i<r→c i=c 0):Pr prog 37 [.one (ao r c m)] (.one (.bool b)):=by
 refine pw func37 ⟨[0,2,3,7,19],[]⟩ ?_;simp only[Tryz.f37,ntmps37,iz,seval];simp only[vx,T,seval,ao,ak];refine Lk (fun y:{i:Nat//i≤r∧∀j,j<i→c j=c 0}=>⟨[(0,.one (ao r c m)),(2,.one (.bool false)),(3,.one (.int .i64 y.1))],[],1,20⟩) (fun y=>r-y.1) ⟨0,Nat.zero_le _,fun j hj=>absurd hj (Nat.not_lt_zero _)⟩ ?_ (fun⟨i,hi,hz⟩=>?_)
 ·refine Sa ?_;simp only[ry,seval,rz,ao,ak]
 simp only;have wi:=wI i (by omega);simp only[vx,T,seval,ao,ak];refine⟨fun g=>Lg ?_,fun g=>Lg ?_⟩
 ·have Xd:i<r:=by omega
  simp only[vx,T,seval,ao,ak];refine⟨by omega,by omega,?_⟩;refine⟨fun g2=>Lg ?_,fun g2=>Lg ?_⟩
  ·have e:b=false:=by
    cases b with
    |false=>rfl
    |true=>exact absurd (hb.1 rfl i Xd) (by omega)
   subst e;simp only[vx,T,seval];exact Ve rfl
  simp only[vx,T,seval,wi];refine Lq ⟨i+1,by omega,fun j hj=>?_⟩ ?_ (by show r-(i+1)<r-i;omega)
  ·by_cases e:j=i
   ·subst e;omega
   exact hz j (by omega)
  refine Sa ?_;simp only[ry,seval,rz,ao,ak]
 have e:b=true:=hb.2 fun j hj=>hz j (by omega);subst e;simp only[vx,T,seval,ao,ak];exact Ve rfl
open Go Go.Eng
open Go.Tw (El ax TG)
open Go.Mx (sm iv gN red MW Du nO)
theorem DA {A:List R}{r c w:Nat}{M:Go.Mx.Mt}(h:MW A r c M w):∀k,k≤c→MW A r c (red r M k).1 (w*4^(red r M k).2.length)
 |0,_=>by
  show MW A r c M (w*4^0);rw[Nat.pow_zero,Nat.mul_one];exact h
 |k+1,hk=>by
  have h1:=Go.Mx.HW (k:=k) (c:=c) (Go.Mx.dQ r M k).len (by omega) (DA h k (by omega));have h2:=Go.Mx.xt r k (red r M k);rw[Nat.mul_assoc,←Nat.pow_add,show (red r M k).2.length+((Go.Mx.j7 r k (red r M k)).2.length-(red r M k).2.length)=(Go.Mx.j7 r k (red r M k)).2.length by omega]at h1;exact h1
theorem yt {n:Nat}(x N:Nat→Nat→Nb)(p:List Nat)(d q:Nb)(hn:n<2^30)(hp:p.length≤n)(h1:p.length=n→q=d)(h2:p.length≠n→q=ru 0)
  (hE:Pr prog 34 [.one (ao n (fun _=>n) x)] (.aB [.agg [ao n (fun _=>n) N,.ints .i64 (jA p),tC d.1.length d.1,ae d.2],.one (.int .i64 0)])):
  Pr prog 9 [.one (ao n (fun _=>n) x)] (.aB [nX q,.one (.int .i64 0)]):=by
 have cs:=DF x hn;have c0:=pa 0 (by decide);refine pw func9 ⟨[0,2,3,4,5,8,15,20],[]⟩ ?_;simp only[Tryz.f9,ntmps9,iz,seval];simp only[vx,T,seval,ao,ak];refine Cg cs ?_;simp only[vx,T,seval,ao,ak];refine Cg hE ?_;simp only[vx,T,seval,ao,ak,cM,tC,ae];refine⟨fun g=>Lg ?_,fun g=>Lg ?_⟩
 ·obtain rfl:=h2 (by omega);simp only[vx,T,seval,ao,ak,cM,tC,ae];refine Cg c0 ?_;simp only[vx,T,seval,ao,ak,nX,nV,tC,ae];exact fB.refl _
 obtain rfl:=h1 (by omega);simp only[vx,T,seval,ao,ak,cM,tC,ae,nX,nV];exact fB.refl _
theorem PX {n:Nat}(m:Nat→Nat→Nb)(hn:n<2^38):Pr prog 12 [.one (ao n (fun _=>n) m)] (.one (ao n (fun _=>n) fun i j=>m j i)):=
 yo (fun _=>n) m hn (Gz (fun _=>n) m hn (by simp)) (oJ (fun _=>n) m (by split<;>omega) hn) fun k hk=>En (fun _=>n) m k hn fun _ _=>hk
theorem Rc {α:Sort _}{n:Nat}{p:Nat→α→Prop}(x:α)(h:∀i,i<n→∃a,p i a):∃f:Nat→α,∀i,i<n→p i (f i):=by
 have:∀i,∃a,i<n→p i a:=fun i=>by
  by_cases hi:i<n
  ·obtain⟨a,ha⟩:=h i hi;exact⟨a,fun _=>ha⟩
  exact⟨x,fun h=>absurd h hi⟩
 exact Classical.skolem.1 this
section
variable {A:List R}(S:Go.Tw.Src 64 A)(hA:Go.Tw.j9 A)
include S hA
theorem DO {n:Nat}(M:Nat→Nat→Nu A)(hn:n≤3)(hw:∀i j,i<n→j<n→(M i j).w≤7):
  ∃d:Nu A,d.v=nO n (vM M)∧d.w≤3001∧Pr prog 9 [.one (eA n (fun _=>n) M)] (.aB [nX d.x,.one (.int .i64 0)]):=by
 have b2:wA=8000:=rfl;have b8:wB=3400:=rfl;have hq:∀k,(red n (vM M) k).2.length≤n∧(red n (vM M) k).2.length≤k:=fun k=>⟨(Go.Mx.dQ n (vM M) k).len,A7 n (vM M) k⟩;have hM:MW A n n (vM M) 7:=fun i j hi hj=>(M i j).wv.mono (hw i j hi hj);obtain⟨X,d,x1,x2,⟨x3,x4⟩,x5⟩:=Gg S hA (r:=n) (c:=n) M (fun k=>7*4^(red n (vM M) k).2.length) (by omega) (by omega) (by
  have:n*n≤3*3:=Nat.mul_le_mul hn hn
  omega) id hw (show 7*4^0≤3400 by decide)
  (fun k hk h=>Nat.le_trans (Nat.mul_le_mul_left 7 (Nat.pow_le_pow_right (n:=4) (by decide) (show _≤3 by have:=hq k;omega))) (by decide)) (fun k hk=>by have:=hq k;omega) (DA hM)
 have c:=fun q h1 h2=>yt (n:=n) (fun i j=>(M i j).x) (fun i j=>(X i j).x) _ d.x q (by omega) (hq n).1 h1 h2 x5
 by_cases h:(red n (vM M) n).2.length=n
 ·exact⟨d,by rw[Go.Mx.oP hn,if_pos h,x3],by have:=(hq n).1;omega,c d.x (fun _=>rfl) fun h'=>absurd h h'⟩
 exact⟨Nu.int A 0,by rw[Go.Mx.oP hn,if_neg h];rfl,by rw[MA];omega,c _ (fun h'=>absurd h' h) fun _=>rfl⟩
theorem Pt {n:Nat}(X Y:Nat→Nat→Nu A)(hn:n≤3)(hX:∀i j,i<n→j<n→(X i j).w≤1)(hY:∀i j,i<n→j<n→(Y i j).w≤1):
  ∃P:Nat→Nat→Nu A,(∀i j,i<n→j<n→(P i j).v=sm n (fun k=>(X i k).v*(Y k j).v)∧(P i j).w≤7)∧
   Pr prog 11 [.one (eA n (fun _=>n) X),.one (eA n (fun _=>n) Y)] (.one (eA n (fun _=>n) P)):=by
 have b2:wA=8000:=rfl;have b8:wB=3400:=rfl;have ct:=PX (n:=n) (fun i j=>(Y i j).x) (by omega);obtain⟨P,hP⟩:=Rc (n:=n) (p:=fun i (o:Nat→Nu A)=>(∀k,k<n→(o k).v=sm n (fun j=>(Y j k).v*(X i j).v)∧(o k).w≤1+n*(1+1))∧Pr prog 36 [.one (eA n (fun _=>n) fun k i=>Y i k),.one (AA n (X i))] (.one (AA n o))) (X 0) fun i hi=>
  Kn S hA (r:=n) (n:=n) (n':=n) (p:=1) (q:=1) (fun k i=>Y i k) (X i) (by omega) (by omega) (Nat.le_refl _) (fun k j hk hj=>hY j k hj hk) (fun j hj=>hX i j hi hj) (by omega) (by omega)
 refine⟨P,fun i j hi hj=>⟨((hP i hi).1 j hj).1.trans (Go.Mx.yT fun k _=>R.mul_comm _ _),by have:=((hP i hi).1 j hj).2;omega⟩,?_⟩;exact Nn (fun _=>n) (fun _=>n) (fun _=>n) (fun i j=>(X i j).x) (fun i j=>(Y i j).x) (fun i j=>(Y j i).x) (fun i j=>(P i j).x) (by omega) ct fun i hi=>(hP i hi).2
end
open Go Go.Eng
open Go.Tw (El)
theorem nc {r c k most:Nat}(m:Nat→Nat→Nb)(hk:k=min (min r c) most)(hr:r≤16)(hc:c≤12)(hm:most≤3)(cl:Pr prog 32 [.one (ao r (fun _=>c) m)] (.one (.int .i64 c))):Pr prog 8 [.one (ao r (fun _=>c) m),.one (.int .i64 most)] (.one (ao k (fun _=>k) m)):=by
 refine pw func8 ⟨[0,1,4,5,6,8,17,18,19,20],[]⟩ ?_;simp only[Tryz.f8,ntmps8,iz,seval];simp only[vx,T,seval,ao,ak];refine Cg cl ?_;have ek:(if(most:Int)<(if(c:Int)<(r:Int)then(c:Int)else(r:Int))then(most:Int)else(if(c:Int)<(r:Int)then(c:Int)else(r:Int)))=(k:Int):=by
  split<;>split<;>omega
 simp only[vx,T,seval,ao,ak,zM,ek,Int.toNat_natCast];refine⟨by omega,?_⟩;refine Lk (fun y:{i:Nat//i≤k}=>⟨[(4,.one .nil),(5,.one (.int .i64 k)),(6,.one (.own 1 1 0 y.1)),(17,.one (.rows 1 k (fun i _=>ak c (m i)))),(18,.one (.int .i64 k)),(19,.one (.int .i64 y.1))],[(1,⟨.rows 32 1 y.1 (fun i _=>ak k (m i)),true⟩)],2,33⟩) (fun y=>k-y.1) ⟨0,Nat.zero_le _⟩ ?_ (fun⟨i,hi⟩=>?_)
 ·refine Sa ?_;simp only[ry,seval,rz,ao,ak]
 simp only;have wi:=wI i (by omega);simp only[vx,T,seval,ao,ak];refine⟨fun g=>Lg ?_,fun g=>Lg ?_⟩
 ·have Se:i<k:=by omega
  simp only[vx,T,seval,ao,ak,wi,Nat.not_lt_zero,Nat.sub_zero];refine⟨⟨by omega,by omega⟩,⟨by omega,by omega⟩,⟨by omega,by omega⟩,⟨by omega,by omega⟩,Lq ⟨i+1,by omega⟩ ?_ (by show k-(i+1)<k-i;omega)⟩;refine Sa ?_;simp only[ry,seval,rz,ao,ak];exact Ae (fun i=>ak k (m i)) i
 obtain rfl:i=k:=by omega
 simp only[vx,T,seval,ao,ak];exact Ve rfl
section
variable (lC:Pr prog 4 [] (.one (.bool true)))
include lC
theorem GH {no s no' s':Nat}{fo fo':Nat→Nat→C}{cs cs':List Int}{X Y:C}{b b':Bool}(hx:X= .nil∨∃r c m,X=ao r (fun _=>c) m)(hy:Y= .nil∨∃r c m,Y=ao r (fun _=>c) m)
  (cm:Pr prog 5 [.agg [.rows 5 no fo,.ints .u8 cs,.int .u8 s],.one (.int .i64 16)] (.aB [.one X,.one (.bool b)]))
  (cm':Pr prog 5 [.agg [.rows 5 no' fo',.ints .u8 cs',.int .u8 s'],.one (.int .i64 16)] (.aB [.one Y,.one (.bool b')])) (h:b=false∨b'=false):
  Pr prog 3 [.agg [.rows 5 no fo,.ints .u8 cs,.int .u8 s],.agg [.rows 5 no' fo',.ints .u8 cs',.int .u8 s']] (.one (.bool true)):=by
 have h4:(b=false∧b'=false)∨(b=false∧b'=true)∨(b=true∧b'=false):=by
  cases b<;>cases b'<;>simp at h⊢
 clear h
 rcases hx with rfl|⟨r,c,m,rfl⟩<;>rcases hy with rfl|⟨r',c',m',rfl⟩<;>rcases h4 with⟨rfl,rfl⟩|⟨rfl,rfl⟩|⟨rfl,rfl⟩
 all_goals
  refine pw func3 ⟨[0,1,2,3,4,5,6,7,8,9,10,11,12,13,14,15,16,17,18,19,21,47,99],[]⟩ ?_;simp only[Tryz.f3,ntmps3,iz,seval];simp only[vx,T,seval];refine Cg lC ?_;simp only[vx,T,seval];refine Cg cm ?_;simp only[vx,T,seval,ao];refine Cg cm' ?_;simp only[vx,T,seval,ao];exact Ve rfl
def x9 (r c:Nat)(m:Nat→Nat→Nb)(c':Nat)(m':Nat→Nat→Nb)(i:Nat):Nb:=if i<r*c then m (i/c) (i%c)else m' ((i-r*c)/c') ((i-r*c)%c')
theorem G2 {no s no' s':Nat}{fo fo':Nat→Nat→C}{cs cs':List Int}{r c r' c' k1 k2 n L:Nat}{m m' P:Nat→Nat→Nb}{dc dd dp dt dq:Nb}(en:n=min k1 k2)
  (cm:Pr prog 5 [.agg [.rows 5 no fo,.ints .u8 cs,.int .u8 s],.one (.int .i64 16)] (.aB [.one (ao r (fun _=>c) m),.one (.bool true)]))
  (cm':Pr prog 5 [.agg [.rows 5 no' fo',.ints .u8 cs',.int .u8 s'],.one (.int .i64 16)] (.aB [.one (ao r' (fun _=>c') m'),.one (.bool true)]))
  (cc:Pr prog 7 [.one (ao r (fun _=>c) m)] (.one (ak (r*c) fun p=>m (p/c) (p%c))))
  (cc':Pr prog 7 [.one (ao r' (fun _=>c') m')] (.one (ak (r'*c') fun p=>m' (p/c') (p%c'))))
  (cd:Pr prog 7 [.one (.rows 1 2 (fun i j=>[ak (r*c) (fun p=>m (p/c) (p%c)),ak (r'*c') (fun p=>m' (p/c') (p%c'))].getD (i*1+j) .any))] (.one (ak (r*c+r'*c') (x9 r c m c' m'))))
  (cl:Pr prog 6 [.one (ak (r*c+r'*c') (x9 r c m c' m'))] (.one (.int .i64 L)))
  (s1:Pr prog 8 [.one (ao r (fun _=>c) m),.one (.int .i64 (3:Nat))] (.one (ao k1 (fun _=>k1) m))) (s2:Pr prog 8 [.one (ao r' (fun _=>c') m'),.one (.int .i64 (3:Nat))] (.one (ao k2 (fun _=>k2) m')))
  (s3:Pr prog 8 [.one (ao r (fun _=>c) m),.one (.int .i64 n)] (.one (ao n (fun _=>n) m))) (s4:Pr prog 8 [.one (ao r' (fun _=>c') m'),.one (.int .i64 n)] (.one (ao n (fun _=>n) m')))
  (cp:Pr prog 10 [.one (ao n (fun _=>n) m)] (.one (ao n (fun _=>n) m))) (cp':Pr prog 10 [.one (ao n (fun _=>n) m')] (.one (ao n (fun _=>n) m')))
  (ct:Pr prog 12 [.one (ao n (fun _=>n) m)] (.one (ao n (fun _=>n) fun i j=>m j i)))
  (nO:L≤1→Pr prog 9 [.one (ao n (fun _=>n) m)] (.aB [nX dc,.one (.int .i64 0)])∧Pr prog 9 [.one (ao n (fun _=>n) m')] (.aB [nX dd,.one (.int .i64 0)])∧
   Pr prog 11 [.one (ao n (fun _=>n) m),.one (ao n (fun _=>n) m')] (.one (ao n (fun _=>n) P))∧Pr prog 9 [.one (ao n (fun _=>n) P)] (.aB [nX dp,.one (.int .i64 0)])∧
   Pr prog 9 [.one (ao n (fun _=>n) fun i j=>m j i)] (.aB [nX dt,.one (.int .i64 0)])∧Pr prog 13 [nX dc,nX dd] (.aB [nX dq,.one (.int .i64 0)])∧
   Pr prog 14 [nX dq,nX dp] (.one (.bool true))∧Pr prog 14 [nX dc,nX dt] (.one (.bool true))):
  Pr prog 3 [.agg [.rows 5 no fo,.ints .u8 cs,.int .u8 s],.agg [.rows 5 no' fo',.ints .u8 cs',.int .u8 s']] (.one (.bool true)):=by
 refine pw func3 ⟨[0,1,2,3,4,5,6,7,8,9,10,11,12,13,14,15,16,17,18,19,21,47,99],[]⟩ ?_;simp only[Tryz.f3,ntmps3,iz,seval];simp only[vx,T,seval];refine Cg lC ?_;simp only[vx,T,seval];refine Cg cm ?_;simp only[vx,T,seval,ao,ak];refine Cg cm' ?_;simp only[vx,T,seval,ao,ak];refine Cg cc ?_;simp only[vx,T,seval,ao,ak];refine Cg cc' ?_;simp only[vx,T,seval,ao,ak];refine Cg cd ?_;simp only[vx,T,seval,ao,ak];refine Cg cl ?_;simp only[vx,T,seval,ao,ak];refine⟨fun h=>Lg ?_,fun h=>Lg ?_⟩
 ·simp only[vx,T,seval,ao,ak];exact Ve rfl
 obtain⟨d1,d2,d3,d4,d5,d6,d7,d8⟩:=nO (by omega)
 have ek:(if(k2:Int)<(k1:Int)then(k2:Int)else(k1:Int))=(n:Int):=by split<;>omega
 clear nO;simp only[vx,T,seval,ao,ak];refine Cg s1 ?_;simp only[vx,T,seval,ao,ak];refine Cg s2 ?_;simp only[vx,T,seval,ao,ak,zM,ek];refine Cg s3 ?_;simp only[vx,T,seval,ao,ak];refine Cg s4 ?_;simp only[vx,T,seval,ao,ak];refine Cg cp ?_;simp only[vx,T,seval,ao,ak];refine Cg d1 ?_;simp only[vx,T,seval,ao,ak,nX,nV,tC,ae];refine Cg cp' ?_;simp only[vx,T,seval,ao,ak,nX,nV,tC,ae];refine Cg d2 ?_;simp only[vx,T,seval,ao,ak,nX,nV,tC,ae];refine Cg d3 ?_;simp only[vx,T,seval,ao,ak,nX,nV,tC,ae];refine Cg d4 ?_;simp only[vx,T,seval,ao,ak,nX,nV,tC,ae];refine Cg ct ?_;simp only[vx,T,seval,ao,ak,nX,nV,tC,ae];refine Cg d5 ?_;simp only[vx,T,seval,ao,ak,nX,nV,tC,ae];refine Cg d6 ?_;simp only[vx,T,seval,ao,ak,nX,nV,tC,ae];refine Cg d7 ?_;simp only[vx,T,seval,ao,ak,nX,nV,tC,ae];refine Cg d8 ?_;simp only[vx,T,seval,ao,ak,nX,nV,tC,ae];exact Ve rfl
end
open Go Go.Eng
open Go.Tw (El ax TG)
open Go.Mx (sm iv gN red MW nO)
theorem CL {n:Nat}{c:Nat→Nat}{m m':Nat→Nat→Nb}(h:∀i j,i<n→j<c i→m i j=m' i j):dB (ao n c m) (ao n c m'):=
 dB.rows rfl fun i j hi hj=>dB.rows rfl fun a b ha hb=>.of_eq (by rw[h i a hi ha])
theorem NY {b i j:Nat}(hj:j<b):(i*b+j)/b=i∧(i*b+j)%b=j:=by
 have h0:0<b:=Nat.lt_of_le_of_lt (Nat.zero_le _) hj;rw[Nat.mul_comm i b,Nat.mul_add_div h0,Nat.mul_add_mod,Nat.div_eq_of_lt hj,Nat.mod_eq_of_lt hj];exact⟨rfl,rfl⟩
theorem KA {r c r' c':Nat}{m m':Nat→Nat→Nb}(h:FD (x9 r c m c' m') (r*c+r'*c')≤1):
  (∀i j,i<r→j<c→(m i j).1.length≤1)∧(∀i j,i<r'→j<c'→(m' i j).1.length≤1):=by
 have dm:=fun b i j hj=>NY (b:=b) (i:=i) (j:=j) hj;refine⟨fun i j hi hj=>?_,fun i j hi hj=>?_⟩
 ·have hp:=place hi hj;have k:=Nat.le_trans (Co (x9 r c m c' m') (show i*c+j<r*c+r'*c' by omega)) h;unfold x9 at k;rw[if_pos hp,(dm c i j hj).1,(dm c i j hj).2]at k;exact k
 have hp:=place hi hj;have k:=Nat.le_trans (Co (x9 r c m c' m') (show r*c+(i*c'+j)<r*c+r'*c' by omega)) h;unfold x9 at k;rw[if_neg (by omega),Nat.add_sub_cancel_left,(dm c' i j hj).1,(dm c' i j hj).2]at k;exact k
theorem Pv {B:List R}{r c:Nat}{m:Nat→Nat→Nb}(h:∀i j,i<r→j<c→∃y:Nu B,y.x=m i j∧y.w≤1):∃X:Nat→Nat→Nu B,∀i j,i<r→j<c→(X i j).x=m i j∧(X i j).w≤1:=by
 have:∀i,∃Y:Nat→Nu B,∀j,i<r→j<c→(Y j).x=m i j∧(Y j).w≤1:=fun i=>by
  have:∀j,∃y:Nu B,i<r→j<c→y.x=m i j∧y.w≤1:=fun j=>by
   by_cases hi:i<r
   ·by_cases hj:j<c
    ·obtain⟨y,hy⟩:=h i j hi hj;exact⟨y,fun _ _=>hy⟩
    exact⟨Nu.int B 0,fun _ h=>absurd h hj⟩
   exact⟨Nu.int B 0,fun h=>absurd h hi⟩
  exact Classical.skolem.1 this
 obtain⟨X,hX⟩:=Classical.skolem.1 this;exact⟨X,fun i j hi hj=>hX i j hi hj⟩
theorem JB {B:List R}(S:Go.Tw.Src 64 B)(hB:Go.Tw.j9 B){n:Nat}(m m':Nat→Nat→Nb)(hn:n≤3)(h:∀i j,i<n→j<n→∃y:Nu B,y.x=m i j∧y.w≤1)(h':∀i j,i<n→j<n→∃y:Nu B,y.x=m' i j∧y.w≤1):
  ∃(P:Nat→Nat→Nb) (c d p t q:Nb),Pr prog 9 [.one (ao n (fun _=>n) m)] (.aB [nX c,.one (.int .i64 0)])∧Pr prog 9 [.one (ao n (fun _=>n) m')] (.aB [nX d,.one (.int .i64 0)])∧
   Pr prog 11 [.one (ao n (fun _=>n) m),.one (ao n (fun _=>n) m')] (.one (ao n (fun _=>n) P))∧Pr prog 9 [.one (ao n (fun _=>n) P)] (.aB [nX p,.one (.int .i64 0)])∧
   Pr prog 9 [.one (ao n (fun _=>n) fun i j=>m j i)] (.aB [nX t,.one (.int .i64 0)])∧Pr prog 13 [nX c,nX d] (.aB [nX q,.one (.int .i64 0)])∧
   Pr prog 14 [nX q,nX p] (.one (.bool true))∧Pr prog 14 [nX c,nX t] (.one (.bool true)):=by
 have b2:wA=8000:=rfl;have b8:wB=3400:=rfl;obtain⟨X,hX⟩:=Pv h;obtain⟨Y,hY⟩:=Pv h';have wX:=fun i j hi hj=>(hX i j hi hj).2;have wY:=fun i j hi hj=>(hY i j hi hj).2;obtain⟨P,hP,cP⟩:=Pt S hB X Y hn wX wY;obtain⟨c,c1,c2,c3⟩:=DO S hB X hn fun i j hi hj=>Nat.le_trans (wX i j hi hj) (by decide);obtain⟨d,d1,d2,d3⟩:=DO S hB Y hn fun i j hi hj=>Nat.le_trans (wY i j hi hj) (by decide);obtain⟨p,p1,p2,p3⟩:=DO S hB P hn fun i j hi hj=>(hP i j hi hj).2;obtain⟨t,t1,t2,t3⟩:=DO S hB (fun i j=>X j i) hn fun i j hi hj=>Nat.le_trans (wX j i hj hi) (by decide);obtain⟨q,q1,q2,q3⟩:=xj S hB (a:=c) (b:=d) (by omega) (by omega);have e1:q.v=p.v:=by
  rw[q1,c1,d1,p1,Go.Mx.kG hn (M:=vM P) fun i j hi hj=>(hP i j hi hj).1];exact(Go.Mx.Jw hn (vM X) (vM Y)).symm
 have e2:c.v=t.v:=by
  rw[c1,t1];exact(Go.Mx.N9 hn (vM X)).symm
 have lX:dB (ao n (fun _=>n) m) (eA n (fun _=>n) X):=CL fun i j hi hj=>(hX i j hi hj).1.symm;have lY:dB (ao n (fun _=>n) m') (eA n (fun _=>n) Y):=CL fun i j hi hj=>(hY i j hi hj).1.symm;have lT:dB (ao n (fun _=>n) fun i j=>m j i) (eA n (fun _=>n) fun i j=>X j i):=CL fun i j hi hj=>(hX j i hj hi).1.symm;exact⟨fun i j=>(P i j).x,c.x,d.x,p.x,t.x,q.x,c3.A3 (fB.cell lX),d3.A3 (fB.cell lY),cP.args ⟨.cell lX,.cell lY,trivial⟩,p3,t3.A3 (fB.cell lT),q3,
  rf S hB (by omega) (by omega) (.inl e1) (by simp[e1]),rf S hB (by omega) (by omega) (.inl e2) (by simp[e2])⟩
theorem Kl {B:List R}(S:Go.Tw.Src 64 B)(hB:Go.Tw.j9 B){no s no' s':Nat}{fo fo':Nat→Nat→C}{cs cs':List Int}{r c r' c':Nat}{m m':Nat→Nat→Nb}(h0:r=0→c=0)(h0':r'=0→c'=0)(UT:r*c≤16)(hrc':r'*c'≤16)(hr:r≤16)(Vo:r'≤16)(hc:c≤12)(W8:c'≤12)
  (hm:∀i j,i<r→j<c→(m i j).1.length≤1→∃y:Nu B,y.x=m i j∧y.w≤1) (hm':∀i j,i<r'→j<c'→(m' i j).1.length≤1→∃y:Nu B,y.x=m' i j∧y.w≤1)
  (cm:Pr prog 5 [.agg [.rows 5 no fo,.ints .u8 cs,.int .u8 s],.one (.int .i64 16)] (.aB [.one (ao r (fun _=>c) m),.one (.bool true)]))
  (cm':Pr prog 5 [.agg [.rows 5 no' fo',.ints .u8 cs',.int .u8 s'],.one (.int .i64 16)] (.aB [.one (ao r' (fun _=>c') m'),.one (.bool true)])):
  Pr prog 3 [.agg [.rows 5 no fo,.ints .u8 cs,.int .u8 s],.agg [.rows 5 no' fo',.ints .u8 cs',.int .u8 s']] (.one (.bool true)):=by
 obtain⟨k1,e1⟩:∃k,k=min (min r c) 3:=⟨_,rfl⟩;obtain⟨k2,e2⟩:∃k,k=min (min r' c') 3:=⟨_,rfl⟩;obtain⟨n,en⟩:∃n,n=min k1 k2:=⟨_,rfl⟩;have cd:=tL (n:=r*c) (m:=r'*c') (fun p=>m (p/c) (p%c)) (fun p=>m' (p/c') (p%c')) (by omega);have kl:=oJ (fun _=>c) m (k:=c) (by split;exact h0 (by assumption);rfl) (by omega:r<2^38);have kl':=oJ (fun _=>c') m' (k:=c') (by split;exact h0' (by assumption);rfl) (by omega:r'<2^38);have fin:=fun(P:Nat→Nat→Nb) (dc dd dp dt dq:Nb) hd=>G2 lC (P:=P) (dc:=dc) (dd:=dd) (dp:=dp) (dt:=dt) (dq:=dq) en cm cm' (xn (r:=r) (c:=c) m (by omega) (by omega)) (xn (r:=r') (c:=c') m' (by omega) (by omega)) cd
  (AE (n:=r*c+r'*c') (x9 r c m c' m') (by omega)) (nc (most:=3) m e1 hr hc (by omega) kl) (nc (most:=3) m' e2 Vo W8 (by omega) kl') (nc (k:=n) (most:=n) m (by omega) hr hc (by omega) kl) (nc (k:=n) (most:=n) m' (by omega) Vo W8 (by omega) kl')
  (Dp (r:=n) (fun _=>n) m (by omega) fun _ _=>by omega) (Dp (r:=n) (fun _=>n) m' (by omega) fun _ _=>by omega) (PX (n:=n) m (by omega)) hd
 by_cases hl:FD (x9 r c m c' m') (r*c+r'*c')≤1
 ·obtain⟨l1,l2⟩:=KA hl;obtain⟨P,dc,dd,dp,dt,dq,hd⟩:=JB S hB (n:=n) m m' (by omega) (fun i j hi hj=>hm i j (by omega) (by omega) (l1 i j (by omega) (by omega))) (fun i j hi hj=>hm' i j (by omega) (by omega) (l2 i j (by omega) (by omega)));exact fin P dc dd dp dt dq fun _=>hd
 exact fin m (ru 0) (ru 0) (ru 0) (ru 0) (ru 0) fun h=>absurd h hl
open Go Go.Eng
theorem MP {n:Nat}(a:Nat→Nb)(oc:C)(cs:List Int)(s:Nat)(hn:n<2^30)(hs:s<256)(Sc:∀i,i<cs.length→0≤cs.getD i 0∧cs.getD i 0<256)(hl:cs.length<2^63)
  (cb:Pr prog 28 [.one oc] (.one (ak n a))) (ca:Pr prog 29 [.one (ak n a)] (.one (.bool true))) (ho:∃n f,oc= .rows 5 n f):
  ∃(CX:C) (b:Bool),Pr prog 5 [.agg [oc,.ints .u8 cs,.int .u8 s],.one (.int .i64 16)] (.aB [.one CX,.one (.bool b)])∧(CX= .nil∨∃r c m,CX=ao r (fun _=>c) m)∧
   (b=true→CX=ao (cs.length/fX s) (fun _=>BM (cs.length/fX s) (fX s)) (xi n a cs (fX s))∧cs.length≤16):=by
 have M:=fun{R:V} h1 h2=>Fm a oc cs s 16 hn hs Sc hl (by decide) cb ca ho (R:=R) h1 h2
 by_cases h1:16<cs.length
 ·exact⟨.nil,false,M (fun _=>rfl) (fun h=>absurd h1 (by omega)),.inl rfl,fun h=>by cases h⟩
 exact⟨_,_,M (fun h=>absurd h h1) (fun _=>rfl),.inr ⟨_,_,_,rfl⟩,fun _=>⟨rfl,by omega⟩⟩
theorem Ov {n n':Nat}{cells cells':List C}(h:oD prog maxLen n 26 cells)(h':oD prog maxLen n' 26 cells'):Pr prog 3 [.agg cells,.agg cells'] (.one (.bool true)):=by
 obtain⟨r,cs,s,hr,Vz,⟨hl,Sc⟩,hs,hle⟩:=y9 h;obtain⟨r',cs',s',Vo,hrl',⟨SE,XT⟩,TX,hle'⟩:=y9 h';refine Pr.args (ys:=[.agg [CU r,.ints .u8 cs,.int .u8 s],.agg [CU r',.ints .u8 cs',.int .u8 s']]) ?_ ⟨vT hle,vT hle',trivial⟩;obtain⟨A,k,a,S,h3,hk,cb,ca,hf⟩:=Mj r hr Vz;obtain⟨A',k',a',S',Wi,hk',cb',ca',hf'⟩:=Mj r' Vo hrl';obtain⟨CX,b,cm,hx,g⟩:=MP a (CU r) cs s (by omega) hs Sc hl cb ca ⟨_,_,rfl⟩;obtain⟨CX',b',cm',hx',g'⟩:=MP a' (CU r') cs' s' (by omega) TX XT SE cb' ca' ⟨_,_,rfl⟩
 cases b with
 |false=>exact GH lC hx hx' cm cm' (.inl rfl)
 |true=>
  cases b' with
  |false=>exact GH lC hx hx' cm cm' (.inr rfl)
  |true=>
   obtain⟨e1,l1⟩:=g rfl;obtain⟨e2,l2⟩:=g' rfl;subst e1 e2;obtain⟨d1,d2,d3,d4⟩:=zq (l:=cs.length) (most:=16) s l1;obtain⟨d1',d2',d3',d4'⟩:=zq (l:=cs'.length) (most:=16) s' l2;refine Kl (Lo S S') (KS h3 Wi) d1 d1' d2 d2' d3 d3' d4 d4' (fun i j _ _ hj=>?_) (fun i j _ _ hj=>?_) cm cm'
   ·obtain⟨w,hw⟩:=hf (cs.getD (i*fX s+j) 0).toNat;exact⟨⟨_,w,1,Nat.le_refl _,tK hw hj fun a ha=>List.mem_append_left _ ha⟩,rfl,Nat.le_refl _⟩
   obtain⟨w,hw⟩:=hf' (cs'.getD (i*fX s'+j) 0).toNat;exact⟨⟨_,w,1,Nat.le_refl _,tK hw hj fun a ha=>List.mem_append_right _ ha⟩,rfl,Nat.le_refl _⟩
end Go.Proofs.YtchkplkghknabaaGreat
namespace Go.Proofs.YtchkplkghknabaaGreat
open Go.Proofs.Tryz
open Go Go.Proofs Go.Eng Go.ChangeShapes Go.WideShapes Go.ChangeAt Go.RowKit
theorem Tryz.own:ownKnob prog.godebug=none:=by kernel_rfl
theorem Tryz.laidOut:laidOutB prog=true:=by kernel_rfl
set_option maxRecDepth 100000 in
theorem j0 (os:Os)(started:os.Started)(H:Type)(enc:TypeId×Value→H):
  ReturnsInHanded {} Tryz.checked os 3 .any (Rows.matrixDeterminantSpec.pre6 enc prog Tryz.f3 Rows.matrixDeterminantRow.domain false) (Rows.matrixDeterminantSpec.post enc prog Tryz.f3 false true false false):=by
 refine returnsInHanded_of_change (C:=Tryz.checked) Tryz.own started (by kernel_rfl) func3
  (ChangeSpec.witness6 (enc:=enc) (C:=Tryz.checked) false ⟨#[],#[.agg #[.slice none 0 0,.slice none 0 0,.int .u8 0],.agg #[.slice none 0 0,.slice none 0 0,.int .u8 0]],[]⟩ 8 (by kernel_rfl) (by kernel_rfl) (by kernel_rfl) (by kernel_rfl)) ?_
 intro W base args ds gs before Xe hW hcnd _;have RQ:∀(j:Nat) t v,Tryz.f3.params[j]? =some t→args[j]? =some v→Value.okWide prog W .any base t v:=Xe;have V0:=hW;obtain⟨p,q,hA0,hV,rfl,Tf,ZN⟩:=hW;have hA:DataW.TrodAll enc prog W 0 (fun _=>true) true Tryz.f3.params.toList args.toList ds p:=hA0;rw[Tryz.params3]at hA RQ;obtain⟨v0,v1,d0,d1,p0,p1,rfl,rfl,rfl,h0,h1⟩:=trodAll_two hA;obtain⟨rfl,rfl⟩:=trodVars_none hV;clear hA0 Xe;simp only[List.append_nil]at V0;have RE:=fun x hx=>V0.lt x hx;obtain⟨us,rfl,SJ⟩:=okWide_struct Tryz.underlying26 (RQ 0 26 v0 rfl rfl);obtain⟨us',rfl,Xw⟩:=okWide_struct Tryz.underlying26 (RQ 1 26 v1 rfl rfl);have s0:=fun W' hb=>wx (W':=W') Tryz.laidOut (by kernel_rfl) (of_decide_eq_true (by kernel_rfl)) h0 hb (fun x hx=>RE x (List.mem_append_left _ hx));have s1:=fun W' hb=>wx (W':=W') Tryz.laidOut (by kernel_rfl) (of_decide_eq_true (by kernel_rfl)) h1 hb (fun x hx=>RE x (List.mem_append_right _ hx));obtain⟨n0,cs0,SU,S9⟩:=tu (bulk:=fun _=>0) (B:=maxLen) C1 (by decide) h0 (.inl (Nat.le_refl _));obtain⟨n1,cs1,UZ,Uc⟩:=tu (bulk:=fun _=>0) (B:=maxLen) C1 (by decide) h1 (.inl (Nat.le_refl _));have XU:=Ov SU UZ;have RH:a7 bg bm (fun g=>g<W.heap.size) W [.agg cs0,.agg cs1] [.agg us,.agg us']:=⟨S9,Uc,trivial⟩
 refine((XU.2 (fun g=>g<W.heap.size) W #[.agg us,.agg us'] (fun _ h=>h) RH).mono ?_)
 rintro e W' ⟨v,rfl,hB,hv⟩;have hv:v= .bool true:=hv;subst hv;exact⟨_,rfl,HH V0 rfl rfl Tryz.underlying4 rfl (trodAll_mk2 (s0 W' hB) (s1 W' hB)) rfl hB⟩
theorem matrixDeterminant_holds:Rows.MatrixDeterminantSaid:=
 OpenClaim.holds_of_wide 3 Tryz.f3 rfl rfl rfl rfl rfl rfl rfl ⟨rfl,rfl,rfl,rfl,rfl⟩ rfl rfl rfl rfl rfl (by kernel_rfl) func3 (by kernel_rfl)
  (of_decide_eq_true (by kernel_rfl)) (by unfold Func.isWrapper;first|(rw[if_pos (by decide+kernel)];kernel_rfl)|(rw[if_neg (by decide+kernel)];exact⟨rfl,rfl⟩))
  (fun os started H enc _=>j0 os started H enc)
end Go.Proofs.YtchkplkghknabaaGreat
