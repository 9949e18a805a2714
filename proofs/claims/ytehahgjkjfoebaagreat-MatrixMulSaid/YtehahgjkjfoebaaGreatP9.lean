/-
  MatrixMul: for every input the law returns true, and each argument reads afterwards as it read before. No condition.
  (Text 9 of 9; made by a program out of smaller texts.)
-/
import Derived.Deep.Slices
import Derived.ChangeArms
import Derived.ChangeSame
import Derived.Below
import Derived.OpenShut
import Derived.ProofKit
import Derived.Test.YtehahgjkjfoebaaGreatRows
import Derived.Test.YtehahgjkjfoebaaGreatP8
set_option linter.unusedSimpArgs false
set_option linter.unusedVariables false
set_option maxHeartbeats 16000000
set_option maxRecDepth 10000
open Nat renaming reduceAdd→J1,reduceMul→J2,reduceSub→J3,reduceEqDiff→J4,reduceLT→J5,reduceLeDiff→J6,reduceBEq→J7,reduceDiv→J8,reduceMod→J9,reducePow→J0
open Int renaming reduceToNat→K1,reduceLE→K2,reduceLT→K3,reduceEq→K4,reducePow→K5,reduceSub→K6,reduceNeg→K7,natCast_add→X2,natCast_one→X3,natCast_zero→X4
open List renaming getD_cons_zero→X0,getD_cons_succ→X1,length_take→X5,length_append→X6,getD_eq_getElem?_getD→X7,getElem?_eq_getElem→X8
open Nat renaming le_trans→O0,le_refl→O1,zero_le→O2,pow_le_pow_right→O3,not_lt_zero→O5,mul_comm→O6,mod_eq_of_lt→O7,mul_le_mul_right→O8
open Go.IntWalk renaming i64_in→Q4,u64_in→Q5
open Option.some renaming injEq→Q6
namespace Go.Proofs.YtehahgjkjfoebaaGreat
open Go.Proofs.Tryz
open Go Go.Eng
open Go.Tw (El)
theorem OE {n:Nat}(a:Nat→Nb)(k:Nat)(hk:k<n)(hn:n<2^38){s:Int}(h:Pr prog 80 [nX (a k)] (.one (.int .i64 s))):Pr prog 89 [.one (ao n a),.one (F7 (.int .i64 k))] (.one (.bool (decide (s≠0)))):=by
 unfold F7;refine pw func89 ⟨[0,1,3],[]⟩ ?_;simp only[Tryz.f89,ntmps89,iz,seval];have hp:PY ([C.int .i64 (k:Int)].getD 0 .any)= .int .i64 (k:Int):=rfl;simp only[vx,T,seval,ao,bC,tC,ag,hp];refine⟨by omega,Cg h ?_⟩;simp only[vx,T,seval];exact Ve rfl
theorem Sub.mk {e e':List (Nat×V)}{o o':List (Nat×fI)}{x x' n:Nat}(rn:List (Nat×Option Nat))(h:(sC rn 0=some 0∧0<x')∧Y0 rn x' e e'∧Y4 rn x' o o'∧Y6 rn o'):Sub ⟨e,o,x,n⟩ ⟨e',o',x',n⟩:=
 Sub.of rn h.1 rfl h.2.1 h.2.2.1 h.2.2.2
def PV:V→Option V
 |.one (.ptr b off)=>some (.one (.ptr b off))
 |.one (.elt c wd i off)=>some (.one (.elt c wd i off))
 |.one (.eptr b wd i off)=>some (.one (.eptr b wd i off))
 |_=>none
theorem uI {T:fS}{P:Program}{e:List (Nat×V)}{o:List (Nat×fI)}{x n:Nat}{K:eX→Prop}{a:Operand}{nx id:Nat}{fz:Bool}:eR T P (.nilCheck a) ⟨e,o,x,n⟩ nx id fz K=b6 (PV (St.ev ⟨e,o,x,n⟩ a)) (fun v=>K ⟨v,none,[]⟩):=by
 unfold eR;simp only
 cases h:St.ev ⟨e,o,x,n⟩ a with
 |one c=>cases c<;>rfl
 |_=>rfl
theorem De {b off:Nat}:PV (.one (.ptr b off))=some (.one (.ptr b off)):=rfl
def JW (f:FuncId)(x y z:Nb):Prop:=Pr prog f [nX x,nX y] (.aB [nX z,.one (.int .i64 0)])
def Rw (r c k q:Nat)(X X':Nat→Nat→Nb)(d d':Nb)(t:Nat):Prop:=
 ∃sg:Nat→Int,(∀i,q≤i→i<r→Pr prog 80 [nX (X i k)] (.one (.int .i64 (sg i))))∧q≤t∧t≤r∧(∀i,q≤i→i<t→sg i=0)∧
  ((
   t=r∧X'=X∧d'=d)∨(t<r∧sg t≠0∧∃(d1:Nb) (T:Nat→Nb) (Z Q:Nat→Nat→Nb) (s2 sT:Nat→Int),
   (q<t→Pr prog 50 [nX d] (nX d1))∧(t=q→d1=d)∧JW 130 d1 (X t k) d'∧(∀j,k≤j→j<c→JW 137 (X t j) (X t k) (T j))∧(∀j,j<k→T j=X t j)∧
   (∀j,k≤j→j<c→Pr prog 80 [nX (T j)] (.one (.int .i64 (sT j))))∧
   (∀i,i<r→i≠q→Pr prog 80 [nX (jM X q t i k)] (.one (.int .i64 (s2 i))))∧
   (∀i,i<r→i≠q→s2 i≠0→∀j,j<c→((j<k∨sT j=0)→Z i j=jM X q t i j)∧(k≤j→sT j≠0→JW 130 (jM X q t i k) (T j) (Q i j)∧JW 183 (jM X q t i j) (Q i j) (Z i j)))∧
   X'=fun i=>if i=q then T else if s2 i=0 then jM X q t i else Z i))
structure DT (r c:Nat) (σ:Nat→Nat) (Y:Nat→Nb) (X:Nat→Nat→Nb):Prop where
 lt:∀i,i<r→σ i<r
 inj:∀i j,i<r→j<r→σ i=σ j→i=j
 eq:∀i j,i<r→j<c→Y (σ i*c+j)=X i j
theorem place {r c s j:Nat}(hs:s<r)(hj:j<c):s*c+j<r*c:=by
 have:=O8 c (show s+1≤r from hs)
 rw[Nat.add_mul,Nat.one_mul]at this;omega
theorem nh {r c s:Nat}(hs:s<r):s*c+c≤r*c:=by
 have:=O8 c (show s+1≤r from hs)
 rw[Nat.add_mul,Nat.one_mul]at this;omega
theorem apart {c s t:Nat}(h:s≠t):s*c+c≤t*c∨t*c+c≤s*c:=by
 rcases Nat.lt_or_gt_of_ne h with h|h
 ·exact .inl (nh h)
 exact .inr (nh h)
theorem zC (Z P:Nat→Nb)(a f p:Nat):gy Z P a f f p=P p:=if_neg (by omega)
theorem DT.swap {r c:Nat}{σ:Nat→Nat}{Y:Nat→Nb}{X:Nat→Nat→Nb}(h:DT r c σ Y X){q t:Nat}(hq:q<r)(ht:t<r):DT r c (fun j=>if j=t then σ q else if j=q then σ t else σ j) Y (jM X q t):=by
 have key:∀i,i<r→∃i',i'<r∧(if i=t then σ q else if i=q then σ t else σ i)=σ i'∧jM X q t i=X i'∧i'=(if i=t then q else if i=q then t else i):=by
  intro i hi;unfold jM
  by_cases h1:i=t
  ·refine⟨q,hq,by rw[if_pos h1],?_,by rw[if_pos h1]⟩
   by_cases h2:i=q
   ·rw[if_pos h2,←h1,h2]
   rw[if_neg h2,if_pos h1]
  by_cases h2:i=q
  ·exact⟨t,ht,by rw[if_neg h1,if_pos h2],by rw[if_pos h2],by rw[if_neg h1,if_pos h2]⟩
  exact⟨i,hi,by rw[if_neg h1,if_neg h2],by rw[if_neg h2,if_neg h1],by rw[if_neg h1,if_neg h2]⟩
 refine⟨fun i hi=>?_,fun i j hi hj e=>?_,fun i j hi hj=>?_⟩
 ·obtain⟨i',h1,h2,_⟩:=key i hi
  show(if i=t then σ q else if i=q then σ t else σ i)<r
  rw[h2];exact h.lt i' h1
 ·obtain⟨i',h1,h2,_,h3⟩:=key i hi;obtain⟨j',h4,h5,_,h6⟩:=key j hj;have e':(if i=t then σ q else if i=q then σ t else σ i)=(if j=t then σ q else if j=q then σ t else σ j):=e;rw[h2,h5]at e'
  have:=h.inj i' j' h1 h4 e'
  rw[h3,h6]at this
  split at this<;>split at this<;>(try split at this)<;>(try split at this)<;>omega
 obtain⟨i',h1,h2,h3,_⟩:=key i hi;show Y ((if i=t then σ q else if i=q then σ t else σ i)*c+j)=jM X q t i j;rw[h2,h3];exact h.eq i' j h1 hj
theorem DT.set {r c:Nat}{σ:Nat→Nat}{Y:Nat→Nb}{X:Nat→Nat→Nb}(h:DT r c σ Y X){n k:Nat}(hn:n<r)(Z:Nat→Nb)(hz:∀j,j<k→j<c→Z j=X n j):DT r c σ (gy Z Y (σ n*c) k c) (fun i=>if i=n then Z else X i):=by
 refine⟨h.lt,h.inj,fun i j hi hj=>?_⟩;show gy Z Y (σ n*c) k c (σ i*c+j)=(if i=n then Z else X i) j;unfold gy
 by_cases e:i=n
 ·subst e;rw[if_pos rfl]
  by_cases h1:k≤j
  ·rw[if_pos ⟨by omega,by omega⟩,Nat.add_sub_cancel_left]
  rw[if_neg (by omega),h.eq i j hi hj,hz j (by omega) hj]
 rw[if_neg e];have ap:=apart (c:=c) (fun e2=>e (h.inj i n hi hn e2):σ i≠σ n);rw[if_neg (by omega),h.eq i j hi hj]
theorem AI {Z P:Nat→Nb}{a f t:Nat}(ht:f≤t):∀p j,j<2→bz (fun p=>bC (gy Z P a f t p)) (a+t) 0 [tC (Z t).1.length (Z t).1,ag (Z t).2] p j=bC (gy Z P a f (t+1) p) j:=by
 intro p j hj;unfold bz gy
 by_cases h:p=a+t
 ·rw[if_pos h,if_pos (O2 _),if_pos (by simpa using hj),if_pos (by omega),h,Nat.add_sub_cancel_left]
  match j,hj with
  |0,_=>rfl
  |1,_=>rfl
 rw[if_neg h]
 dsimp only
 by_cases h2:a+f≤p∧p<a+t
 ·rw[if_pos h2,if_pos (by omega)]
 rw[if_neg h2,if_neg (by omega)]
theorem wg {x:Nat→Nat→Nb}{T:Nat→Nb}{Z:Nat→Nat→Nb}{s2:Nat→Int}{q t n:Nat}(hn:n≠q)(h:s2 n≠0):fC x T Z s2 q t (n+1)=fun i=>if i=n then Z n else fC x T Z s2 q t n i:=by
 funext i
 by_cases e:i=n
 ·subst e;simp only[fC,if_neg hn,if_pos (Nat.lt_succ_self i),if_neg h,if_true]
 simp only[fC,if_neg e,show (i<n+1)=(i<n) by simp;omega]
theorem qA {x:Nat→Nat→Nb}{T:Nat→Nb}{Z:Nat→Nat→Nb}{s2:Nat→Int}{q t n:Nat}(h:s2 n=0∨n=q):fC x T Z s2 q t (n+1)=fC x T Z s2 q t n:=by
 funext i
 by_cases e:i=n
 ·subst e
  rcases h with h|h
  ·by_cases e2:i=q
   ·simp only[fC,if_pos e2]
   simp only[fC,if_neg e2,if_pos (Nat.lt_succ_self i),if_pos h,if_neg (Nat.lt_irrefl i)]
  simp only[fC,if_pos h]
 simp only[fC,show (i<n+1)=(i<n) by simp;omega]
theorem QT {r c:Nat}(M:Nat→Nat→Nb)(P:Nat→Nb)(xs:Nat→Nat→Nat→Nb)(ds:Nat→Nb)(ps:Nat→List Nat)(ts:Nat→Nat)(hr:r<2^30)(hc:c<2^30)(WE:r*c<2^30)(h0:r=0→c=0)(hj:dK prog 74 [.one (ao (r*c) fun p=>M (p/c) (p%c))] (.rows 56 2 (r*c) (fun p=>bC (P p))) (.int .i64 0))
  (Wy:∀i j,i<r→j<c→P (i*c+j)=xs 0 i j) (hd0:ds 0=u9 1) (p0:ps 0=[]) (hq:∀k,k≤c→(ps k).length≤r) (hs:∀k,k<c→Rw r c k (ps k).length (xs k) (xs (k+1)) (ds k) (ds (k+1)) (ts k)) (hp:∀k,k<c→ps (k+1)=if ts k<r then ps k++[k]else ps k):
  Pr prog 47 [.one (aq r (fun _=>c) M)] (.aB [.agg [aq r (fun _=>c) (xs c),.ints .i64 (kj (ps c)),tC (ds c).1.length (ds c).1,ag (ds c).2],.one (.int .i64 0)]):=by
 have cj:=Kb M P WE hr hj;have cl:=fM (r:=r) (fun _=>c) M (k:=c) (by split;exact h0 (by assumption);rfl) (by omega);have c1:=qz 1 (by decide);refine pw func47 ⟨[0,2,3,4,5,6,7,8,9,10,11,12,13,14,15,22,31,32,33,44,46,89,108,109,110,111,126,148],[(13,(.cons 17 [2,3,4,5,18] (.cons 19 [] .nil .nil) .nil)),(26,(.cons 8 [] .nil .nil)),(31,(.cons 0 [1] (.cons 2 [] (.cons 3 [] (.cons 4 [] (.cons 5 [] (.cons 6 [] .nil .nil) .nil) (.cons 5 [] (.cons 4 [] (.cons 6 [] .nil .nil) .nil) .nil)) (.cons 5 [] (.cons 3 [] (.cons 4 [] (.cons 6 [] .nil .nil) .nil) .nil) .nil)) (.cons 5 [1] (.cons 2 [] (.cons 3 [] (.cons 4 [] (.cons 6 [] .nil .nil) .nil) .nil) .nil) .nil)) (.cons 2 [] (.cons 0 [] (.cons 3 [] (.cons 4 [] (.cons 5 [] (.cons 6 [] .nil .nil) .nil) (.cons 5 [] (.cons 4 [] (.cons 6 [] .nil .nil) .nil) .nil)) (.cons 5 [] (.cons 3 [] (.cons 4 [] (.cons 6 [] .nil .nil) .nil) .nil) .nil)) (.cons 3 [] (.cons 0 [] (.cons 4 [] (.cons 5 [] (.cons 6 [] .nil .nil) .nil) (.cons 5 [] (.cons 4 [] (.cons 6 [] .nil .nil) .nil) .nil)) (.cons 4 [] (.cons 0 [] (.cons 5 [] (.cons 6 [] .nil .nil) .nil) .nil) .nil)) .nil)) .nil)))]⟩ ?_;simp only[Tryz.f47,ntmps47,iz,seval];simp only[vx,T,seval,aq,ao];refine cN.Nx cj ?_;simp only[vx,T,seval,aq,ao];refine Cg c1 ?_;simp only[vx,T,seval,aq,ao,nX,nV,tC,ag];refine Cg cl ?_;simp only[vx,T,seval,aq,ao];refine Lk (fun y:{y:Nat×(Nat→Nat)×(Nat→Nb)//y.1≤c∧DT r c y.2.1 y.2.2 (xs y.1)}=>⟨[(2,.one (.ptr 1 0)),(3,.one (.int .i64 0)),(4,.one (.win 2 3 0 r)),(6,.one (.ptr 4 0)),(7,.one (.ptr 5 0)),(31,.one (.int .i64 c)),(32,.one (.int .i64 y.1.1))],
  [(1,⟨.var [.nil,.nil,.nil,.nil],true⟩),(2,⟨.wins 38 3 r (fun i=>.own 3 2 (y.1.2.1 i*c) c),true⟩),(3,⟨.rows 56 2 (r*c) (fun p=>bC (y.1.2.2 p)),true⟩),(4,⟨.var [.int .i64 0],false⟩),
   (5,⟨.var [.win 2 3 0 r,.own 6 1 0 (ps y.1.1).length,tC (ds y.1.1).1.length (ds y.1.1).1,ag (ds y.1.1).2],true⟩),(6,⟨.ints 3 .i64 (kj (ps y.1.1)),true⟩)],7,155⟩) (fun y=>c-y.1.1) ⟨(0,fun i=>i,P),O2 _,⟨fun _ h=>h,fun _ _ _ _ h=>h,Wy⟩⟩ ?_ (fun⟨⟨k,σ,Y⟩,hk,hY⟩=>?_)
 ·refine Sub.mk [(2,some 4),(3,some 5),(4,some 14),(5,some 19),(6,none)] ?_;simp only[ry,seval,X2,X3,X4,aq,ao,p0,kj,hd0,u9,tC,ag,List.map_nil]
 simp only at hk hY;have wi:=wI k (by omega);simp only[vx,T,seval,aq,ao];refine⟨fun g=>Lg ?_,fun g=>Lg ?_⟩
 ·obtain⟨sg,s0,tq,tr,sz,hy⟩:=hs k (by omega);have hqk:=hq k (by omega);have WC:k<c:=by omega
  -- the first row with a number
  have fi:∃z:Int,Pr prog 88 [.one (aq (r-(ps k).length) (fun _=>c) fun i j=>Y (σ ((ps k).length+i)*c+j)),.one (.fn 89 1 (fun _=>F7 (.int .i64 k)))] (.one (.int .i64 z))∧((ts k=r∧z= -1)∨(ts k<r∧z=(ts k-(ps k).length:Nat))):=by
   have hf:∀i,i<r-(ps k).length→Pr prog 89 [.one (ao c fun j=>Y (σ ((ps k).length+i)*c+j)),.one (F7 (.int .i64 k))] (.one (.bool (decide (sg ((ps k).length+i)≠0)))):=fun i hi=>by
    refine OE (fun j=>Y (σ ((ps k).length+i)*c+j)) k WC (by omega) ?_;rw[hY.eq _ k (by omega) WC];exact s0 _ (by omega) (by omega)
   have mk:=fun(z:Int) hz=>MV (r:=r-(ps k).length) (fun _=>c) (fun i j=>Y (σ ((ps k).length+i)*c+j)) 89 (fun i=>decide (sg ((ps k).length+i)≠0)) (by omega) hf (k:=z) hz
   rcases hy with⟨h,_⟩|⟨h,hn,_⟩
   ·exact⟨-1,mk (-1) (.inl ⟨rfl,fun i hi=>by simpa using sz ((ps k).length+i) (by omega) (by omega)⟩),.inl ⟨h,rfl⟩⟩
   refine⟨_,mk _ (.inr ⟨ts k-(ps k).length,rfl,by omega,?_,fun i hi=>by simpa using sz ((ps k).length+i) (by omega) (by omega)⟩),.inr ⟨h,rfl⟩⟩;rw[Nat.add_sub_cancel' tq]
   simpa using hn
  obtain⟨z,hz,hzt⟩:=fi;have er:((r:Int)-((ps k).length:Int)).toNat=r-(ps k).length:=by omega
  simp only[vx,T,seval,aq,ao,er];refine⟨by omega,Cg (hz.args ⟨.refl _,.cell (dH.RW rfl),trivial⟩) ?_⟩;simp only[vx,T,seval,aq,ao];refine⟨fun g1=>Lg ?_,fun g1=>Lg ?_⟩
  ·have htr:ts k=r:=by omega
   obtain⟨hx,hd⟩:xs (k+1)=xs k∧ds (k+1)=ds k:=by
    rcases hy with⟨_,h⟩|⟨h,_⟩
    ·exact h
    omega
   have Xq:=hp k WC;rw[if_neg (by omega)]at Xq;simp only[vx,T,seval,wi];refine Lq ⟨(k+1,σ,Y),by omega,by show DT r c σ Y (xs (k+1));rw[hx];exact hY⟩ ?_ (by show c-(k+1)<c-k;omega);refine Sub.mk [(2,some 2)] ?_;simp only[ry,seval,X2,X3,X4,aq,ao,hx,hd,Xq,tC,ag]
  obtain⟨ht,hzz⟩:ts k<r∧z=(ts k-(ps k).length:Nat):=by omega
  subst hzz;obtain⟨d1,T',Z,Q,s2,sT,Wv,VX,Wq,hT,hT2,hsT,U4,hZ,hx⟩:=(hy.resolve_left (by omega)).2.2;clear hy;have Xq:=hp k WC;rw[if_pos ht]at Xq;have Wl:=hY.swap (show(ps k).length<r by omega) ht
  generalize hσ:(fun j=>if j=ts k then σ (ps k).length else if j=(ps k).length then σ (ts k)else σ j)=σ2 at Wl
  have hσ':∀i,σ2 i=if i=ts k then σ (ps k).length else if i=(ps k).length then σ (ts k)else σ i:=fun i=>by rw[←hσ]
  have wt:IntKind.i64.wrap (((ps k).length:Int)+((ts k-(ps k).length:Nat):Int))=(ts k:Int):=by rw[Q4 _ (by omega)];omega
  simp only[vx,T,seval,aq,ao];refine⟨fun g2=>Lg ?_,fun g2=>Lg ?_⟩
  ·have ne1:((ps k).length=ts k)=False:=eq_false (by omega);simp only[vx,T,seval,aq,ao,wt,tC,ag];refine⟨by omega,by omega,by omega,by omega,by omega,Cg (Wv (by omega)) ?_⟩;simp only[vx,T,seval,nX,nV,aq,ao,tC,ag];have hYt:Y (σ (ts k)*c+k)=xs k (ts k) k:=by exact hY.eq (ts k) k ht WC
   simp only[vx,T,seval,aq,ao,ne1,hYt,bC,tC,ag];refine⟨by omega,by omega,Cg (I6 Wq) ?_⟩;simp only[vx,T,seval,nX,nV,aq,ao,ne1,bC,tC,ag];have Vh:=nh (r:=r) (c:=c) (hY.lt (ts k) (by omega));refine Lk (fun y:{j:Nat//k≤j∧j≤c}=>⟨[(2,.one (.ptr 1 0)),(3,.one (.int .i64 0)),(4,.one (.win 2 3 0 r)),(6,.one (.ptr 4 0)),(7,.one (.ptr 5 0)),(8,.one (.ptr 7 0)),(9,.one (.int .i64 (ps k).length)),(11,.one (.ptr 8 0)),(12,.one (.int .i64 y.1)),(31,.one (.int .i64 c)),(32,.one (.int .i64 k))],
    [(1,⟨.var [.nil,.nil,.nil,.nil],true⟩),(2,⟨.wins 38 3 r (fun i=>.own 3 2 (σ2 i*c) c),true⟩),(3,⟨.rows 56 2 (r*c) (fun p=>bC (gy T' Y (σ2 (ps k).length*c) k y.1 p)),true⟩),(4,⟨.var [.int .i64 0],false⟩),
     (5,⟨.var [.win 2 3 0 r,.own 6 1 0 (ps k).length,tC (ds (k+1)).1.length (ds (k+1)).1,ag (ds (k+1)).2],true⟩),(6,⟨.ints 3 .i64 (kj (ps k)),true⟩),(7,⟨.var [.int .i64 k],true⟩),(8,⟨.var [tC (xs k (ts k) k).1.length (xs k (ts k) k).1,ag (xs k (ts k) k).2],true⟩)],9,155⟩) (fun y=>c-y.1) ⟨k,O1 _,hk⟩ ?_ (fun⟨j,hj,hjc⟩=>?_)
   ·refine Sa ?_;simp only[ry,seval,rz,aq,ao,tC,ag,zC];intro i hi;rw[hσ']
    by_cases h1:i=ts k
    ·rw[if_pos h1,if_pos h1];exact⟨rfl,rfl,rfl,rfl⟩
    by_cases h2:i=(ps k).length
    ·rw[if_neg h1,if_neg h1,if_pos h2,if_pos h2];exact⟨rfl,rfl,rfl,rfl⟩
    rw[if_neg h1,if_neg h1,if_neg h2,if_neg h2];exact⟨rfl,rfl,rfl,rfl⟩
   simp only;have wj:=wI j (by omega);simp only[vx,T,seval,aq,ao];refine⟨by omega,fun h=>Lg ?_,fun h=>Lg ?_⟩
   ·have e1:gy T' Y (σ2 (ps k).length*c) k j (σ2 (ps k).length*c+j)=xs k (ts k) j:=by
     rw[show gy T' Y (σ2 (ps k).length*c) k j (σ2 (ps k).length*c+j)=Y (σ2 (ps k).length*c+j)from if_neg (by omega),Wl.eq _ j (by omega) (by omega)];unfold jM;rw[if_pos rfl]
    have pl:=place (r:=r) (c:=c) (Wl.lt (ps k).length (by omega)) (show j<c by omega);simp only[vx,T,seval,aq,ao,e1,bC,tC,ag];refine⟨by omega,by omega,by omega,Cg (Qt (hT j hj (by omega))) ?_⟩;simp only[vx,T,seval,nX,nV,aq,ao,bC,tC,ag,wj];refine⟨by omega,Lq ⟨j+1,by omega,by omega⟩ ?_ (by show c-(j+1)<c-j;omega)⟩;refine Sa ?_;simp only[ry,seval,rz,aq,ao,tC,ag];intro p j' _ Vv;exact AI hj p j' Vv
   obtain rfl:c=j:=by omega
   have hY3:=Wl.set (show(ps k).length<r by omega) T' (k:=k) (fun j h1 h2=>by unfold jM;rw[if_pos rfl];exact hT2 j h1);have hY4:DT r c σ2 (gy T' Y (σ2 (ps k).length*c) k c) (fC (xs k) T' Z s2 (ps k).length (ts k) 0):=hY3;clear hY3
   generalize gy T' Y (σ2 (ps k).length*c) k c=Y1 at hY4
   simp only[vx,T,seval,aq,ao];refine Lk (fun y:{y:Nat×(Nat→Nb)//y.1≤r∧DT r c σ2 y.2 (fC (xs k) T' Z s2 (ps k).length (ts k) y.1)}=>⟨[(2,.one (.ptr 1 0)),(3,.one (.int .i64 0)),(4,.one (.win 2 3 0 r)),(6,.one (.ptr 4 0)),(7,.one (.ptr 5 0)),(8,.one (.ptr 7 0)),(9,.one (.int .i64 (ps k).length)),(31,.one (.int .i64 c)),(32,.one (.int .i64 k)),(108,.one (.win 2 3 0 r)),(109,.one (.int .i64 r)),(110,.one (.int .i64 y.1.1))],
    [(1,⟨.var [.nil,.nil,.nil,.nil],true⟩),(2,⟨.wins 38 3 r (fun i=>.own 3 2 (σ2 i*c) c),true⟩),(3,⟨.rows 56 2 (r*c) (fun p=>bC (y.1.2 p)),true⟩),(4,⟨.var [.int .i64 0],false⟩),
     (5,⟨.var [.win 2 3 0 r,.own 6 1 0 (ps k).length,tC (ds (k+1)).1.length (ds (k+1)).1,ag (ds (k+1)).2],true⟩),(6,⟨.ints 3 .i64 (kj (ps k)),true⟩),(7,⟨.var [.int .i64 k],true⟩)],8,155⟩) (fun y=>r-y.1.1) ⟨(0,Y1),O2 _,hY4⟩ ?_ (fun⟨⟨n,Y2⟩,hn,Uc⟩=>?_)
   ·refine Sa ?_;simp only[ry,seval,rz,aq,ao,tC,ag]
   simp only at hn Uc;have wn:=wI n (by omega);simp only[vx,T,seval,aq,ao];refine⟨fun h=>Lg ?_,fun h=>Lg ?_⟩
   ·have U5:n<r:=by omega
    have e2:=Uc.eq n k U5 WC;have pl2:=nh (r:=r) (c:=c) (Wl.lt n U5);simp only[vx,T,seval,aq,ao,e2,bC,tC,ag];refine⟨by omega,by omega,?_⟩;refine⟨fun h2=>Lg ?_,fun h2=>Lg ?_⟩
    ·have Vn:n≠(ps k).length:=by omega
     have er:fC (xs k) T' Z s2 (ps k).length (ts k) n n=jM (xs k) (ps k).length (ts k) n:=by simp[fC,Vn]
     simp only[vx,T,seval,aq,ao,er,bC,tC,ag];refine Cg (U4 n U5 Vn) ?_;simp only[vx,T,seval,aq,ao];refine⟨fun g4=>Lg ?_,fun g4=>Lg ?_⟩
     ·have Wm:s2 n≠0:=by simpa using g4
      have Ze:(ps k).length<r:=by omega
      have pl3:=nh (r:=r) (c:=c) (Wl.lt (ps k).length Ze);have ap:=apart (c:=c) (s:=σ2 n) (t:=σ2 (ps k).length) (fun e=>Vn (Wl.inj n _ U5 Ze e));have eT:∀t,t<c→Y2 (σ2 (ps k).length*c+t)=T' t:=fun t ht=>by rw[Uc.eq _ t Ze ht];simp[fC]
      have eS:∀t,t<c→Y2 (σ2 n*c+t)=jM (xs k) (ps k).length (ts k) n t:=fun t ht=>by rw[Uc.eq n t U5 ht,er]
      have W8:=fun(S:C) (wd io oo:Nat)=>v5 (S:=S) (wd:=wd) (io:=io) (oo:=oo) (N:=r*c) (a:=σ2 n*c) (b:=σ2 (ps k).length*c) (c:=c) (f:=k) Y2 (Z n) (Q n) (jM (xs k) (ps k).length (ts k) n k) sT pl2 pl3 ap (by omega) hk
       (fun t h1 h2=>by rw[eT t h2];exact hsT t h1 h2) (fun t h1 h2 e=>by rw[eS t h2];exact(hZ n U5 Vn Wm t h2).1 (.inr e)) (fun t h1 h2 e=>by
        obtain⟨m1,m2⟩:=(hZ n U5 Vn Wm t h2).2 h1 e;rw[eT t h2,eS t h2];exact⟨I6 m1,QA m2⟩)
      simp only[vx,T,seval,aq,ao,bC,tC,ag];refine⟨by omega,Cm 3 rfl trivial (W8 _ _ _ _) ?_⟩;rintro r' B' rfl _;simp only[vx,T,seval,aq,ao,bC,tC,ag,wn];have hYm:=Uc.set U5 (Z n) (k:=k) (fun j h1 h2=>by rw[er];exact(hZ n U5 Vn Wm j h2).1 (.inl h1));rw[←wg Vn Wm]at hYm;refine Lq ⟨(n+1,gy (Z n) Y2 (σ2 n*c) k c),by show n+1≤r;omega,hYm⟩ ?_ (by show r-(n+1)<r-n;omega);refine Sa ?_;simp only[ry,seval,rz,aq,ao,tC,ag]
     have Wm:s2 n=0:=by simpa using g4
     simp only[vx,T,seval,aq,ao,wn];rw[←qA (.inl Wm)]at Uc;refine Lq ⟨(n+1,Y2),by show n+1≤r;omega,Uc⟩ ?_ (by show r-(n+1)<r-n;omega);refine Sa ?_;simp only[ry,seval,rz,aq,ao,tC,ag]
    have Vn:n=(ps k).length:=by omega
    simp only[vx,T,seval,aq,ao,wn];rw[←qA (.inr Vn)]at Uc;refine Lq ⟨(n+1,Y2),by show n+1≤r;omega,Uc⟩ ?_ (by show r-(n+1)<r-n;omega);refine Sa ?_;simp only[ry,seval,rz,aq,ao,tC,ag]
   obtain rfl:r=n:=by omega
   have hYe:DT r c σ2 Y2 (xs (k+1)):=⟨Uc.lt,Uc.inj,fun i j hi hj=>(Uc.eq i j hi hj).trans (by rw[hx];simp only[fC,if_pos hi])⟩;have et:(kj (ps k)).take (ps k).length=kj (ps k):=by rw[←dx,List.take_length]
   have ea:kj (ps k)++[(k:Int)]=kj (ps (k+1)):=by rw[Xq];simp[kj]
   have el:(kj (ps (k+1))).length=(ps (k+1)).length:=dx;have el':(kj (ps k)).length=(ps k).length:=dx;simp only[vx,T,seval,aq,ao,et,ea,el,el',wi,tC,ag];refine⟨by omega,Lq ⟨(k+1,σ2,Y2),by show k+1≤c;omega,hYe⟩ ?_ (by show c-(k+1)<c-k;omega)⟩;refine Sub.mk [(6,some 13)] ?_;simp only[ry,seval,X2,X3,X4,aq,ao,tC,ag]
  have eqt:ts k=(ps k).length:=by omega
  obtain rfl:=VX eqt;simp only[vx,T,seval,aq,ao,wt,tC,ag];have hYt:Y (σ (ps k).length*c+k)=xs k (ts k) k:=by rw[←eqt];exact hY.eq (ts k) k ht WC
  simp only[vx,T,seval,aq,ao,hYt,bC,tC,ag];refine⟨by omega,by omega,Cg (I6 Wq) ?_⟩;simp only[vx,T,seval,nX,nV,aq,ao,bC,tC,ag];have Vh:=nh (r:=r) (c:=c) (hY.lt (ps k).length (by omega));refine Lk (fun y:{j:Nat//k≤j∧j≤c}=>⟨[(2,.one (.ptr 1 0)),(3,.one (.int .i64 0)),(4,.one (.win 2 3 0 r)),(6,.one (.ptr 4 0)),(7,.one (.ptr 5 0)),(8,.one (.ptr 7 0)),(9,.one (.int .i64 (ps k).length)),(11,.one (.ptr 8 0)),(12,.one (.int .i64 y.1)),(31,.one (.int .i64 c)),(32,.one (.int .i64 k))],
   [(1,⟨.var [.nil,.nil,.nil,.nil],true⟩),(2,⟨.wins 38 3 r (fun i=>.own 3 2 (σ2 i*c) c),true⟩),(3,⟨.rows 56 2 (r*c) (fun p=>bC (gy T' Y (σ2 (ps k).length*c) k y.1 p)),true⟩),(4,⟨.var [.int .i64 0],false⟩),
    (5,⟨.var [.win 2 3 0 r,.own 6 1 0 (ps k).length,tC (ds (k+1)).1.length (ds (k+1)).1,ag (ds (k+1)).2],true⟩),(6,⟨.ints 3 .i64 (kj (ps k)),true⟩),(7,⟨.var [.int .i64 k],true⟩),(8,⟨.var [tC (xs k (ts k) k).1.length (xs k (ts k) k).1,ag (xs k (ts k) k).2],true⟩)],9,155⟩) (fun y=>c-y.1) ⟨k,O1 _,hk⟩ ?_ (fun⟨j,hj,hjc⟩=>?_)
  ·refine Sa ?_;simp only[ry,seval,rz,aq,ao,tC,ag,zC];intro i hi;rw[hσ',eqt]
   by_cases h1:i=(ps k).length
   ·rw[if_pos h1,h1]
   rw[if_neg h1,if_neg h1]
  simp only;have wj:=wI j (by omega);simp only[vx,T,seval,aq,ao];refine⟨by omega,fun h=>Lg ?_,fun h=>Lg ?_⟩
  ·have e1:gy T' Y (σ2 (ps k).length*c) k j (σ2 (ps k).length*c+j)=xs k (ts k) j:=by
    rw[show gy T' Y (σ2 (ps k).length*c) k j (σ2 (ps k).length*c+j)=Y (σ2 (ps k).length*c+j)from if_neg (by omega),Wl.eq _ j (by omega) (by omega)];unfold jM;rw[if_pos rfl]
   have pl:=place (r:=r) (c:=c) (Wl.lt (ps k).length (by omega)) (show j<c by omega);simp only[vx,T,seval,aq,ao,e1,bC,tC,ag];refine⟨by omega,by omega,by omega,Cg (Qt (hT j hj (by omega))) ?_⟩;simp only[vx,T,seval,nX,nV,aq,ao,bC,tC,ag,wj];refine⟨by omega,Lq ⟨j+1,by omega,by omega⟩ ?_ (by show c-(j+1)<c-j;omega)⟩;refine Sa ?_;simp only[ry,seval,rz,aq,ao,tC,ag];intro p j' _ Vv;exact AI hj p j' Vv
  obtain rfl:c=j:=by omega
  have hY3:=Wl.set (show(ps k).length<r by omega) T' (k:=k) (fun j h1 h2=>by unfold jM;rw[if_pos rfl];exact hT2 j h1);have hY4:DT r c σ2 (gy T' Y (σ2 (ps k).length*c) k c) (fC (xs k) T' Z s2 (ps k).length (ts k) 0):=hY3;clear hY3
  generalize gy T' Y (σ2 (ps k).length*c) k c=Y1 at hY4
  simp only[vx,T,seval,aq,ao];refine Lk (fun y:{y:Nat×(Nat→Nb)//y.1≤r∧DT r c σ2 y.2 (fC (xs k) T' Z s2 (ps k).length (ts k) y.1)}=>⟨[(2,.one (.ptr 1 0)),(3,.one (.int .i64 0)),(4,.one (.win 2 3 0 r)),(6,.one (.ptr 4 0)),(7,.one (.ptr 5 0)),(8,.one (.ptr 7 0)),(9,.one (.int .i64 (ps k).length)),(31,.one (.int .i64 c)),(32,.one (.int .i64 k)),(108,.one (.win 2 3 0 r)),(109,.one (.int .i64 r)),(110,.one (.int .i64 y.1.1))],
   [(1,⟨.var [.nil,.nil,.nil,.nil],true⟩),(2,⟨.wins 38 3 r (fun i=>.own 3 2 (σ2 i*c) c),true⟩),(3,⟨.rows 56 2 (r*c) (fun p=>bC (y.1.2 p)),true⟩),(4,⟨.var [.int .i64 0],false⟩),
    (5,⟨.var [.win 2 3 0 r,.own 6 1 0 (ps k).length,tC (ds (k+1)).1.length (ds (k+1)).1,ag (ds (k+1)).2],true⟩),(6,⟨.ints 3 .i64 (kj (ps k)),true⟩),(7,⟨.var [.int .i64 k],true⟩)],8,155⟩) (fun y=>r-y.1.1) ⟨(0,Y1),O2 _,hY4⟩ ?_ (fun⟨⟨n,Y2⟩,hn,Uc⟩=>?_)
  ·refine Sa ?_;simp only[ry,seval,rz,aq,ao,tC,ag]
  simp only at hn Uc;have wn:=wI n (by omega);simp only[vx,T,seval,aq,ao];refine⟨fun h=>Lg ?_,fun h=>Lg ?_⟩
  ·have U5:n<r:=by omega
   have e2:=Uc.eq n k U5 WC;have pl2:=nh (r:=r) (c:=c) (Wl.lt n U5);simp only[vx,T,seval,aq,ao,e2,bC,tC,ag];refine⟨by omega,by omega,?_⟩;refine⟨fun h2=>Lg ?_,fun h2=>Lg ?_⟩
   ·have Vn:n≠(ps k).length:=by omega
    have er:fC (xs k) T' Z s2 (ps k).length (ts k) n n=jM (xs k) (ps k).length (ts k) n:=by simp[fC,Vn]
    simp only[vx,T,seval,aq,ao,er,bC,tC,ag];refine Cg (U4 n U5 Vn) ?_;simp only[vx,T,seval,aq,ao];refine⟨fun g4=>Lg ?_,fun g4=>Lg ?_⟩
    ·have Wm:s2 n≠0:=by simpa using g4
     have Ze:(ps k).length<r:=by omega
     have pl3:=nh (r:=r) (c:=c) (Wl.lt (ps k).length Ze);have ap:=apart (c:=c) (s:=σ2 n) (t:=σ2 (ps k).length) (fun e=>Vn (Wl.inj n _ U5 Ze e));have eT:∀t,t<c→Y2 (σ2 (ps k).length*c+t)=T' t:=fun t ht=>by rw[Uc.eq _ t Ze ht];simp[fC]
     have eS:∀t,t<c→Y2 (σ2 n*c+t)=jM (xs k) (ps k).length (ts k) n t:=fun t ht=>by rw[Uc.eq n t U5 ht,er]
     have W8:=fun(S:C) (wd io oo:Nat)=>v5 (S:=S) (wd:=wd) (io:=io) (oo:=oo) (N:=r*c) (a:=σ2 n*c) (b:=σ2 (ps k).length*c) (c:=c) (f:=k) Y2 (Z n) (Q n) (jM (xs k) (ps k).length (ts k) n k) sT pl2 pl3 ap (by omega) hk
      (fun t h1 h2=>by rw[eT t h2];exact hsT t h1 h2) (fun t h1 h2 e=>by rw[eS t h2];exact(hZ n U5 Vn Wm t h2).1 (.inr e)) (fun t h1 h2 e=>by
       obtain⟨m1,m2⟩:=(hZ n U5 Vn Wm t h2).2 h1 e;rw[eT t h2,eS t h2];exact⟨I6 m1,QA m2⟩)
     simp only[vx,T,seval,aq,ao,bC,tC,ag];refine⟨by omega,Cm 3 rfl trivial (W8 _ _ _ _) ?_⟩;rintro r' B' rfl _;simp only[vx,T,seval,aq,ao,bC,tC,ag,wn];have hYm:=Uc.set U5 (Z n) (k:=k) (fun j h1 h2=>by rw[er];exact(hZ n U5 Vn Wm j h2).1 (.inl h1));rw[←wg Vn Wm]at hYm;refine Lq ⟨(n+1,gy (Z n) Y2 (σ2 n*c) k c),by show n+1≤r;omega,hYm⟩ ?_ (by show r-(n+1)<r-n;omega);refine Sa ?_;simp only[ry,seval,rz,aq,ao,tC,ag]
    have Wm:s2 n=0:=by simpa using g4
    simp only[vx,T,seval,aq,ao,wn];rw[←qA (.inl Wm)]at Uc;refine Lq ⟨(n+1,Y2),by show n+1≤r;omega,Uc⟩ ?_ (by show r-(n+1)<r-n;omega);refine Sa ?_;simp only[ry,seval,rz,aq,ao,tC,ag]
   have Vn:n=(ps k).length:=by omega
   simp only[vx,T,seval,aq,ao,wn];rw[←qA (.inr Vn)]at Uc;refine Lq ⟨(n+1,Y2),by show n+1≤r;omega,Uc⟩ ?_ (by show r-(n+1)<r-n;omega);refine Sa ?_;simp only[ry,seval,rz,aq,ao,tC,ag]
  obtain rfl:r=n:=by omega
  have hYe:DT r c σ2 Y2 (xs (k+1)):=⟨Uc.lt,Uc.inj,fun i j hi hj=>(Uc.eq i j hi hj).trans (by rw[hx];simp only[fC,if_pos hi])⟩;have et:(kj (ps k)).take (ps k).length=kj (ps k):=by rw[←dx,List.take_length]
  have ea:kj (ps k)++[(k:Int)]=kj (ps (k+1)):=by rw[Xq];simp[kj]
  have el:(kj (ps (k+1))).length=(ps (k+1)).length:=dx;have el':(kj (ps k)).length=(ps k).length:=dx;simp only[vx,T,seval,aq,ao,et,ea,el,el',wi,tC,ag];refine⟨by omega,Lq ⟨(k+1,σ2,Y2),by show k+1≤c;omega,hYe⟩ ?_ (by show c-(k+1)<c-k;omega)⟩;refine Sub.mk [(6,some 13)] ?_;simp only[ry,seval,X2,X3,X4,aq,ao,tC,ag]
 obtain rfl:c=k:=by omega
 have et:(kj (ps c)).take (ps c).length=kj (ps c):=by rw[←dx,List.take_length]
 simp only[vx,T,seval,aq,ao,tC,ag,et,uI,De];exact fR.aB ⟨zi (dH.rows rfl fun i j hi _=>dH.rows rfl fun i' j' Uk _=>dH.of_eq (by rw[hY.eq i i' hi Uk])) (.refl _) (.refl _) (.refl _),.refl _,trivial⟩
open Go Go.Eng
open Go.Tw (El ax TG iF jS)
open Go.Mx (sm iv iO red ov ow uj jT)
section
variable {A:List R}(S:Go.Tw.Src 64 A)(hA:Go.Tw.dV A)
include S hA
theorem PB {z:List El×El}{β μ:Nat}(nz:ax A z.1 z.2 (R.q 1) β μ):Pr prog 80 [nX z] (.one (.int .i64 (R.bQ (R.q 1)))):=by
 have W:=(tR S hA nz.tg (O1 _)).rq.mono (show jS≤2^36 by decide);have g:=kW (by decide) W nz.len ((nz.tg.Rj S hA nz.len nz.val (by decide) (by decide)).mono (show jS≤2^36 by decide));rw[Go.Tw.cA nz.tg.rd.rl nz.len,nz.val]at g;exact zV _ _ g
theorem FT {r c k W:Nat}(X:Nat→Nat→Nu A)(d:Nu A)(p:List Nat)(hk:k<c)(hq:p.length≤r)(hw:∀i j,i<r→j<c→(X i j).w≤W)(hd:d.w≤W)(hW:p.length<r→W≤150∨(W≤256∧k+1=c))
  (Xl:∀i j,p.length≤i→i<r→j<k→(X i j).v=R.q 0):
  ∃(X':Nat→Nat→Nu A) (d':Nu A),Rw r c k p.length (fun i j=>(X i j).x) (fun i j=>(X' i j).x) d.x d'.x (ow (vM X) k (r-p.length) p.length)∧iO r c (vM X') (ov r k (vM X,p)).1∧
   (∀i j,i<r→j<c→(X' i j).w≤W*4^((ov r k (vM X,p)).2.length-p.length))∧d'.w≤W*4^((ov r k (vM X,p)).2.length-p.length):=by
 obtain⟨h1,h2,h3,h4⟩:=Go.Mx.mN (vM X) k (r-p.length) p.length;have b8:wB=3400:=rfl;have b2:wA=8000:=rfl;have V9:∀i,p.length≤i→i<r→Pr prog 80 [nX (X i k).x] (.one (.int .i64 (R.bQ (X i k).v))):=fun i hi WB=>mR S hA (by
  have:=hw i k WB hk
  have:=hW (by omega)
  omega)
 by_cases ht:ow (vM X) k (r-p.length) p.length<r
 ·have hs:ov r k (vM X,p)=(jT (uj (vM X) p.length (ow (vM X) k (r-p.length) p.length)) p.length k,p++[k]):=by
   unfold ov;exact if_pos ht
  rw[hs]
  generalize ow (vM X) k (r-p.length) p.length=t at h1 h2 h3 h4 ht
  have SW:=h4 (by omega);have Wx:=hW (by omega);have hwt:=fun j (hj:j<c)=>hw t j ht hj;have hnk:(X t k).v≠R.q 0:=SW;have SI:=fun j (hj:j<k)=>Xl t j h1 ht hj;obtain⟨d1,v1,w1,n1⟩:∃d1:Nu A,d1.w=d.w∧(p.length<t→Pr prog 50 [nX d.x] (nX d1.x))∧(t=p.length→d1.x=d.x):=by
   by_cases e:t=p.length
   ·exact⟨d,rfl,fun h=>absurd h (by omega),fun _=>rfl⟩
   obtain⟨c,_,c2,c3⟩:=D9 S hA (a:=d) (by omega);exact⟨c,c2,fun _=>c3,fun h=>absurd h e⟩
  obtain⟨d',_,wd,nd⟩:=sO S hA (a:=d1) (b:=X t k) (by omega) (by have:=hwt k hk;omega);obtain⟨T',hT'⟩:=QJ (n:=c) (p:=fun j c=>c.v=(X t j).v*iv (X t k).v∧c.w≤2*W∧JW 137 (X t j).x (X t k).x c.x) (X 0 0) fun j hj=>by
   have e1:=hwt j hj;have e2:=hwt k hk;obtain⟨c,c1,c2,c3⟩:=Lx S hA (a:=X t j) (b:=X t k) (by omega) (by omega) hnk;exact⟨c,c1,by omega,c3⟩
  obtain⟨T,hTd⟩:∃T:Nat→Nu A,∀j,T j=if j<k then X t j else T' j:=⟨_,fun _=>rfl⟩
  have hTl:∀j,j<k→T j=X t j:=fun j hj=>by rw[hTd,if_pos hj]
  have hTr:∀j,k≤j→T j=T' j:=fun j hj=>by rw[hTd,if_neg (by omega)]
  have hTv:∀j,j<c→(T j).v=(X t j).v*iv (X t k).v:=fun j hj=>by
   by_cases e:j<k
   ·rw[hTl j e,SI j e,R.zero_mul]
   rw[hTr j (by omega)];exact(hT' j hj).1
  have hTw:∀j,j<c→(T j).w≤2*W:=fun j hj=>by
   by_cases e:j<k
   ·rw[hTl j e];have:=hwt j hj;omega
   rw[hTr j (by omega)];exact(hT' j hj).2.1
  have hsT:∀j,k≤j→j<c→Pr prog 80 [nX (T j).x] (.one (.int .i64 (R.bQ (T j).v))):=fun j h5 h6=>by
   have e3:=hTw j h6
   rcases Wx with h|⟨h,VR⟩
   ·exact mR S hA (by omega)
   obtain rfl:j=k:=by omega
   have e4:=hTv j h6;rw[Go.Mx.rN hnk]at e4
   have:=(T j).ok
   rw[e4]at this⊢;exact PB S hA this
  have W1:∀i j,i<r→j<c→(jN X p.length t i j).w≤W:=fun i j hi hj=>Oa (by omega) ht hw hi hj;obtain⟨Q,hQ⟩:=Qq (r:=r) (c:=c) (p:=fun i j c=>c.v=(jN X p.length t i k).v*(T j).v∧c.w≤3*W∧JW 130 (jN X p.length t i k).x (T j).x c.x) (X 0 0) fun i j hi hj=>by
   have e1:=hTw j hj;have e2:=W1 i k hi hk;obtain⟨c,c1,c2,c3⟩:=sO S hA (a:=jN X p.length t i k) (b:=T j) (by omega) (by omega);exact⟨c,c1,by omega,c3⟩
  obtain⟨Z',hZ'⟩:=Qq (r:=r) (c:=c) (p:=fun i j c=>c.v=(jN X p.length t i j).v-(jN X p.length t i k).v*(T j).v∧c.w≤W*4∧JW 183 (jN X p.length t i j).x (Q i j).x c.x) (X 0 0) fun i j hi hj=>by
   obtain⟨q1,q2,_⟩:=hQ i j hi hj;have e2:=W1 i j hi hj;obtain⟨c,c1,c2,c3⟩:=JI S hA (a:=jN X p.length t i j) (b:=Q i j) (by omega) (by omega);exact⟨c,by rw[c1,q1],by omega,c3⟩
  obtain⟨Z,hZd⟩:∃Z:Nat→Nat→Nu A,∀i j,Z i j=if j<k∨R.bQ (T j).v=0 then jN X p.length t i j else Z' i j:=⟨_,fun _ _=>rfl⟩
  have hZv:∀i j,i<r→j<c→(Z i j).v=(jN X p.length t i j).v-(T j).v*(jN X p.length t i k).v:=fun i j hi hj=>by
   rw[hZd]
   split
   ·rename_i e
    have:(T j).v=R.q 0:=by
     rcases e with e|e
     ·rw[hTl j e,SI j e]
     exact R.kr.1 e
    rw[this,R.zero_mul,R.sub_zero]
   rw[(hZ' i j hi hj).1,R.mul_comm]
  refine⟨fun i=>if i=p.length then T else if R.bQ (jN X p.length t i k).v=0 then jN X p.length t i else Z i,d',⟨fun i=>R.bQ (X i k).v,V9,h1,Nat.le_of_lt ht,fun i a b=>R.kr.2 (h3 i a b),.inr ⟨ht,fun e=>hnk (R.kr.1 e),d1.x,fun j=>(T j).x,fun i j=>(Z i j).x,fun i j=>(Q i j).x,fun i=>R.bQ (jN X p.length t i k).v,fun j=>R.bQ (T j).v,
   w1,n1,nd,fun j h5 h6=>?_,fun j h5=>?_,hsT,fun i hi SW=>?_,fun i hi SW _ j hj=>⟨fun e=>?_,fun h5 h6=>⟨?_,?_⟩⟩,?_⟩⟩,fun i j hi hj=>?_,fun i j hi hj=>?_,?_⟩
  ·show JW _ _ _ (T j).x;rw[hTr j h5];exact(hT' j h6).2.2
  ·show(T j).x=(X t j).x
   rw[hTl j h5]
  ·have:=mR S hA (a:=jN X p.length t i k) (by have:=W1 i k hi hk;omega)
   rw[uL]at this;exact this
  ·show(Z i j).x=_
   rw[hZd,if_pos e,uL]
  ·have:=(hQ i j hi hj).2.2
   rw[uL]at this;exact this
  ·have:=(hZ' i j hi hj).2.2
   rw[uL]at this;show JW _ _ _ (Z i j).x;rw[hZd,if_neg (fun e=>e.elim (by omega) h6)];exact this
  ·funext i j
   dsimp only
   by_cases e1:i=p.length
   ·rw[if_pos e1,if_pos e1]
   rw[if_neg e1,if_neg e1]
   by_cases e2:R.bQ (jN X p.length t i k).v=0
   ·rw[if_pos e2,if_pos e2,uL]
   rw[if_neg e2,if_neg e2]
  ·show Nu.v _=jT (uj (vM X) p.length t) p.length k i j;unfold jT;have e0:uj (vM X) p.length t p.length=vM X t:=by unfold uj;rw[if_pos rfl]
   rw[e0,←Jk,←Jk];have tj:=hTv j hj
   dsimp only
   by_cases e1:i=p.length
   ·rw[if_pos e1,if_pos e1,tj];rfl
   rw[if_neg e1,if_neg e1]
   by_cases e2:R.bQ (jN X p.length t i k).v=0
   ·rw[if_pos e2,R.kr.1 e2,R.mul_zero,R.sub_zero]
   rw[if_neg e2,hZv i j hi hj,tj];rfl
  ·rw[X6,List.length_singleton,Nat.add_sub_cancel_left,Nat.pow_one]
   dsimp only
   split
   ·have:=hTw j hj;omega
   split
   ·have:=W1 i j hi hj;omega
   rw[hZd]
   split
   ·have:=W1 i j hi hj;omega
   exact(hZ' i j hi hj).2.1
  rw[X6,List.length_singleton,Nat.add_sub_cancel_left,Nat.pow_one]
  have:=hwt k hk
  omega
 have hs:ov r k (vM X,p)=(vM X,p):=by
  unfold ov;exact if_neg ht
 rw[hs];refine⟨X,d,⟨fun i=>R.bQ (X i k).v,V9,h1,by omega,fun i a b=>R.kr.2 (h3 i a b),.inl ⟨by omega,rfl,rfl⟩⟩,fun i j _ _=>rfl,fun i j hi hj=>?_,?_⟩
 ·rw[Nat.sub_self,Nat.pow_zero,Nat.mul_one];exact hw i j hi hj
 rw[Nat.sub_self,Nat.pow_zero,Nat.mul_one];exact hd
theorem tX {r c:Nat}(M:Nat→Nat→Nu A)(hr:r<2^30)(hc:c<2^30)(WE:r*c<2^30)(h0:r=0→c=0)(hw:∀i j,i<r→j<c→(M i j).w≤1)(h5:r≤4∨c≤5):
  ∃(X:Nat→Nat→Nu A) (d:Nu A),iO r c (vM X) (red r (vM M) c).1∧(∀i j,i<r→j<c→(X i j).w≤4^(red r (vM M) c).2.length)∧
   Pr prog 47 [.one (dj r (fun _=>c) M)] (.aB [.agg [dj r (fun _=>c) X,.ints .i64 (kj (red r (vM M) c).2),tC d.x.1.length d.x.1,ag d.x.2],.one (.int .i64 0)]):=by
 have dm:∀i j,j<c→(i*c+j)/c=i∧(i*c+j)%c=j:=fun i j hj=>by
  have T6:0<c:=by omega
  rw[O6 i c,Nat.mul_add_div T6,Nat.mul_add_mod,Nat.div_eq_of_lt hj,O7 hj];exact⟨rfl,rfl⟩
 have dv:∀p,p<r*c→p/c<r∧p%c<c:=fun p hp=>by
  have T6:0<c:=by
   rcases Nat.eq_zero_or_pos c with h|h
   ·subst h;omega
   exact h
  exact⟨Nat.div_lt_of_lt_mul (by rw[O6];exact hp),Nat.mod_lt _ T6⟩
 obtain⟨o,ho,hJ⟩:=PM S hA (n:=r*c) WE (fun p=>M (p/c) (p%c)) fun p hp=>by
  obtain⟨e1,e2⟩:=dv p hp
  have:=hw _ _ e1 e2
  have b8:wB=3400:=rfl;omega
 have TV:∀i j,i<r→j<c→(o (i*c+j)).v=(M i j).v∧(o (i*c+j)).w=(M i j).w:=fun i j hi hj=>by
  have:=ho (i*c+j) (place hi hj)
  rw[(dm i j hj).1,(dm i j hj).2]at this;exact this
 obtain⟨X,e0,hI,hS⟩:=Go.Tw.chain (α:=(Nat→Nat→Nu A)×Nu A) (I:=fun k X=>k≤c→iO r c (vM X.1) (red r (vM M) k).1∧(∀i j,i<r→j<c→(X.1 i j).w≤4^(red r (vM M) k).2.length)∧X.2.w≤4^(red r (vM M) k).2.length)
  (St:=fun k X Y=>k<c→Rw r c k (red r (vM M) k).2.length (fun i j=>(X.1 i j).x) (fun i j=>(Y.1 i j).x) X.2.x Y.2.x (ow (red r (vM M) k).1 k (r-(red r (vM M) k).2.length) (red r (vM M) k).2.length)) (x0:=(fun i j=>o (i*c+j),Nu.int A 1))
  (fun _=>⟨fun i j hi hj=>(TV i j hi hj).1,fun i j hi hj=>by show(o _).w≤1;rw[(TV i j hi hj).2];exact hw i j hi hj,O1 _⟩) (n:=c) (fun k X hk hX=>by
   obtain⟨a1,a2,a3⟩:=hX (Nat.le_of_lt hk);have E:=Go.Mx.gR r (vM M) k;have hle:=Hv r (vM M) k;obtain⟨X',d',s1,s2,s3,s4⟩:=FT S hA (W:=4^(red r (vM M) k).2.length) X.1 X.2 (red r (vM M) k).2 hk E.len a2 a3 (fun h=>by
     have hq:(red r (vM M) k).2.length≤3∨((red r (vM M) k).2.length=4∧k+1=c):=by omega
     rcases hq with h|⟨h,h'⟩
     ·exact .inl (O0 (O3 (by decide) h) (by decide))
     exact .inr ⟨by rw[h];decide,h'⟩) (fun i j h1 h2 h3=>(a1 i j h2 (by omega)).trans (E.low i j h1 h2 h3))
   obtain⟨t1,t2⟩:=Go.Mx.Ed (s:=(vM X.1,(red r (vM M) k).2)) (t:=red r (vM M) k) a1 rfl hk E.len;have ef:=Go.Mx.yh a1 hk (r-(red r (vM M) k).2.length) (red r (vM M) k).2.length (by have:=E.len;omega);rw[ef]at s1;have hpw:4^(red r (vM M) k).2.length*4^((ov r k (vM X.1,(red r (vM M) k).2)).2.length-(red r (vM M) k).2.length)≤4^(red r (vM M) (k+1)).2.length:=by
    rw[t2,←Nat.pow_add];refine O3 (by decide) ?_;show _≤(ov r k (red r (vM M) k)).2.length
    have:(red r (vM M) k).2.length≤(ov r k (red r (vM M) k)).2.length:=by
     unfold ov
     split
     ·rw[X6];omega
     omega
    omega
   exact⟨(X',d'),fun _=>s1,fun _=>⟨fun i j hi hj=>(s2 i j hi hj).trans (t1 i j hi hj),fun i j hi hj=>O0 (s3 i j hi hj) hpw,O0 s4 hpw⟩⟩)
 obtain⟨b1,b2,_⟩:=hI c (O1 _) (O1 _);refine⟨(X c).1,(X c).2,b1,b2,?_⟩;exact QT (r:=r) (c:=c) (fun i j=>(M i j).x) (fun p=>(o p).x) (fun k i j=>((X k).1 i j).x) (fun k=>(X k).2.x) (fun k=>(red r (vM M) k).2) (fun k=>ow (red r (vM M) k).1 k (r-(red r (vM M) k).2.length) (red r (vM M) k).2.length) hr hc WE h0 hJ
  (fun i j hi hj=>by rw[e0]) (by rw[e0];rfl) rfl (fun k _=>(Go.Mx.gR r (vM M) k).len) (fun k hk=>hS k hk hk) (fun k _=>Pf r (vM M) k)
end
open Go Go.Eng
open Go.Tw (El)
theorem Ip (a:Nat)(h:a<4294967296):fm .and .u64 (a:Int) 4294967295=(a:Int):=by
 show IntKind.u64.wrap ((BitVec.ofInt 64 (a:Int)&&&BitVec.ofInt 64 4294967295).toNat:Int)=(a:Int);rw[BitVec.toNat_and];have e1:(BitVec.ofInt 64 (a:Int)).toNat=a:=by
  rw[BitVec.ofInt_natCast,BitVec.toNat_ofNat];exact O7 (by omega)
 have e2:(BitVec.ofInt 64 4294967295).toNat=2^32-1:=by decide
 rw[e1,e2,Nat.and_two_pow_sub_one_eq_mod,O7 h];exact Q5 _ (by omega)
theorem NL (y:Nat)(hy:y<2147483648):Pr prog 200 [.one (.int .u64 1),.one (.int .u64 y)] (.aB [.one (.int .u64 0),.one (.int .u64 y)]):=by
 have h1:fm .and .u64 1 4294967295=1:=Ip 1 (by decide);have h2:=Ip y (by omega);have h3:fm .and .u64 0 4294967295=0:=Ip 0 (by decide);have z0:IntKind.u64.wrap 0=0:=rfl;have z1:∀x:Int,IntKind.u64.wrap (0*x)=0:=fun x=>by rw[Int.zero_mul];rfl
 have d0:(y:Int).fdiv 4294967296=0:=by rw[Int.fdiv_eq_ediv_of_nonneg _ (by decide)];omega
 have w1:IntKind.u64.wrap (1*(y:Int))=y:=by rw[Q5 _ (by omega)];omega
 refine pw func200 ⟨[0,1,4,5,6,7,8,9,10,11,12,13],[]⟩ ?_;simp only[Tryz.f200,ntmps200,iz,seval];simp only[vx,T,seval,h1,h2,h3,d0,w1,z0,z1,Int.mul_zero,Int.add_zero];exact fR.refl _
theorem Rh (y:Nat)(hy:y<2147483648):Pr prog 156 [.one (.int .u64 1),.one (.int .u64 y)] (.aB [.one (.int .u64 0),.one (.int .u64 y)]):=by
 have h:=NL y hy;refine pw func156 ⟨[0,1,4,5,6,7,8,9],[]⟩ ?_;simp only[Tryz.f156,ntmps156,iz,seval];simp only[vx,T,seval];refine Cg h ?_;simp only[vx,T,seval];exact Ve rfl
open Go Go.Eng
open Go.Tw (El)
def Ej (x:Nb)(z:Nat→C)(k:Nat)(i j:Nat):C:=if i<k then bC x j else z j
theorem Ly (x:Nb)(n:Nat)(hn:n<2147483648):Fr prog 108 [.one (ao 1 fun _=>x),.one (.int .i64 n)] (.rows 56 2 n (fun _=>bC x)):=by
 have h:=Rh n hn;refine fw func108 ⟨[0,1,4,5,6,7,8,10,26,37],[(9,(.cons 7 [0] (.cons 8 [] (.cons 9 [] .nil .nil) .nil) .nil))]⟩ ?_;simp only[Tryz.f108,ntmps108,iz,seval];simp only[vx,T,seval,ao];have u1:IntKind.u64.wrap 1=1:=rfl;have un:IntKind.u64.wrap (n:Int)=n:=Q5 _ (by omega);have vn:IntKind.i64.wrap (n:Int)=n:=Q4 _ (by omega);refine⟨fun h=>absurd h (by omega),fun _=>Lg ?_⟩;simp only[vx,T,seval,ao,u1,un];refine Cg h ?_;simp only[vx,T,seval,ao,u1,un,vn];refine⟨fun h=>absurd h (by omega),fun _=>Lg ?_⟩;simp only[vx,T,seval,ao,vn];refine⟨by omega,?_⟩
 refine Lk (fun y:{k:Nat//k≤n∧(0<n→0<k)}=>⟨[(0,.one (ao 1 fun _=>x)),(1,.one (.int .i64 n)),(4,.one .nil),(7,.one (.own 1 2 0 n)),(8,.one (.int .i64 y.1))],[(1,⟨.rows 56 2 n (Ej x (fun j=>[C.nil,C.nil].getD j .any) y.1),true⟩)],3,48⟩) (fun y=>n-y.1) ⟨if 1<n then 1 else n,by split<;>omega,fun h=>by split<;>omega⟩ ?_ (fun⟨k,hk,h0⟩=>?_)
 ·refine Sa ?_;simp only[ry,seval,rz,ao];intro i j hi hj;simp only[z7,Ej]
  rcases(by omega:n=0∨n=1∨1<n)with h|h|h
  ·omega
  ·subst h;simp[show i=0 by omega]
  simp[h]
 simp only;simp only[vx,T,seval,ao];refine⟨fun g=>Lg ?_,fun g=>Lg ?_⟩
 ·have g':k<n:=by omega
  simp only[vx,T,seval,ao];refine⟨by omega,by omega,?_⟩
  generalize hm:(if k<((n:Int)-k).toNat then k else((n:Int)-k).toNat)=m
  have m0:0<m∧k+m≤n∧m≤k:=by split at hm<;>omega
  have wm:IntKind.i64.wrap ((k:Int)+m)=((k+m:Nat):Int):=by rw[Q4 _ (by omega)];omega
  refine Lq ⟨k+m,by omega,by omega⟩ ?_ (by show n-(k+m)<n-k;omega);refine Sa ?_;simp only[ry,seval,rz,ao,wm];intro i j hi hj;simp only[z7,Ej]
  repeat' split
  all_goals first|rfl|omega
 have g':k=n:=by omega
 simp only[vx,T,seval,ao];refine⟨rfl,rfl,fun i j hi hj=>?_⟩;simp only[Ej,g',if_pos hi]
open Go Go.Eng
open Go.Tw (El)
open Go.Mx (mz free)
theorem Fr.QO {P:Program}{f:FuncId}{xs ys:List V}{B:Bk}(h:Fr P f ys B)(ha:yZ xs ys):Fr P f xs B:=
 ⟨h.1,h.2.1,fun ok w vs Tc Ti=>h.2.2 ok w vs Tc (ha.rep Ti)⟩
theorem HE (n:Nat)(hn:n<2147483648):Fr prog 59 [.one (.int .i64 n)] (.rows 56 2 n (fun _=>bC (u9 0))):=by
 have c0:=qz 0 (by decide);have h:=Fr.QO (Ly (u9 0) n hn) (xs:=[.one (.rows 2 1 (Cx (u9 0))),.one (.int .i64 n)]) ⟨.cell (DZ (u9 0) (O1 1)),.refl _,trivial⟩;refine fw func59 ⟨[0,2],[]⟩ ?_;simp only[Tryz.f59,ntmps59,iz,seval];simp only[vx,T,seval];refine Cg c0 ?_;simp only[vx,T,seval,nX,nV,tC,ag];refine cN.fresh h ?_;simp only[vx,T,seval];exact⟨rfl,rfl,fun _ _ _ _=>rfl⟩
theorem M6 (n k:Nat)(hn:n<2147483648)(hk:k<n):Fr prog 49 [.one (.int .i64 n),.one (.int .i64 k)] (.rows 56 2 n (fun j=>bC (zc k j))):=by
 have c1:=qz 1 (by decide);have h:=HE n hn;refine fw func49 ⟨[0,1,4,5],[]⟩ ?_;simp only[Tryz.f49,ntmps49,iz,seval];simp only[vx,T,seval];refine cN.fresh h ?_;simp only[vx,T,seval];refine Cg c1 ?_;simp only[vx,T,seval,nX,nV,tC,ag];refine⟨by omega,?_⟩;refine⟨rfl,rfl,fun i j hi hj=>?_⟩;show bz _ _ _ _ i j=bC (zc k i) j;unfold bz zc
 by_cases e:i=k
 ·rw[if_pos e,if_pos (O2 _),if_pos (by simpa using hj),if_pos (by omega)]
  match j,hj with
  |0,_=>rfl
  |1,_=>rfl
 rw[if_neg e,if_neg (by omega)]
theorem Kq {r c:Nat}(x N G:Nat→Nat→Nb)(p:List Nat)(D1 D2:C)(hr:r<2^30)(hc:c<2^30)(h0:r=0→c=0)(hp:p.length≤r)(SI:∀i,i<p.length→p.getD i 0<c)
  (hE:Pr prog 47 [.one (aq r (fun _=>c) x)] (.aB [.agg [aq r (fun _=>c) N,.ints .i64 (kj p),D1,D2],.one (.int .i64 0)]))
  (hG:∀k i,k<c→i<p.length→Pr prog 50 [nX (N i k)] (nX (G i k))) (s1:∃n f,D1= .rows 1 n f) (s2:∃n f,D2= .rows 4 n f):
  Pr prog 21 [.one (aq r (fun _=>c) x)] (.aB [.one (aq (fl p c).length (fun _=>c) fun i=>MF p G (fun k=>zc k) p.length ((fl p c).getD i 0)),.one (.int .i64 0)]):=by
 obtain⟨n1,f1,rfl⟩:=s1;obtain⟨n2,f2,rfl⟩:=s2;have cl:=fM (fun _=>c) x (k:=c) (by split;exact h0 (by assumption);rfl) (by omega:r<2^38);have cv:=iJ (r:=r) (fun _=>c) x (by omega) (b:=true) (by simp);refine pw func21 ⟨[0,2,3,4,5,6,7,8,9,10,13,20,23,24,25,30,36,37,38,39],[]⟩ ?_;simp only[Tryz.f21,ntmps21,iz,seval];simp only[vx,T,seval,aq,ao];refine Cg cv ?_;simp only[vx,T,seval,aq,ao];refine Cg hE ?_;simp only[vx,T,seval,aq,ao];refine Cg cl ?_;simp only[vx,T,seval,aq,ao];refine Lk (fun y:{k:Nat//k≤c}=>⟨[(0,.one (aq r (fun _=>c) x)),(2,.one .nil),(3,.one (.int .i64 0)),(4,.one (.ptr 1 0)),(6,.one (.own 2 1 0 (fl p y.1).length)),(23,.one (.int .i64 c)),(24,.one (.int .i64 y.1))],
  [(1,⟨.var [aq r (fun _=>c) N,.ints .i64 (kj p),.rows 1 n1 f1,.rows 4 n2 f2],true⟩),(2,⟨.rows 38 1 (fl p y.1).length (fun i _=>ao c (MF p G (fun k=>zc k) p.length ((fl p y.1).getD i 0))),true⟩)],3,62⟩) (fun y=>c-y.1) ⟨0,O2 _⟩ ?_ (fun⟨k,hk⟩=>?_)
 ·refine Sa ?_;simp only[ry,seval,rz,aq,ao,fl,List.length_nil,O5]
 simp only;have wi:=wI k (by omega);simp only[vx,T,seval,aq,ao];refine⟨fun g=>Lg ?_,fun g=>Lg ?_⟩
 ·have WC:k<c:=by omega
  by_cases hm:k∈p
  ·have e:fl p (k+1)=fl p k:=if_pos hm;have cp:=xd (kj p) k (by rw[dx];omega) (b:=true) (by rw[DC];simp[hm]);simp only[vx,T,seval,aq,ao];refine Cg cp ?_;simp only[vx,T,seval,aq,ao,wi];refine Lq ⟨k+1,by omega⟩ ?_ (by show c-(k+1)<c-k;omega);refine Sa ?_;simp only[ry,seval,rz,aq,ao,e]
  have e:fl p (k+1)=fl p k++[k]:=if_neg hm;have cp:=xd (kj p) k (by rw[dx];omega) (b:=false) (by rw[DC];simp[hm]);have cu:=M6 c k (by omega) WC;simp only[vx,T,seval,aq,ao];refine Cg cp ?_;simp only[vx,T,seval,aq,ao];refine Cg cl ?_;simp only[vx,T,seval,aq,ao];refine cN.fresh cu ?_;simp only[vx,T,seval,aq,ao,dx];refine Lk (fun y:{n:Nat//n≤p.length}=>⟨[(0,.one (aq r (fun _=>c) x)),(2,.one .nil),(3,.one (.int .i64 0)),(4,.one (.ptr 1 0)),(6,.one (.own 2 1 0 (fl p k).length)),(7,.one (.int .i64 k)),(8,.one (.own 3 2 0 c)),(23,.one (.int .i64 c)),(24,.one (.int .i64 k)),(36,.one (.ints .i64 (kj p))),(37,.one (.int .i64 p.length)),(38,.one (.int .i64 y.1))],
   [(1,⟨.var [aq r (fun _=>c) N,.ints .i64 (kj p),.rows 1 n1 f1,.rows 4 n2 f2],true⟩),(2,⟨.rows 38 1 (fl p k).length (fun i _=>ao c (MF p G (fun k=>zc k) p.length ((fl p k).getD i 0))),true⟩),(3,⟨.rows 56 2 c (fun j=>bC (MF p G (fun k=>zc k) y.1 k j)),true⟩)],4,62⟩) (fun y=>p.length-y.1) ⟨0,O2 _⟩ ?_ (fun⟨n,hn⟩=>?_)
  ·refine Sa ?_;simp only[ry,seval,rz,aq,ao,MF,mz]
  simp only;have wn:=wI n (by omega);simp only[vx,T,seval,aq,ao,dx];refine⟨fun g3=>Lg ?_,fun g3=>Lg ?_⟩
  ·have Zd:n<p.length:=by omega
   have hG':=hG k n WC Zd;have YL:=SI n Zd;simp only[vx,T,seval,aq,ao,bC,tC,ag,qD,dx];refine⟨by omega,by omega,by omega,Cg hG' ?_⟩;simp only[vx,T,seval,nX,nV,bC,tC,ag,qD,dx,wn];refine⟨by omega,Lq ⟨n+1,by omega⟩ ?_ (by show p.length-(n+1)<p.length-n;omega)⟩;refine Sa ?_;simp only[ry,seval,rz,aq,ao,tC,ag];intro i j hi hj;exact G4 p (fun i=>G i k) (zc k) n i j hj
  obtain rfl:n=p.length:=by omega
  simp only[vx,T,seval,aq,ao,wi];have hl:=MK p k;have el:(fl p (k+1)).length=(fl p k).length+1:=by rw[e];simp
  refine⟨⟨by omega,by omega⟩,Lq ⟨k+1,by omega⟩ ?_ (by show c-(k+1)<c-k;omega)⟩;refine Sa ?_;simp only[ry,seval,rz,aq,ao,el];intro i j hi hj;rw[e]
  by_cases h:i<(fl p k).length
  ·rw[if_pos h,X7,X7,List.getElem?_append_left h]
  obtain rfl:i=(fl p k).length:=by omega
  obtain rfl:j=0:=by omega
  rw[if_neg h,X7 (l:=fl p k++[k]),List.getElem?_append_right (O1 _),Nat.sub_self];rfl
 obtain rfl:k=c:=by omega
 simp only[vx,T,seval,aq,ao];exact fR.refl _
open Go Go.Eng
open Go.Tw (El)
open Go.Mx (mz free)
theorem JK {r c d:Nat}(x:Nat→Nat→Nb)(b:Nat→Nb)(hr:r<2^30)(hc:c<2^30)(hd:d≤1)(Wv:r≠0→d=1):Pr prog 58 [.one (aq r (fun _=>c) x),.one (.rows 1 r fun i _=>.rows 2 d (Cx (b i)))] (.one (aq r (fun _=>c+d) (F2 c x b))):=by
 refine pw func58 ⟨[0,1,4,5,6,11,12,13],[]⟩ ?_;simp only[Tryz.f58,ntmps58,iz,seval];simp only[vx,T,seval,aq,ao];refine⟨by omega,?_⟩;refine Lk (fun y:{k:Nat//k≤r}=>⟨[(0,.one (aq r (fun _=>c) x)),(1,.one (.rows 1 r fun i _=>.rows 2 d (Cx (b i)))),(4,.one .nil),(5,.one (.own 1 1 0 r)),(11,.one (.int .i64 r)),(12,.one (.int .i64 y.1))],
  [(1,⟨.rows 38 1 r (fun i _=>if i<y.1 then ao (c+d) (F2 c x b i)else .nil),true⟩)],2,30⟩) (fun y=>r-y.1) ⟨0,O2 _⟩ ?_ (fun⟨k,hk⟩=>?_)
 ·refine Sa ?_;simp only[ry,seval,rz,aq,ao,O5];intro i j hi hj;obtain rfl:j=0:=by omega
  rfl
 simp only;have wi:=wI k (by omega);simp only[vx,T,seval,aq,ao];refine⟨fun g=>Lg ?_,fun g=>Lg ?_⟩
 ·have ZB:k<r:=by omega
  obtain rfl:=Wv (by omega);have cc:=zA (n:=c) (m:=1) (x k) (fun _=>b k) (by omega);have cc':=cc.args (xs:=[.one (.rows 1 2 (fun i j=>[ao c (x k),.rows 2 1 (Cx (b k))].getD (i*1+j) .any))]) ⟨.cell (dH.rows rfl fun i j hi hj=>by
   obtain rfl:j=0:=by omega
   match i,hi with
   |0,_=>exact .refl _
   |1,_=>exact DZ (b k) (O1 1)),trivial⟩
  simp only[vx,T,seval,aq,ao];refine⟨by omega,by omega,Cg cc' ?_⟩;simp only[vx,T,seval,aq,ao,wi];refine⟨by omega,Lq ⟨k+1,by omega⟩ ?_ (by show r-(k+1)<r-k;omega)⟩;refine Sa ?_;simp only[ry,seval,rz,aq,ao];intro i j hi hj;obtain rfl:j=0:=by omega
  by_cases e:i=k
  ·subst e;rw[if_pos (Nat.lt_succ_self i)]
   simp[bz]
   rfl
  by_cases h:i<k
  ·rw[if_pos (show i<k+1 by omega)]
   simp[bz,e,h]
  rw[if_neg (show¬i<k+1 by omega)]
  simp[bz,e,h]
 obtain rfl:k=r:=by omega
 simp only[vx,T,seval,aq,ao];refine fR.cell (dH.rows rfl fun i j hi hj=>.of_eq ?_);rw[if_pos hi]
theorem Jq {r c d:Nat}(x N:Nat→Nat→Nb)(b:Nat→Nb)(p:List Nat)(D1 D2:C)(hr:r<2^30)(hc:c<2^30)(h0:r=0→c=0)(hd:d=if r=0 then 0 else 1)(hp:p.length≤r)(SI:∀i,i<p.length→p.getD i 0<c+d)
  (hE:Pr prog 47 [.one (aq r (fun _=>c+d) (F2 c x b))] (.aB [.agg [aq r (fun _=>c+d) N,.ints .i64 (kj p),D1,D2],.one (.int .i64 0)]))
  (s1:∃n f,D1= .rows 1 n f) (s2:∃n f,D2= .rows 4 n f) (R:V) (h1:c∈p→R= .aB [.one .nil,.one (.int .i64 13)])
  (h2:c∉p→R= .aB [.one (ao c (mz p (fun i=>N i c) (fun _=>u9 0) p.length)),.one (.int .i64 0)]):
  Pr prog 29 [.one (aq r (fun _=>c) x),.one (ao r b)] R:=by
 obtain⟨n1,f1,rfl⟩:=s1;obtain⟨n2,f2,rfl⟩:=s2;have Wv:r≠0→d=1:=fun h=>by rw[hd,if_neg h]
 have TB:d≤1:=by rw[hd];split<;>omega
 have cl:=fM (fun _=>c) x (k:=c) (by split;exact h0 (by assumption);rfl) (by omega:r<2^38);have cv:=iJ (r:=r) (fun _=>c) x (by omega) (b:=true) (by simp);have cb:=(JK (r:=r) (c:=c) (d:=d) x b hr hc TB Wv).uq (.refl _) (x':=.rows 1 r fun i _=>if i<r then .rows 2 1 (Cx (b i))else .nil) (dH.rows rfl fun i j hi hj=>by
  rw[if_pos hi,Wv (by omega)];exact .refl _)
 have cz:=HE c (by omega);refine pw func29 ⟨[0,1,4,5,6,7,8,9,10,11,12,13,14,24,28,29,30,31,51,56,57,58,59,65],[]⟩ ?_;simp only[Tryz.f29,ntmps29,iz,seval];simp only[vx,T,seval,aq,ao];refine Cg cv ?_;simp only[vx,T,seval,aq,ao];refine⟨by omega,?_⟩;refine Lk (fun y:{k:Nat//k≤r}=>⟨[(0,.one (aq r (fun _=>c) x)),(4,.one .nil),(5,.one (.int .i64 0)),(6,.one (.own 1 1 0 r)),(28,.one (ao r b)),(29,.one (.int .i64 r)),(30,.one (.int .i64 y.1))],
  [(1,⟨.rows 38 1 r (fun i _=>if i<y.1 then .rows 2 1 (Cx (b i))else .nil),true⟩)],2,79⟩) (fun y=>r-y.1) ⟨0,O2 _⟩ ?_ (fun⟨k,hk⟩=>?_)
 ·refine Sa ?_;simp only[ry,seval,rz,aq,ao,O5];intro i j hi hj;obtain rfl:j=0:=by omega
  rfl
 simp only;have wi:=wI k (by omega);simp only[vx,T,seval,aq,ao];refine⟨fun g=>Lg ?_,fun g=>Lg ?_⟩
 ·have ZB:k<r:=by omega
  simp only[vx,T,seval,aq,ao,bC,tC,ag,wi,vv,dG,eD,List.contains,List.elem];refine⟨by omega,by omega,Lq ⟨k+1,by omega⟩ ?_ (by show r-(k+1)<r-k;omega)⟩;refine Sa ?_;simp only[ry,seval,rz,aq,ao,tC,ag];intro i j hi hj;obtain rfl:j=0:=by omega
  by_cases e:i=k
  ·subst e;rw[if_pos (show i<i+1 by omega)]
   simp[bz]
   rfl
  by_cases h:i<k
  ·rw[if_pos (show i<k+1 by omega)]
   simp[bz,e,h]
  rw[if_neg (show¬i<k+1 by omega)]
  simp[bz,e,h]
 obtain rfl:k=r:=by omega
 simp only[vx,T,seval,aq,ao];refine Cg cl ?_;simp only[vx,T,seval,aq,ao];refine Cg cb ?_;simp only[vx,T,seval,aq,ao];refine Cg hE ?_;simp only[vx,T,seval,aq,ao];refine cN.fresh cz ?_;simp only[vx,T,seval,aq,ao,dx];refine Lk (fun y:{n:Nat//n≤p.length∧∀j,j<n→p.getD j 0≠c}=>⟨[(4,.one .nil),(5,.one (.int .i64 0)),(9,.one (.int .i64 c)),(10,.one (.ptr 1 0)),(12,.one (.own 2 2 0 c)),(56,.one (.ints .i64 (kj p))),(57,.one (.int .i64 p.length)),(58,.one (.int .i64 y.1))],
  [(1,⟨.var [aq k (fun _=>c+d) N,.ints .i64 (kj p),.rows 1 n1 f1,.rows 4 n2 f2],true⟩),(2,⟨.rows 56 2 c (fun j=>bC (mz p (fun i=>N i c) (fun _=>u9 0) y.1 j)),true⟩)],3,79⟩) (fun y=>p.length-y.1) ⟨0,O2 _,fun j hj=>absurd hj (O5 _)⟩ ?_ (fun⟨n,hn,SW⟩=>?_)
 ·refine Sa ?_;simp only[ry,seval,rz,aq,ao,mz]
 simp only;have wn:=wI n (by omega);simp only[vx,T,seval,aq,ao,dx];refine⟨fun g3=>Lg ?_,fun g3=>Lg ?_⟩
 ·have Zd:n<p.length:=by omega
  have YL:=SI n Zd;obtain rfl:d=1:=Wv (by omega);simp only[vx,T,seval,aq,ao,qD,dx];refine⟨by omega,?_⟩;refine⟨fun g4=>Lg ?_,fun g4=>Lg ?_⟩
  ·have e:=h1 (Go.Mx.ya.2 ⟨n,Zd,by omega⟩);simp only[vx,T,seval];exact Ve e.symm
  simp only[vx,T,seval,aq,ao,bC,tC,ag,qD,dx,wn];refine⟨by omega,by omega,by omega,Lq ⟨n+1,by omega,fun j hj=>?_⟩ ?_ (by show p.length-(n+1)<p.length-n;omega)⟩
  ·by_cases e:j=n
   ·rw[e];omega
   exact SW j (by omega)
  refine Sa ?_;simp only[ry,seval,rz,aq,ao,tC,ag];intro i j hi hj;exact G4 p (fun i=>N i c) (fun _=>u9 0) n i j hj
 obtain rfl:n=p.length:=by omega
 have e:=h2 (fun h=>by
  obtain⟨i,h3,h4⟩:=Go.Mx.ya.1 h;exact SW i h3 h4.symm)
 simp only[vx,T,seval,aq,ao];rw[e];exact fR.refl _
open Go Go.Eng
open Go.Tw (El)
theorem Kt {r c:Nat}(x N:Nat→Nat→Nb)(p:List Nat)(D1 D2:C)(hr:r<2^30)
  (hE:Pr prog 47 [.one (aq r (fun _=>c) x)] (.aB [.agg [aq r (fun _=>c) N,.ints .i64 (kj p),D1,D2],.one (.int .i64 0)])) (s1:∃n f,D1= .rows 1 n f) (s2:∃n f,D2= .rows 4 n f):
  Pr prog 20 [.one (aq r (fun _=>c) x)] (.aB [.one (aq r (fun _=>c) N),.one (.ints .i64 (kj p)),.one (.int .i64 0)]):=by
 obtain⟨n1,f1,rfl⟩:=s1;obtain⟨n2,f2,rfl⟩:=s2;have cv:=iJ (r:=r) (fun _=>c) x (by omega) (b:=true) (by simp);refine pw func20 ⟨[0,2,3,4,5,6,9],[(4,.nil)]⟩ ?_;simp only[Tryz.f20,ntmps20,iz,seval];simp only[vx,T,seval,aq,ao];refine Cg cv ?_;simp only[vx,T,seval,aq,ao];refine Cg hE ?_;simp only[vx,T,seval,aq,ao];exact fR.refl _
theorem OQ (a b:List Int)(ha:a.length<2^38){q:Bool}(hq:q=true↔a=b):Pr prog 30 [.one (.ints .i64 a),.one (.ints .i64 b)] (.one (.bool q)):=by
 refine pw func30 ⟨[0,1,4,5,10,12,13,14,24],[]⟩ ?_;simp only[Tryz.f30,ntmps30,iz,seval];simp only[vx,T,seval];refine⟨fun g=>Lg ?_,fun g=>Lg ?_⟩
 ·have e:q=false:=by
   cases q with
   |false=>rfl
   |true=>exact absurd (congrArg List.length (hq.1 rfl)) (by omega)
  subst e;simp only[vx,T,seval];exact Ve rfl
 have hl:a.length=b.length:=by omega
 simp only[vx,T,seval];refine Lk (fun y:{i:Nat//i≤a.length∧∀j,j<i→a.getD j 0=b.getD j 0}=>⟨[(0,.one (.ints .i64 a)),(1,.one (.ints .i64 b)),(4,.one (.bool false)),(12,.one (.int .i64 a.length)),(13,.one (.int .i64 y.1))],[],1,26⟩) (fun y=>a.length-y.1) ⟨0,O2 _,fun j hj=>absurd hj (O5 _)⟩ ?_ (fun⟨i,hi,hb⟩=>?_)
 ·refine Sa ?_;simp only[ry,seval,rz]
 simp only;have wi:=wI i (by omega);simp only[vx,T,seval];refine⟨fun g1=>Lg ?_,fun g1=>Lg ?_⟩
 ·simp only[vx,T,seval];refine⟨by omega,by omega,?_⟩;refine⟨fun g2=>Lg ?_,fun g2=>Lg ?_⟩
  ·have e:q=false:=by
    cases q with
    |false=>rfl
    |true=>exact absurd (by rw[hq.1 rfl]) g2
   subst e;simp only[vx,T,seval];exact Ve rfl
  simp only[vx,T,seval,wi];refine Lq ⟨i+1,by omega,fun j hj=>?_⟩ ?_ (by show a.length-(i+1)<a.length-i;omega)
  ·by_cases e:j=i
   ·rw[e];exact g2
   exact hb j (by omega)
  refine Sa ?_;simp only[ry,seval,rz]
 have e:q=true:=hq.2 (List.ext_getElem hl fun j h1 h2=>by
  have:=hb j (by omega)
  rw[X7,X7,X8 h1,X8 h2]at this;exact this)
 subst e;simp only[vx,T,seval];exact Ve rfl
open Go Go.Eng
open Go.Tw (El)
theorem oW {r c:Nat}(x:Nat→Nat→Nb)(hr:r<2^30)(hc:c<2^30)(h0:r=0→c=0):Pr prog 6 [.one (aq r (fun _=>c) x)] (.one (aq c (fun _=>r) fun i j=>x j i)):=by
 have cl:=fM (fun _=>c) x (k:=c) (by split;exact h0 (by assumption);rfl) (by omega:r<2^38);have cv:=iJ (r:=r) (fun _=>c) x (by omega) (b:=true) (by simp);refine pw func6 ⟨[0,2,3,4,6,9,14,15,16,18,19,20,21],[(10,(.cons 11 [0,1,12] (.cons 13 [] .nil .nil) .nil))]⟩ ?_;simp only[Tryz.f6,ntmps6,iz,seval];simp only[vx,T,seval,aq,ao];refine Cg cv ?_;simp only[vx,T,seval,aq,ao];refine Cg cl ?_;simp only[vx,T,seval,aq,ao];refine⟨by omega,?_⟩;refine Lk (fun y:{k:Nat//k≤c}=>⟨[(0,.one (aq r (fun _=>c) x)),(2,.one .nil),(3,.one (.win 1 2 0 c)),(14,.one (.int .i64 c)),(15,.one (.int .i64 y.1))],
  [(1,⟨.wins 38 2 c (fun i=>if i<y.1 then ao r (fun a=>x a i)else .nil),true⟩)],3,40⟩) (fun y=>c-y.1) ⟨0,O2 _⟩ ?_ (fun⟨k,hk⟩=>?_)
 ·refine Sa ?_;simp only[ry,seval,rz,aq,ao,O5]
 simp only;have wi:=wI k (by omega);simp only[vx,T,seval,aq,ao];refine⟨fun g=>Lg ?_,fun g=>Lg ?_⟩
 ·have WC:k<c:=by omega
  simp only[vx,T,seval,aq,ao];refine Lk (fun y:{n:Nat//n≤r}=>⟨[(0,.one (aq r (fun _=>c) x)),(2,.one .nil),(3,.one (.win 1 2 0 c)),(4,.one (.int .i64 k)),(14,.one (.int .i64 c)),(15,.one (.int .i64 k)),(18,.one (aq r (fun _=>c) x)),(19,.one (.int .i64 r)),(20,.one (.int .i64 y.1))],
   [(1,⟨.wins 38 2 c (fun i=>if i<k then ao r (fun a=>x a i)else if i=k then .own 2 2 0 y.1 else .nil),true⟩),(2,⟨.rows 56 2 y.1 (fun a=>bC (x a k)),true⟩)],3,40⟩) (fun y=>r-y.1) ⟨0,O2 _⟩ ?_ (fun⟨n,hn⟩=>?_)
  ·refine Sub.mk [(2,none)] ?_;simp only[ry,seval,X2,X3,X4,aq,ao];intro i hi
   by_cases h:i<k
   ·simp only[if_pos h];exact⟨trivial,trivial,fun _ _ _ _=>trivial⟩
   by_cases h2:i=k
   ·simp only[if_neg h,if_pos h2];decide
   simp only[if_neg h,if_neg h2]
  simp only;have wn:=wI n (by omega);simp only[vx,T,seval,aq,ao];refine⟨fun g1=>Lg ?_,fun g1=>Lg ?_⟩
  ·have U5:n<r:=by omega
   simp only[vx,T,seval,aq,ao,bC,tC,ag,wn,Nat.lt_irrefl];refine⟨by omega,by omega,by omega,by omega,⟨by omega,by omega⟩,by omega,Lq ⟨n+1,by omega⟩ ?_ (by show r-(n+1)<r-n;omega)⟩;refine Sub.mk [(2,some 21)] ?_;simp only[ry,seval,X2,X3,X4,aq,ao,tC,ag];refine⟨fun i hi=>?_,wV (fun a=>x a k) n⟩
   by_cases h2:i=k
   ·subst h2;simp only[if_neg (Nat.lt_irrefl i),if_true];decide
   by_cases h:i<k
   ·simp only[if_pos h,if_neg h2];exact⟨trivial,trivial,fun _ _ _ _=>trivial⟩
   simp only[if_neg h,if_neg h2]
  obtain rfl:r=n:=by omega
  simp only[vx,T,seval,aq,ao,wi];refine Lq ⟨k+1,by omega⟩ ?_ (by show c-(k+1)<c-k;omega);refine Sub.trans (Sub.sI 1 2 rfl rfl (by decide)) ?_;simp only[dG,eD];refine Sa ?_;simp only[ry,seval,rz,aq,ao];intro i hi
  by_cases h2:i=k
  ·subst h2;simp only[if_neg (Nat.lt_irrefl i),if_true,if_pos (show i<i+1 by omega),Nat.zero_add];exact⟨trivial,trivial,fun _ _ _ _=>trivial⟩
  by_cases h:i<k
  ·simp only[if_pos h,if_pos (show i<k+1 by omega)];exact⟨trivial,trivial,fun _ _ _ _=>trivial⟩
  simp only[if_neg h,if_neg h2,if_neg (show¬i<k+1 by omega)]
 obtain rfl:c=k:=by omega
 simp only[vx,T,seval,aq,ao];refine fR.cell (dH.rows rfl fun i j hi hj=>.of_eq ?_);simp only[if_pos hi]
theorem Qm {r c:Nat}(x N:Nat→Nat→Nb)(p:List Nat)(D1 D2:C)(hr:r<2^30)(hc:c<2^30)(h0:r=0→c=0)
  (hE:Pr prog 47 [.one (aq c (fun _=>r) fun i j=>x j i)] (.aB [.agg [aq c (fun _=>r) N,.ints .i64 (kj p),D1,D2],.one (.int .i64 0)])) (s1:∃n f,D1= .rows 1 n f) (s2:∃n f,D2= .rows 4 n f):
  Pr prog 22 [.one (aq r (fun _=>c) x)] (.aB [.one (.ints .i64 (kj p)),.one (.int .i64 0)]):=by
 obtain⟨n1,f1,rfl⟩:=s1;obtain⟨n2,f2,rfl⟩:=s2;have cv:=iJ (r:=r) (fun _=>c) x (by omega) (b:=true) (by simp);have ct:=oW x hr hc h0;refine pw func22 ⟨[0,2,3,4,5,8],[]⟩ ?_;simp only[Tryz.f22,ntmps22,iz,seval];simp only[vx,T,seval,aq,ao];refine Cg cv ?_;simp only[vx,T,seval,aq,ao];refine Cg ct ?_;simp only[vx,T,seval,aq,ao];refine Cg hE ?_;simp only[vx,T,seval,aq,ao];exact fR.refl _
open Go Go.Eng
open Go.Tw (El)
theorem Rr {r n c:Nat}(x y o:Nat→Nat→Nb)(hr:r<2^30)(hn:n<2^30)(hc:c<2^30)(h0:r=0→n=0)(Zx:n=0→c=0)
  (hd:∀i j,i<r→j<c→∀(C0:C) (wd io oo:Nat),Pr prog 43 [.one (.elt C0 wd io oo),.one (ao n (x i)),.one (ao n (fun k=>y k j))] (nX (o i j))):
  Pr prog 13 [.one (aq r (fun _=>n) x),.one (aq n (fun _=>c) y)] (.aB [.one (aq r (fun _=>c) o),.one (.int .i64 0)]):=by
 have cv1:=iJ (r:=r) (fun _=>n) x (by omega) (b:=true) (by simp);have cv2:=iJ (r:=n) (fun _=>c) y (by omega) (b:=true) (by simp)
 have cl:=fM (fun _=>n) x (k:=n) (by split<;>omega) (by omega:r<2^38)
 have ct:=oW (r:=n) (c:=c) y hn hc Zx;refine pw func13 ⟨[0,1,4,5,6,7,8,9,10,12,27,35,36,37,38,42,43,44,45,67],[(12,(.cons 11 [0,1,12] (.cons 13 [] .nil .nil) .nil)),(16,.nil)]⟩ ?_;simp only[Tryz.f13,ntmps13,iz,seval];simp only[vx,T,seval,aq,ao];refine Cg cv1 ?_;simp only[vx,T,seval,aq,ao];refine Cg cv2 ?_;simp only[vx,T,seval,aq,ao];refine Cg cl ?_;simp only[vx,T,seval,aq,ao];refine Cg ct ?_;simp only[vx,T,seval,aq,ao];refine⟨by omega,?_⟩;refine Lk (fun z:{i:Nat//i≤r}=>⟨[(4,.one .nil),(5,.one (.int .i64 0)),(6,.one (aq c (fun _=>n) fun i j=>y j i)),(7,.one (.ptr 1 0)),(8,.one (.win 2 3 0 r)),(35,.one (aq r (fun _=>n) x)),(36,.one (.int .i64 r)),(37,.one (.int .i64 z.1))],
  [(1,⟨.var [.int .i64 0],false⟩),(2,⟨.wins 38 3 r (fun t=>if t<z.1 then ao c (o t)else .nil),true⟩)],4,73⟩) (fun z=>r-z.1) ⟨0,O2 _⟩ ?_ (fun⟨i,hi⟩=>?_)
 ·refine Sa ?_;simp only[ry,seval,rz,aq,ao,O5]
 simp only;have wi:=wI i (by omega);simp only[vx,T,seval,aq,ao];refine⟨fun g=>Lg ?_,fun g=>Lg ?_⟩
 ·have WB:i<r:=by omega
  simp only[vx,T,seval,aq,ao];refine⟨by omega,?_⟩;refine Lk (fun z:{j:Nat//j≤c}=>⟨[(4,.one .nil),(5,.one (.int .i64 0)),(6,.one (aq c (fun _=>n) fun i j=>y j i)),(7,.one (.ptr 1 0)),(8,.one (.win 2 3 0 r)),(9,.one (.int .i64 i)),(10,.one (ao n (x i))),(35,.one (aq r (fun _=>n) x)),(36,.one (.int .i64 r)),(37,.one (.int .i64 i)),(42,.one (aq c (fun _=>n) fun i j=>y j i)),(43,.one (.int .i64 c)),(44,.one (.int .i64 z.1))],
   [(1,⟨.var [.int .i64 0],false⟩),(2,⟨.wins 38 3 r (fun t=>if t<i then ao c (o t)else if t=i then .own 3 2 0 z.1 else .nil),true⟩),(3,⟨.rows 56 2 z.1 (fun j=>bC (o i j)),true⟩)],4,73⟩) (fun z=>c-z.1) ⟨0,O2 _⟩ ?_ (fun⟨j,hj⟩=>?_)
  ·refine Sub.mk [(1,some 1),(2,some 2),(3,none)] ?_;simp only[ry,seval,X2,X3,X4,aq,ao];intro t ht
   by_cases h:t<i
   ·simp only[if_pos h];exact⟨trivial,trivial,fun _ _ _ _=>trivial⟩
   by_cases h2:t=i
   ·simp only[if_neg h,if_pos h2];decide
   simp only[if_neg h,if_neg h2]
  simp only;have wj:=wI j (by omega);simp only[vx,T,seval,aq,ao];refine⟨fun g1=>Lg ?_,fun g1=>Lg ?_⟩
  ·have hjc:j<c:=by omega
   have cd:=hd i j WB hjc;simp only[vx,T,seval,aq,ao,bC,tC,ag,wj,Nat.lt_irrefl];refine⟨by omega,by omega,Cg (cd _ _ _ _) ?_⟩;simp only[vx,T,seval,aq,ao,nX,nV,bC,tC,ag,wj,Nat.lt_irrefl];refine⟨by omega,⟨by omega,by omega⟩,by omega,Lq ⟨j+1,by omega⟩ ?_ (by show c-(j+1)<c-j;omega)⟩;refine Sub.mk [(1,some 1),(2,some 2),(3,some 22)] ?_;simp only[ry,seval,X2,X3,X4,aq,ao,tC,ag];refine⟨fun t ht=>?_,wV (o i) j⟩
   by_cases h2:t=i
   ·subst h2;simp only[if_neg (Nat.lt_irrefl t),if_true];decide
   by_cases h:t<i
   ·simp only[if_pos h,if_neg h2];exact⟨trivial,trivial,fun _ _ _ _=>trivial⟩
   simp only[if_neg h,if_neg h2]
  obtain rfl:c=j:=by omega
  simp only[vx,T,seval,aq,ao,wi];refine Lq ⟨i+1,by omega⟩ ?_ (by show r-(i+1)<r-i;omega);refine Sub.trans (Sub.sI 2 3 rfl rfl (by decide)) ?_;simp only[dG,eD];refine Sa ?_;simp only[ry,seval,rz,aq,ao];intro t ht
  by_cases h2:t=i
  ·subst h2;simp only[if_neg (Nat.lt_irrefl t),if_true,if_pos (show t<t+1 by omega),Nat.zero_add];exact⟨trivial,trivial,fun _ _ _ _=>trivial⟩
  by_cases h:t<i
  ·simp only[if_pos h,if_pos (show t<i+1 by omega)];exact⟨trivial,trivial,fun _ _ _ _=>trivial⟩
  simp only[if_neg h,if_neg h2,if_neg (show¬t<i+1 by omega)]
 obtain rfl:r=i:=by omega
 simp only[vx,T,seval,aq,ao,uI,De];exact fR.aB ⟨.cell (dH.rows rfl fun i j hi hj=>.of_eq (by rw[if_pos hi])),.refl _,trivial⟩
open Go Go.Eng
open Go.Tw (El ax TG)
open Go.Mx (sm)
theorem Iu (f:FuncId)(p:Nat→Bool)(a b:Nat→Nb)(n m:Nat)(hl:n<2^38)(hf:∀i,i<n→i<m→Pr prog f [nX (a i),nX (b i)] (.one (.bool (p i)))):
  Pr prog 41 [.one (ao n a),.one (ao m b),.one (.fn f 0 (fun _=>.any))] (.one (.bool (s8 n m p))):=by
 refine pw func41 ⟨[0,1,2,6,7,8,9,14,15,16,17,18,30],[]⟩ ?_;simp only[Tryz.f41,ntmps41,iz,seval];simp only[vx,T,seval,ao];refine⟨fun g=>Lg ?_,fun g=>Lg ?_⟩
 ·simp only[vx,T,seval];exact vb (x7 g).symm
 have YY:n=m:=by omega
 simp only[vx,T,seval,ao];refine Lk (fun y:{i:Nat//i≤n∧∀k,k<i→p k=true}=>⟨[(1,.one (ao m b)),(2,.one (.fn f 0 (fun _=>.any))),(15,.one (ao n a)),(16,.one (.int .i64 n)),(17,.one (.int .i64 y.1))],[],1,32⟩) (fun y=>n-y.1) ⟨0,O2 _,fun k h=>absurd h (O5 _)⟩ ?_ (fun⟨i,hi,hz⟩=>?_)
 ·refine Sa ?_;simp only[ry,seval,rz,ao]
 have i1:=wI i (by omega);simp only[vx,T,seval,ao];refine⟨fun h1=>Lg ?_,fun h1=>Lg ?_⟩
 ·have VI:=hf i (by omega) (by omega);simp only[vx,T,seval,ao,bC];refine⟨by omega,by omega,Cg VI ?_⟩;simp only[vx,T,seval];refine⟨fun h2=>Lg ?_,fun h2=>Lg ?_⟩
  ·simp only[vx,T,seval];have h2:p i=false:=by simpa using h2
   exact vb (by unfold s8;rw[j8 (by omega) h2,Bool.and_false])
  simp only[vx,T,seval];simp only[i1];refine Lq ⟨i+1,by omega,fun k hk=>?_⟩ ?_ ?_
  ·by_cases h3:k<i
   ·exact hz k h3
   rw[show k=i by omega];simpa using h2
  ·refine Sa ?_;simp only[ry,seval,rz,ao]
  simp only;omega
 simp only[vx,T,seval];exact vb (by unfold s8;rw[decide_eq_true YY,Bool.true_and];exact(gF.2 fun k hk=>hz k (by omega)).symm)
theorem IB (f:FuncId)(p:Nat→Bool)(c d:Nat→Nat)(a b:Nat→Nat→Nb)(n m:Nat)(hl:n<2^38)(hf:∀i,i<n→i<m→Pr prog f [.one (ao (c i) (a i)),.one (ao (d i) (b i))] (.one (.bool (p i)))):
  Pr prog 39 [.one (aq n c a),.one (aq m d b),.one (.fn f 0 (fun _=>.any))] (.one (.bool (s8 n m p))):=by
 refine pw func39 ⟨[0,1,2,6,7,8,9,14,15,16,17,18,30],[]⟩ ?_;simp only[Tryz.f39,ntmps39,iz,seval];simp only[vx,T,seval,aq,ao];refine⟨fun g=>Lg ?_,fun g=>Lg ?_⟩
 ·simp only[vx,T,seval];exact vb (x7 g).symm
 have YY:n=m:=by omega
 simp only[vx,T,seval,aq,ao];refine Lk (fun y:{i:Nat//i≤n∧∀k,k<i→p k=true}=>⟨[(1,.one (aq m d b)),(2,.one (.fn f 0 (fun _=>.any))),(15,.one (aq n c a)),(16,.one (.int .i64 n)),(17,.one (.int .i64 y.1))],[],1,32⟩) (fun y=>n-y.1) ⟨0,O2 _,fun k h=>absurd h (O5 _)⟩ ?_ (fun⟨i,hi,hz⟩=>?_)
 ·refine Sa ?_;simp only[ry,seval,rz,aq,ao]
 have i1:=wI i (by omega);simp only[vx,T,seval,aq,ao];refine⟨fun h1=>Lg ?_,fun h1=>Lg ?_⟩
 ·have VI:=hf i (by omega) (by omega);simp only[vx,T,seval,aq,ao];refine⟨by omega,by omega,Cg VI ?_⟩;simp only[vx,T,seval];refine⟨fun h2=>Lg ?_,fun h2=>Lg ?_⟩
  ·simp only[vx,T,seval];have h2:p i=false:=by simpa using h2
   exact vb (by unfold s8;rw[j8 (by omega) h2,Bool.and_false])
  simp only[vx,T,seval];simp only[i1];refine Lq ⟨i+1,by omega,fun k hk=>?_⟩ ?_ ?_
  ·by_cases h3:k<i
   ·exact hz k h3
   rw[show k=i by omega];simpa using h2
  ·refine Sa ?_;simp only[ry,seval,rz,aq,ao]
  simp only;omega
 simp only[vx,T,seval];exact vb (by unfold s8;rw[decide_eq_true YY,Bool.true_and];exact(gF.2 fun k hk=>hz k (by omega)).symm)
theorem Py {n m:Nat}(c d:Nat→Nat)(a b:Nat→Nat→Nb)(hn:n<2^38)(hc:∀i,i<n→c i<2^38)(p:Nat→Nat→Bool)(hp:∀i j,i<n→i<m→j<c i→j<d i→Pr prog 42 [nX (a i j),nX (b i j)] (.one (.bool (p i j)))):
  Pr prog 10 [.one (aq n c a),.one (aq m d b)] (.one (.bool (s8 n m fun i=>s8 (c i) (d i) (p i)))):=by
 have ce:=IB 40 (fun i=>s8 (c i) (d i) (p i)) c d a b n m hn fun i hi hm=>by
  have e1:=Iu 42 (p i) (a i) (b i) (c i) (d i) (hc i hi) (hp i · hi hm);refine pw func40 ⟨[0,1,4],[]⟩ ?_;simp only[Tryz.f40,ntmps40,iz,seval];simp only[vx,T,seval,ao];refine Cg e1 ?_;simp only[vx,T,seval];exact Ve rfl
 refine pw func10 ⟨[0,1,4],[]⟩ ?_;simp only[Tryz.f10,ntmps10,iz,seval];simp only[vx,T,seval,aq,ao];refine Cg ce ?_;simp only[vx,T,seval];exact Ve rfl
theorem Ek {n m:Nat}{p:Nat→Bool}:s8 n m p=true↔n=m∧∀i,i<n→p i=true:=by
 unfold s8;rw[Bool.and_eq_true,decide_eq_true_eq,gF]
theorem E1 (x y:List El×El)(U:List El)(ea eb:El)(xk:Tk x.1.length x.1)(yk:Tk y.1.length y.1)(hx:x.2.length<2^38)(qx:Qk x.2)(qy:Qk y.2)(hU:ea.length<2^38)(qa:Qk ea)(qb:Qk eb)
  (hj:Pr prog 74 [.one (bP [x,y])] (.aB [.one (bP [(U,ea),(U,eb)]),.one (.int .i64 0)])) {r:Bool} (h1:x.1=y.1→(r=true↔x.2=y.2)) (h2:r=true↔ea=eb):Pr prog 42 [nX x,nX y] (.one (.bool r)):=by
 have hj:=hj.HY (B5 x y);have b1:=hO xk yk;have b2:=hO yk xk;have s1:=qQ _ _ hx qx qy;have s2:=qQ _ _ hU qa qb;have e2:decide (ea=eb)=r:=by rw[Bool.eq_iff_iff,decide_eq_true_iff,h2]
 rw[e2]at s2
 cases k1:eJ x.1.length y.1.length x.1 y.1 with
 |false=>
  rw[k1]at b1;refine pw func42 ⟨[0,1,2,3,4,5,6,7,9,21,35,49,50,51,52],[]⟩ ?_;simp only[Tryz.f42,ntmps42,iz,seval];simp only[vx,T,seval,nX,nV,tC,eV,ag];refine Cg b1 ?_;simp only[vx,T,seval,nX,nV,tC,eV,ag];refine Cg hj ?_
  simp(config:={maxSteps:=400000}) only[vx,T,seval,bP,eZ,bC,tC,ag,X0,X1]
  refine Cg s2 ?_;simp only[vx,T,seval,eV,ag];exact Ve rfl
 |true=>
  rw[k1]at b1
  cases k2:eJ y.1.length x.1.length y.1 x.1 with
  |false=>
   rw[k2]at b2;refine pw func42 ⟨[0,1,2,3,4,5,6,7,9,21,35,49,50,51,52],[]⟩ ?_;simp only[Tryz.f42,ntmps42,iz,seval];simp only[vx,T,seval,nX,nV,tC,eV,ag];refine Cg b1 ?_;simp only[vx,T,seval,nX,nV,tC,eV,ag];refine Cg b2 ?_;simp only[vx,T,seval,nX,nV,tC,eV,ag];refine Cg hj ?_
   simp(config:={maxSteps:=400000}) only[vx,T,seval,bP,eZ,bC,tC,ag,X0,X1]
   refine Cg s2 ?_;simp only[vx,T,seval,eV,ag];exact Ve rfl
  |true=>
   rw[k2]at b2;have e:x.1=y.1:=by
    obtain⟨s,e1⟩:=bE.1 k1;obtain⟨s',e2⟩:=bE.1 k2;have l1:=congrArg List.length e1;have l2:=congrArg List.length e2;rw[X6]at l1 l2
    have:s.length=0:=by omega
    rw[List.eq_nil_of_length_eq_zero this,List.append_nil]at e1;exact e1
   have e1:decide (x.2=y.2)=r:=by rw[Bool.eq_iff_iff,decide_eq_true_iff,h1 e]
   rw[e1]at s1;refine pw func42 ⟨[0,1,2,3,4,5,6,7,9,21,35,49,50,51,52],[]⟩ ?_;simp only[Tryz.f42,ntmps42,iz,seval];simp only[vx,T,seval,nX,nV,tC,eV,ag];refine Cg b1 ?_;simp only[vx,T,seval,nX,nV,tC,eV,ag];refine Cg b2 ?_;simp only[vx,T,seval,nX,nV,tC,eV,ag];refine Cg s1 ?_;simp only[vx,T,seval,eV,ag];exact Ve rfl
section
variable {A:List R}(S:Go.Tw.Src 64 A)(hA:Go.Tw.oF A)
include S hA
theorem Fg {a b:Nu A}(ha:a.w≤wA)(hb:b.w≤wB){r:Bool}(hr:r=true↔a.v=b.v):Pr prog 42 [nX a.x,nX b.x] (.one (.bool r)):=by
 obtain⟨U,ea,eb,na,nb,_,_,j⟩:=D8 S hA a.ok b.ok (a.sm ha) (b.sm (sF hb)) (b.j1 hb) (b.j2 hb);have pl:∀{t:List El} {e:El} {v:R} {β μ:Nat},ax A t e v β μ→e.length<2^38:=fun h=>by
  have:=h.tg.my hA
  rw[h.len];exact aN (by omega)
 refine E1 a.x b.x U ea eb (jr S hA a.ok.tg) (jr S hA b.ok.tg) (pl a.ok) (iL S hA a.ok (a.sm ha)) (iL S hA b.ok (b.sm (sF hb))) (pl na) (iL S hA na (a.sm ha)) (iL S hA nb (b.sm (sF hb))) j (fun e=>?_) ?_
 ·rw[hr];refine⟨fun h=>?_,fun h=>?_⟩
  ·refine Go.Tw.val_inj a.ok.tg.rd a.ok.len (by rw[b.ok.len,e]) ?_;rw[a.ok.val,h,←b.ok.val,e]
  rw[←a.ok.val,←b.ok.val,h,e]
 rw[hr];refine⟨fun h=>Go.Tw.val_inj na.tg.rd na.len nb.len (by rw[na.val,nb.val,h]),fun h=>?_⟩;rw[←na.val,←nb.val,h]
theorem DS {n n':Nat}(c c':Nat→Nat)(a b:Nat→Nat→Nu A)(hn:n<2^38)(hc:∀i,i<n→c i<2^38)(h:∀i j,i<n→i<n'→j<c i→j<c' i→(a i j).w≤wA∧(b i j).w≤wB)
  {r:Bool} (hr:r=true↔n=n'∧∀i,i<n→c i=c' i∧∀j,j<c i→(a i j).v=(b i j).v):Pr prog 10 [.one (dj n c a),.one (dj n' c' b)] (.one (.bool r)):=by
 have k:=Py (n:=n) (m:=n') c c' (fun i j=>(a i j).x) (fun i j=>(b i j).x) hn hc (fun i j=>open Classical in decide ((a i j).v=(b i j).v)) fun i j hi hm hj Vv=>
  Fg S hA (h i j hi hm hj Vv).1 (h i j hi hm hj Vv).2 (by simp)
 have e:(s8 n n' fun i=>s8 (c i) (c' i) fun j=>open Classical in decide ((a i j).v=(b i j).v))=r:=by
  rw[Bool.eq_iff_iff,hr,Ek];simp only[Ek,decide_eq_true_eq]
 rw[e]at k;exact k
theorem P7 {n n' p q:Nat}(a b:Nat→Nu A)(hn:n<2^38)(Uy:n≤n')(ha:∀i,i<n→(a i).w≤p)(hb:∀i,i<n→(b i).w≤q)(h1:1+n*(p+q)≤wA)(h2:p+q≤wB):
  ∃c:Nu A,c.v=sm n (fun i=>(a i).v*(b i).v)∧c.w≤1+n*(p+q)∧∀(C0:C) (wd io oo:Nat),Pr prog 43 [.one (.elt C0 wd io oo),.one (v8 n a),.one (v8 n' b)] (nX c.x):=by
 have hBA:wB≤wA:=by decide
 obtain⟨P,hP⟩:=QJ (n:=n) (p:=fun i c=>c.v=(a i).v*(b i).v∧c.w≤p+q∧Pr prog 130 [nX (a i).x,nX (b i).x] (.aB [nX c.x,.one (.int .i64 0)])) (a 0) fun i hi=>by
  have k1:=ha i hi;have k2:=hb i hi;obtain⟨c,c1,c2,c3⟩:=sO S hA (a:=a i) (b:=b i) (by omega) (by omega);exact⟨c,c1,by omega,c3⟩
 obtain⟨s,e0,hI,hS⟩:=Go.Tw.chain (α:=Nu A) (I:=fun k s=>s.v=sm k (fun i=>(a i).v*(b i).v)∧s.w≤1+k*(p+q))
  (St:=fun k s t=>(R.bQ (a k).v≠0→R.bQ (b k).v≠0→Pr prog 128 [nX s.x,nX (P k).x] (.aB [nX t.x,.one (.int .i64 0)]))∧((R.bQ (a k).v=0∨R.bQ (b k).v=0)→t=s)) (x0:=Nu.int A 0) ⟨rfl,by rw[Nc];omega⟩ (n:=n) (fun k s hk hs=>by
   obtain⟨p1,p2,_⟩:=hP k hk;have hm:(k+1)*(p+q)≤n*(p+q):=O8 _ hk;have YJ:=Nat.add_one_mul k (p+q)
   by_cases h:R.bQ (a k).v=0∨R.bQ (b k).v=0
   ·refine⟨s,⟨fun h1 h2=>absurd h (by rintro(h|h)<;>contradiction),fun _=>rfl⟩,?_,by omega⟩
    have e0:(a k).v*(b k).v=R.q 0:=by
     rcases h with h|h
     ·rw[R.kr.1 h,R.zero_mul]
     rw[R.kr.1 h,R.mul_comm,R.zero_mul]
    rw[hs.1];show _=sm k _+(a k).v*(b k).v;rw[e0,R.add_zero]
   obtain⟨c,c1,c2,c3⟩:=K9 S hA (a:=s) (b:=P k) (by omega) (by omega);exact⟨c,⟨fun _ _=>c3,fun h'=>absurd h' h⟩,by rw[c1,hs.1,p1];rfl,by omega⟩)
 obtain⟨v,w⟩:=hI n (O1 _);refine⟨s n,v,w,fun C0 wd io oo=>Rt (fun i=>(a i).x) (fun i=>(b i).x) (fun i=>(s i).x) (fun i=>(P i).x) (fun i=>R.bQ (a i).v) (fun i=>R.bQ (b i).v) hn Uy (by rw[e0];exact qz 0 (by decide)) (fun i hi=>mR S hA (by have:=ha i hi;omega)) (fun i hi=>mR S hA (by have:=hb i hi;omega))
  (fun i hi h=>by rw[(hS i hi).2 h]) (fun i hi h1 h2=>⟨I6 (hP i hi).2.2,RI ((hS i hi).1 h1 h2)⟩)⟩
end
open Go Go.Eng
open Go.Tw (El)
section
variable {r:Nat}{c:Nat→Nat}(m:Nat→Nat→Nb)(hr:r<2^38)(h:¬∀i,i<r→c i=c 0)
include hr h
end
theorem Hm {r:Nat}(c:Nat→Nat)(m:Nat→Nat→Nb)(hr:r<2^38){b:Bool}(hb:b=true↔∀i,i<r→c i=c 0):Pr prog 38 [.one (aq r c m)] (.one (.bool b)):=by
 refine pw func38 ⟨[0,2,3,7,19],[]⟩ ?_;simp only[Tryz.f38,ntmps38,iz,seval];simp only[vx,T,seval,aq,ao];refine Lk (fun y:{i:Nat//i≤r∧∀j,j<i→c j=c 0}=>⟨[(0,.one (aq r c m)),(2,.one (.bool false)),(3,.one (.int .i64 y.1))],[],1,20⟩) (fun y=>r-y.1) ⟨0,O2 _,fun j hj=>absurd hj (O5 _)⟩ ?_ (fun⟨i,hi,hz⟩=>?_)
 ·refine Sa ?_;simp only[ry,seval,rz,aq,ao]
 simp only;have wi:=wI i (by omega);simp only[vx,T,seval,aq,ao];refine⟨fun g=>Lg ?_,fun g=>Lg ?_⟩
 ·have WB:i<r:=by omega
  simp only[vx,T,seval,aq,ao];refine⟨by omega,by omega,?_⟩;refine⟨fun g2=>Lg ?_,fun g2=>Lg ?_⟩
  ·have e:b=false:=by
    cases b with
    |false=>rfl
    |true=>exact absurd (hb.1 rfl i WB) (by omega)
   subst e;simp only[vx,T,seval];exact Ve rfl
  simp only[vx,T,seval,wi];refine Lq ⟨i+1,by omega,fun j hj=>?_⟩ ?_ (by show r-(i+1)<r-i;omega)
  ·by_cases e:j=i
   ·subst e;omega
   exact hz j (by omega)
  refine Sa ?_;simp only[ry,seval,rz,aq,ao]
 have e:b=true:=hb.2 fun j hj=>hz j (by omega);subst e;simp only[vx,T,seval,aq,ao];exact Ve rfl
open Go Go.Eng
open Go.Tw (El)
theorem SD {α:Sort _}{n:Nat}{p:Nat→α→Prop}(x:α)(h:∀i,i<n→∃a,p i a):∃f:Nat→α,∀i,i<n→p i (f i):=by
 have:∀i,∃a,i<n→p i a:=fun i=>by
  by_cases hi:i<n
  ·obtain⟨a,ha⟩:=h i hi;exact⟨a,fun _=>ha⟩
  exact⟨x,fun h=>absurd h hi⟩
 exact Classical.skolem.1 this
theorem Oh {r c:Nat}(m:Nat→Nat→Nb)(hr:r<2^38)(hc:c<2^38)(h0:r=0→c=0):Pr prog 9 [.one (aq r (fun _=>c) m)] (.one (aq c (fun _=>r) fun i j=>m j i)):=
 yo (fun _=>c) m hc (Hm (fun _=>c) m hr (by simp)) (lL (fun _=>c) m (by split<;>omega) hr) fun k hk=>rA (fun _=>c) m k hr fun _ _=>hk
theorem Pp {r n:Nat}(x:Nat→Nat→Nb)(v o:Nat→Nb)(hr:r<2^30)(hn:n<2^30)(h0:r=0→n=0)
  (hd:∀i,i<r→∀(C0:C) (wd io oo:Nat),Pr prog 43 [.one (.elt C0 wd io oo),.one (ao n (x i)),.one (ao n v)] (nX (o i))):
  Pr prog 16 [.one (aq r (fun _=>n) x),.one (ao n v)] (.aB [.one (ao r o),.one (.int .i64 0)]):=by
 have cv:=iJ (r:=r) (fun _=>n) x (by omega) (b:=true) (by simp)
 have cl:=fM (fun _=>n) x (k:=n) (by split<;>omega) (by omega:r<2^38)
 refine pw func16 ⟨[0,1,4,5,6,7,8,9,19,25,26,27,28,44],[(11,.nil)]⟩ ?_;simp only[Tryz.f16,ntmps16,iz,seval];simp only[vx,T,seval,aq,ao];refine Cg cv ?_;simp only[vx,T,seval,aq,ao];refine Cg cl ?_;simp only[vx,T,seval,aq,ao];refine⟨by omega,Lk (fun z:{i:Nat//i≤r}=>⟨[(1,.one (ao n v)),(4,.one .nil),(5,.one (.int .i64 0)),(6,.one (.ptr 1 0)),(7,.one (.own 2 2 0 r)),(25,.one (aq r (fun _=>n) x)),(26,.one (.int .i64 r)),(27,.one (.int .i64 z.1))],
  [(1,⟨.var [.int .i64 0],false⟩),(2,⟨.rows 56 2 r (fun t j=>if t<z.1 then bC (o t) j else[C.nil,C.nil].getD j .any),true⟩)],3,50⟩) (fun z=>r-z.1) ⟨0,O2 _⟩ ?_ (fun⟨i,hi⟩=>?_)⟩
 ·refine Sa ?_;simp only[ry,seval,rz,aq,ao,O5]
 simp only;have wi:=wI i (by omega);simp only[vx,T,seval,aq,ao];refine⟨fun g=>Lg ?_,fun g=>Lg ?_⟩
 ·have WB:i<r:=by omega
  have cd:=hd i WB;simp only[vx,T,seval,aq,ao,wi];refine⟨by omega,Cg (cd _ _ _ _) ?_⟩;simp only[vx,T,seval,aq,ao,nX,nV,bC,tC,ag,wi];refine⟨by omega,Lq ⟨i+1,by omega⟩ ?_ (by show r-(i+1)<r-i;omega)⟩;refine Sa ?_;simp only[ry,seval,rz,aq,ao,tC,ag];intro t j ht hj;show bz _ _ _ _ t j=_;unfold bz
  by_cases e:t=i
  ·subst e;rw[if_pos rfl,if_pos (O2 _),if_pos (by simpa using hj),if_pos (Nat.lt_succ_self t)]
   match j,hj with
   |0,_=>rfl
   |1,_=>rfl
  rw[if_neg e]
  by_cases h:t<i
  ·simp only[if_pos h,if_pos (show t<i+1 by omega)]
  simp only[if_neg h,if_neg (show¬t<i+1 by omega)]
 obtain rfl:r=i:=by omega
 simp only[vx,T,seval,aq,ao,uI,De];exact fR.aB ⟨.cell (dH.rows rfl fun t j ht hj=>.of_eq (by rw[if_pos ht])),.refl _,trivial⟩
theorem Kl {r n k:Nat}(x:Nat→Nat→Nb)(v:Nat→Nb)(hr:r<2^30)(h0:r=0→n=0)(h:k≠n)(hk:k<2^30)(hn:n<2^30):Pr prog 16 [.one (aq r (fun _=>n) x),.one (ao k v)] (.aB [.one .nil,.one (.int .i64 1)]):=by
 have cv:=iJ (r:=r) (fun _=>n) x (by omega) (b:=true) (by simp)
 have cl:=fM (fun _=>n) x (k:=n) (by split<;>omega) (by omega:r<2^38)
 refine pw func16 ⟨[0,1,4,5,6,7,8,9,19,25,26,27,28,44],[(11,.nil)]⟩ ?_;simp only[Tryz.f16,ntmps16,iz,seval];simp only[vx,T,seval,aq,ao];refine Cg cv ?_;simp only[vx,T,seval,aq,ao];refine Cg cl ?_;simp only[vx,T,seval,aq,ao];refine⟨fun _=>Lg ?_,fun g=>absurd g (by omega)⟩;simp only[vx,T,seval,aq,ao];exact Ve rfl
theorem NH {r n k c:Nat}(x y:Nat→Nat→Nb)(hr:r<2^30)(hk:k<2^30)(hn:n<2^30)(h0:r=0→n=0)(h:n≠k):Pr prog 13 [.one (aq r (fun _=>n) x),.one (aq k (fun _=>c) y)] (.aB [.one .nil,.one (.int .i64 1)]):=by
 have cv1:=iJ (r:=r) (fun _=>n) x (by omega) (b:=true) (by simp);have cv2:=iJ (r:=k) (fun _=>c) y (by omega) (b:=true) (by simp)
 have cl:=fM (fun _=>n) x (k:=n) (by split<;>omega) (by omega:r<2^38)
 refine pw func13 ⟨[0,1,4,5,6,7,8,9,10,12,27,35,36,37,38,42,43,44,45,67],[(12,(.cons 11 [0,1,12] (.cons 13 [] .nil .nil) .nil)),(16,.nil)]⟩ ?_;simp only[Tryz.f13,ntmps13,iz,seval];simp only[vx,T,seval,aq,ao];refine Cg cv1 ?_;simp only[vx,T,seval,aq,ao];refine Cg cv2 ?_;simp only[vx,T,seval,aq,ao];refine Cg cl ?_;simp only[vx,T,seval,aq,ao];refine⟨fun _=>Lg ?_,fun g=>absurd g (by omega)⟩;simp only[vx,T,seval,aq,ao];exact Ve rfl
open Go Go.Eng
open Go.Tw (El)
theorem Gt {r c d:Nat}(x y:Nat→Nat→Nb)(hr:r<2^30)(hc:c<2^30)(hd:d<2^30):Pr prog 58 [.one (aq r (fun _=>c) x),.one (aq r (fun _=>d) y)] (.one (aq r (fun _=>c+d) fun i j=>if j<c then x i j else y i (j-c))):=by
 refine pw func58 ⟨[0,1,4,5,6,11,12,13],[]⟩ ?_;simp only[Tryz.f58,ntmps58,iz,seval];simp only[vx,T,seval,aq,ao];refine⟨by omega,?_⟩;refine Lk (fun z:{k:Nat//k≤r}=>⟨[(0,.one (aq r (fun _=>c) x)),(1,.one (aq r (fun _=>d) y)),(4,.one .nil),(5,.one (.own 1 1 0 r)),(11,.one (.int .i64 r)),(12,.one (.int .i64 z.1))],
  [(1,⟨.rows 38 1 r (fun i _=>if i<z.1 then ao (c+d) (fun j=>if j<c then x i j else y i (j-c))else .nil),true⟩)],2,30⟩) (fun z=>r-z.1) ⟨0,O2 _⟩ ?_ (fun⟨k,hk⟩=>?_)
 ·refine Sa ?_;simp only[ry,seval,rz,aq,ao,O5];intro i j hi hj;obtain rfl:j=0:=by omega
  rfl
 simp only;have wi:=wI k (by omega);simp only[vx,T,seval,aq,ao];refine⟨fun g=>Lg ?_,fun g=>Lg ?_⟩
 ·have ZB:k<r:=by omega
  have cc:=zA (n:=c) (m:=d) (x k) (y k) (by omega);simp only[vx,T,seval,aq,ao];refine⟨by omega,by omega,Cg cc ?_⟩;simp only[vx,T,seval,aq,ao,wi];refine⟨by omega,Lq ⟨k+1,by omega⟩ ?_ (by show r-(k+1)<r-k;omega)⟩;refine Sa ?_;simp only[ry,seval,rz,aq,ao];intro i j hi hj;obtain rfl:j=0:=by omega
  by_cases e:i=k
  ·subst e;rw[if_pos (Nat.lt_succ_self i)]
   simp[bz]
  by_cases h:i<k
  ·rw[if_pos (show i<k+1 by omega)]
   simp[bz,e,h]
  rw[if_neg (show¬i<k+1 by omega)]
  simp[bz,e,h]
 obtain rfl:k=r:=by omega
 simp only[vx,T,seval,aq,ao];refine fR.cell (dH.rows rfl fun i j hi hj=>.of_eq ?_);rw[if_pos hi]
theorem LJ {r:Nat}(x:Nat→Nat→Nb)(hr:r<2^30):Pr prog 57 [.one (aq r (fun _=>r) x)] (.one (.bool true)):=by
 have cv:=iJ (r:=r) (fun _=>r) x (by omega) (b:=true) (by simp)
 have cl:=fM (fun _=>r) x (k:=r) (by split<;>omega) (by omega:r<2^38)
 refine pw func57 ⟨[0,2],[]⟩ ?_;simp only[Tryz.f57,ntmps57,iz,seval];simp only[vx,T,seval,aq,ao];refine Cg cv ?_;simp only[vx,T,seval,aq,ao];refine Cg cl ?_;simp only[vx,T,seval,aq,ao];exact Ve rfl
theorem Gl {n:Nat}(x N:Nat→Nat→Nb)(p:List Nat)(D1 D2:C)(hn:n<2^29)
  (hE:Pr prog 47 [.one (aq n (fun _=>n+n) fun i j=>if j<n then x i j else zc i (j-n))] (.aB [.agg [aq n (fun _=>n+n) N,.ints .i64 (kj p),D1,D2],.one (.int .i64 0)]))
  (s1:∃n f,D1= .rows 1 n f) (s2:∃n f,D2= .rows 4 n f) (hp:∀i,i<n→i<p.length∧p.getD i 0=i):
  Pr prog 28 [.one (aq n (fun _=>n) x)] (.aB [.one (aq n (fun _=>n) fun i j=>N i (n+j)),.one (.int .i64 0)]):=by
 obtain⟨n1,f1,rfl⟩:=s1;obtain⟨n2,f2,rfl⟩:=s2;have cs:=LJ x (show n<2^30 by omega);have cb:=Gt (r:=n) (c:=n) (d:=n) x (fun i j=>zc i j) (by omega) (by omega) (by omega);refine pw func28 ⟨[0,2,3,4,5,6,7,8,9,10,13,19,20,21,38,43,44,45,53],[]⟩ ?_;simp only[Tryz.f28,ntmps28,iz,seval];simp only[vx,T,seval,aq,ao];refine Cg cs ?_;simp only[vx,T,seval,aq,ao];refine⟨by omega,?_⟩;refine Lk (fun z:{k:Nat//k≤n}=>⟨[(0,.one (aq n (fun _=>n) x)),(2,.one .nil),(3,.one (.int .i64 0)),(4,.one (.int .i64 n)),(5,.one (.own 1 1 0 n)),(19,.one (.int .i64 n)),(20,.one (.int .i64 z.1))],
  [(1,⟨.rows 38 1 n (fun i _=>if i<z.1 then ao n (fun j=>zc i j)else .nil),true⟩)],2,66⟩) (fun z=>n-z.1) ⟨0,O2 _⟩ ?_ (fun⟨k,hk⟩=>?_)
 ·refine Sa ?_;simp only[ry,seval,rz,aq,ao,O5];intro i j hi hj;obtain rfl:j=0:=by omega
  rfl
 simp only;have wi:=wI k (by omega);simp only[vx,T,seval,aq,ao];refine⟨fun g=>Lg ?_,fun g=>Lg ?_⟩
 ·have hkn:k<n:=by omega
  have cu:=M6 n k (by omega) hkn;simp only[vx,T,seval,aq,ao];refine cN.fresh cu ?_;simp only[vx,T,seval,aq,ao,wi,vv,dG,eD,List.contains,List.elem];refine⟨by omega,Lq ⟨k+1,by omega⟩ ?_ (by show n-(k+1)<n-k;omega)⟩;refine Sa ?_;simp only[ry,seval,rz,aq,ao];intro i j hi hj;obtain rfl:j=0:=by omega
  by_cases e:i=k
  ·subst e;rw[if_pos (Nat.lt_succ_self i)]
   simp[bz]
  by_cases h:i<k
  ·rw[if_pos (show i<k+1 by omega)]
   simp[bz,e,h]
  rw[if_neg (show¬i<k+1 by omega)]
  simp[bz,e,h]
 obtain rfl:k=n:=by omega
 have cb':=cb.uq (.refl _) (x':=.rows 1 k fun i _=>if i<k then ao k (fun j=>zc i j)else .nil) (dH.rows rfl fun i j hi hj=>.of_eq (by rw[if_pos hi]));simp only[vx,T,seval,aq,ao];refine Cg cb' ?_;simp only[vx,T,seval,aq,ao];refine Cg hE ?_;simp only[vx,T,seval,aq,ao];refine⟨by omega,?_⟩;refine Lk (fun z:{i:Nat//i≤k}=>⟨[(2,.one .nil),(3,.one (.int .i64 0)),(4,.one (.int .i64 k)),(7,.one (.ptr 1 0)),(9,.one (.own 2 1 0 k)),(43,.one (.int .i64 k)),(44,.one (.int .i64 z.1))],
  [(1,⟨.var [aq k (fun _=>k+k) N,.ints .i64 (kj p),.rows 1 n1 f1,.rows 4 n2 f2],true⟩),(2,⟨.rows 38 1 k (fun i _=>if i<z.1 then ao k (fun j=>N i (k+j))else .nil),true⟩)],3,66⟩) (fun z=>k-z.1) ⟨0,O2 _⟩ ?_ (fun⟨i,hi⟩=>?_)
 ·refine Sa ?_;simp only[ry,seval,rz,aq,ao,O5];intro i j hi hj;obtain rfl:j=0:=by omega
  rfl
 simp only;have wj:=wI i (by omega);simp only[vx,T,seval,aq,ao];refine⟨fun g1=>Lg ?_,fun g1=>Lg ?_⟩
 ·obtain⟨h1,h2⟩:=hp i (by omega);simp only[vx,T,seval,aq,ao,qD,dx,h2,wj];have e0:((k+k:Nat):Int)-(k:Int)=(k:Int):=by omega
  refine⟨by omega,by omega,by omega,by omega,Lq ⟨i+1,by omega⟩ ?_ (by show k-(i+1)<k-i;omega)⟩;refine Sa ?_;simp only[ry,seval,rz,aq,ao];intro i' j Uk hj;obtain rfl:j=0:=by omega
  by_cases e:i'=i
  ·subst e;rw[if_pos (Nat.lt_succ_self i')]
   simp[bz]
   try omega
  by_cases h:i'<i
  ·rw[if_pos (show i'<i+1 by omega)]
   simp[bz,e,h]
  rw[if_neg (show¬i'<i+1 by omega)]
  simp[bz,e,h]
 obtain rfl:k=i:=by omega
 simp only[vx,T,seval,aq,ao];exact fR.aB ⟨.cell (dH.rows rfl fun i j hi hj=>.of_eq (by rw[if_pos hi])),.refl _,trivial⟩
open Go Go.Eng
open Go.Tw (El)
open Go.Mx (mz iO red free)
section
variable {A:List R}
def Me (A:List R)(k j:Nat):Nu A:=if j=k then Nu.int A 1 else Nu.int A 0
theorem MJ (k j:Nat):(Me A k j).x=zc k j:=by
 unfold Me zc
 by_cases h:j=k
 ·rw[if_pos h,if_pos (by omega)];rfl
 rw[if_neg h,if_neg (by omega)];rfl
theorem P8 (k j:Nat):(Me A k j).v=if j=k then R.q 1 else R.q 0:=by
 unfold Me
 split<;>rfl
def MP (p:List Nat)(G:Nat→Nat→Nu A)(k:Nat):Nat→Nu A:=mz p (fun i=>G i k) (Me A k) p.length
theorem QP (p:List Nat)(G:Nat→Nat→Nu A)(k j:Nat):(MP p G k j).x=MF p (fun i k=>(G i k).x) (fun k=>zc k) p.length k j:=by
 unfold MP MF;rw[Go.Mx.py Nu.x]
 congr 1
 funext j
 exact MJ k j
theorem Qp (p:List Nat)(G:Nat→Nat→Nu A)(k j:Nat):(MP p G k j).v=mz p (fun i=>(G i k).v) (fun j=>if j=k then R.q 1 else R.q 0) p.length j:=by
 unfold MP;rw[Go.Mx.py Nu.v]
 congr 1
 funext j
 exact P8 k j
theorem yK {α:Type}{P:α→Prop}{p:List Nat}{f b:Nat→α}(hf:∀i,i<p.length→P (f i))(hb:∀j,P (b j)):∀{n:Nat} (_:n≤p.length) (j:Nat),P (mz p f b n j)
 |0,_,j=>hb j
 |n+1,h,j=>by
  rw[sJ]
  split
  ·exact hf n (by omega)
  exact yK hf hb (by omega) j
theorem tH {α:Type}{p:List Nat}{f g b:Nat→α}(h:∀i,i<p.length→f i=g i):∀{n:Nat} (_:n≤p.length) (j:Nat),mz p f b n j=mz p g b n j
 |0,_,j=>rfl
 |n+1,hn,j=>by
  rw[sJ,sJ,h n (by omega),tH h (by omega) j]
theorem Cu (p:List Nat):∀(c i:Nat),i<(fl p c).length→(fl p c).getD i 0<c∧(fl p c).getD i 0∉p
 |0,i,h=>absurd h (O5 _)
 |c+1,i,h=>by
  by_cases hc:c∈p
  ·rw[show fl p (c+1)=fl p c from if_pos hc]at h⊢;obtain⟨h1,h2⟩:=Cu p c i h;exact⟨by omega,h2⟩
  have e:fl p (c+1)=fl p c++[c]:=if_neg hc;rw[e]at h⊢
  by_cases h1:i<(fl p c).length
  ·obtain⟨h2,h3⟩:=Cu p c i h1;rw[X7,List.getElem?_append_left h1,←X7];exact⟨by omega,h3⟩
  rw[X6,List.length_singleton]at h;obtain rfl:i=(fl p c).length:=by omega
  rw[X7,List.getElem?_append_right (O1 _),Nat.sub_self];exact⟨by show c<c+1;omega,hc⟩
noncomputable def Rb (M:Nat→Nat→R)(r c i j:Nat):R:=mz (red r M c).2 (fun i'=> -(red r M c).1 i' ((fl (red r M c).2 c).getD i 0)) (fun j=>if j=(fl (red r M c).2 c).getD i 0 then R.q 1 else R.q 0) (red r M c).2.length j
theorem MB {r c:Nat}(M X G:Nat→Nat→Nu A)(h1:iO r c (vM X) (red r (vM M) c).1)(h2:∀i j,i<r→j<c→(X i j).w≤4^(red r (vM M) c).2.length)
  (hG:∀i k,i<r→k<c→(G i k).v= -(X i k).v∧(G i k).w=(X i k).w) {i j:Nat} (hi:i<(fl (red r (vM M) c).2 c).length):
  (MP (red r (vM M) c).2 G ((fl (red r (vM M) c).2 c).getD i 0) j).v=Rb (vM M) r c i j∧(MP (red r (vM M) c).2 G ((fl (red r (vM M) c).2 c).getD i 0) j).w≤4^(red r (vM M) c).2.length:=by
 have hk:=(Cu _ c i hi).1;have hl:=(Go.Mx.gR r (vM M) c).len;unfold Rb
 generalize(fl (red r (vM M) c).2 c).getD i 0=k at hk
 refine⟨?_,?_⟩
 ·rw[Qp];exact tH (fun i' Uk=>by rw[(hG i' k (by omega) hk).1];exact congrArg _ (h1 i' k (by omega) hk)) (O1 _) j
 refine yK (P:=fun a:Nu A=>a.w≤4^(red r (vM M) c).2.length) (fun i' Uk=>?_) (fun j'=>?_) (O1 _) j
 ·show(G i' k).w≤_
  rw[(hG i' k (by omega) hk).2];exact h2 i' k (by omega) hk
 show(Me A k j').w≤_
 have:1≤4^(red r (vM M) c).2.length:=Nat.one_le_pow _ _ (by decide)
 unfold Me
 split<;>exact this
theorem IW {f:FuncId}(hf:∀a:Nu A,a.w≤wA→∃c:Nu A,c.v= -a.v∧c.w=a.w∧Pr prog f [nX a.x] (nX c.x)){r c W:Nat}(X:Nat→Nat→Nu A)(hw:∀i j,i<r→j<c→(X i j).w≤W)(hW:W≤wA):
  ∃G:Nat→Nat→Nu A,∀i k,i<r→k<c→((G i k).v= -(X i k).v∧(G i k).w=(X i k).w)∧Pr prog f [nX (X i k).x] (nX (G i k).x):=by
 refine Qq (p:=fun i k c=>(c.v= -(X i k).v∧c.w=(X i k).w)∧Pr prog f [nX (X i k).x] (nX c.x)) (X 0 0) fun i j hi hj=>?_;obtain⟨c,c1,c2,c3⟩:=hf (X i j) (O0 (hw i j hi hj) hW);exact⟨c,⟨c1,c2⟩,c3⟩
variable (S:Go.Tw.Src 64 A)(hA:Go.Tw.dV A)
include S hA
omit S hA in
theorem p4 {q:Nat}(h:q≤5):4^q≤wA:=O0 (O3 (by decide) h) (by decide)
omit S hA in
theorem KG {r c:Nat}(M:Nat→Nat→R)(h5:r≤4∨c≤5):(red r M c).2.length≤5:=by
 have:=Hv r M c
 have:=(Go.Mx.gR r M c).len
 omega
omit S hA in
theorem KO {r c:Nat}(M:Nat→Nat→Nu A)(G:Nat→Nat→Nu A):aq (fl (red r (vM M) c).2 c).length (fun _=>c) (fun i=>MF (red r (vM M) c).2 (fun i k=>(G i k).x) (fun k=>zc k) (red r (vM M) c).2.length ((fl (red r (vM M) c).2 c).getD i 0))=dj (fl (red r (vM M) c).2 c).length (fun _=>c) (fun i j=>MP (red r (vM M) c).2 G ((fl (red r (vM M) c).2 c).getD i 0) j):=by
 unfold dj
 congr 1
 funext i j
 exact(QP _ _ _ _).symm
theorem Jj {r c:Nat}(M:Nat→Nat→Nu A)(hr:r<2^30)(hc:c<2^30)(WE:r*c<2^30)(h0:r=0→c=0)(hw:∀i j,i<r→j<c→(M i j).w≤1)(h5:r≤4∨c≤5):
  ∃K:Nat→Nat→Nu A,(∀i j,i<(fl (red r (vM M) c).2 c).length→(K i j).v=Rb (vM M) r c i j∧(K i j).w≤4^(red r (vM M) c).2.length)∧
   Pr prog 21 [.one (dj r (fun _=>c) M)] (.aB [.one (dj (fl (red r (vM M) c).2 c).length (fun _=>c) K),.one (.int .i64 0)]):=by
 obtain⟨X,d,x1,x2,x3⟩:=tX S hA M hr hc WE h0 hw h5;obtain⟨G,hG⟩:=IW (f:=50) (fun a ha=>D9 S hA ha) X x2 (p4 (KG (vM M) h5));have E:=Go.Mx.gR r (vM M) c;refine⟨fun i j=>MP (red r (vM M) c).2 G ((fl (red r (vM M) c).2 c).getD i 0) j,fun i j hi=>MB M X G x1 x2 (fun i k hi hk=>(hG i k hi hk).1) hi,?_⟩;rw[←KO];exact Kq (fun i j=>(M i j).x) (fun i j=>(X i j).x) (fun i k=>(G i k).x) (red r (vM M) c).2 _ _ hr hc h0 E.len E.lt x3 (fun k i hk hi=>(hG i k (Nat.lt_of_lt_of_le hi E.len) hk).2) ⟨_,_,rfl⟩ ⟨_,_,rfl⟩
end
open Go Go.Eng
open Go.Tw (El)
open Go.Mx (mz iO red free)
section
variable {A:List R}
def oQ (c:Nat)(M:Nat→Nat→Nu A)(b:Nat→Nu A)(i j:Nat):Nu A:=if j<c then M i j else b i
theorem Pm (c:Nat)(M:Nat→Nat→Nu A)(b:Nat→Nu A)(i j:Nat):(oQ c M b i j).x=F2 c (fun i j=>(M i j).x) (fun i=>(b i).x) i j:=by
 unfold oQ F2
 split<;>rfl
def dR (r:Nat):Nat:=if r=0 then 0 else 1
noncomputable def Rf (r c:Nat)(M:Nat→Nat→R)(j:Nat):R:=mz (red r M (c+dR r)).2 (fun i=>(red r M (c+dR r)).1 i c) (fun _=>R.q 0) (red r M (c+dR r)).2.length j
def PJ (c:Nat)(p:List Nat)(X:Nat→Nat→Nu A):Nat→Nu A:=mz p (fun i=>X i c) (fun _=>Nu.int A 0) p.length
theorem QN (c:Nat)(p:List Nat)(X:Nat→Nat→Nu A):(fun j=>(PJ c p X j).x)=mz p (fun i=>(X i c).x) (fun _=>u9 0) p.length:=by
 funext j
 unfold PJ;rw[Go.Mx.py Nu.x];rfl
theorem Kd {r c:Nat}(M X:Nat→Nat→Nu A)(h1:iO r (c+dR r) (vM X) (red r (vM M) (c+dR r)).1)(h2:∀i j,i<r→j<c+dR r→(X i j).w≤4^(red r (vM M) (c+dR r)).2.length)(j:Nat):
  (PJ c (red r (vM M) (c+dR r)).2 X j).v=Rf r c (vM M) j∧(PJ c (red r (vM M) (c+dR r)).2 X j).w≤4^(red r (vM M) (c+dR r)).2.length:=by
 have hl:=(Go.Mx.gR r (vM M) (c+dR r)).len;have hd:∀i,i<(red r (vM M) (c+dR r)).2.length→i<r∧c<c+dR r:=fun i hi=>⟨by omega,by unfold dR;rw[if_neg (by omega)];omega⟩;unfold PJ Rf;refine⟨?_,?_⟩
 ·rw[Go.Mx.py Nu.v];exact tH (fun i hi=>h1 i c (hd i hi).1 (hd i hi).2) (O1 _) j
 refine yK (P:=fun a:Nu A=>a.w≤4^(red r (vM M) (c+dR r)).2.length) (fun i hi=>h2 i c (hd i hi).1 (hd i hi).2) (fun _=>?_) (O1 _) j;exact Nat.one_le_pow _ _ (by decide)
variable (S:Go.Tw.Src 64 A)(hA:Go.Tw.dV A)
include S hA
omit S hA in
theorem Ka {r c d:Nat}(M:Nat→Nat→Nu A)(b:Nat→Nu A):dj r (fun _=>c+d) (oQ c M b)=aq r (fun _=>c+d) (F2 c (fun i j=>(M i j).x) (fun i=>(b i).x)):=by
 unfold dj
 congr 1
 funext i j
 exact Pm c M b i j
theorem L2 {r c:Nat}(M:Nat→Nat→Nu A)(b:Nat→Nu A)(hr:r<2^30)(hc:c<2^29)(WE:r*(c+dR r)<2^30)(h0:r=0→c=0)(hw:∀i j,i<r→j<c+dR r→(oQ c M b i j).w≤1)(h5:r≤4∨c≤4):
  ∃X:Nat→Nu A,(∀j,(X j).v=Rf r c (vM (oQ c M b)) j∧(X j).w≤4^(red r (vM (oQ c M b)) (c+dR r)).2.length)∧
   (c∈(red r (vM (oQ c M b)) (c+dR r)).2→Pr prog 29 [.one (dj r (fun _=>c) M),.one (v8 r b)] (.aB [.one .nil,.one (.int .i64 13)]))∧
   (c∉(red r (vM (oQ c M b)) (c+dR r)).2→Pr prog 29 [.one (dj r (fun _=>c) M),.one (v8 r b)] (.aB [.one (v8 c X),.one (.int .i64 0)])):=by
 have hd:dR r≤1:=by unfold dR;split<;>omega
 obtain⟨X,d,x1,x2,x3⟩:=tX S hA (oQ c M b) hr (show c+dR r<2^30 by omega) WE (fun h=>by unfold dR;rw[if_pos h];exact h0 h) hw (by omega);have E:=Go.Mx.gR r (vM (oQ c M b)) (c+dR r);rw[Ka]at x3;refine⟨PJ c (red r (vM (oQ c M b)) (c+dR r)).2 X,fun j=>Kd (oQ c M b) X x1 x2 j,fun h=>?_,fun h=>?_⟩
 ·exact Jq (fun i j=>(M i j).x) (fun i j=>(X i j).x) (fun i=>(b i).x) _ _ _ hr (by omega) h0 rfl E.len E.lt x3 ⟨_,_,rfl⟩ ⟨_,_,rfl⟩ _ (fun _=>rfl) (fun h'=>absurd h h')
 refine Jq (fun i j=>(M i j).x) (fun i j=>(X i j).x) (fun i=>(b i).x) _ _ _ hr (by omega) h0 rfl E.len E.lt x3 ⟨_,_,rfl⟩ ⟨_,_,rfl⟩ _ (fun h'=>absurd h' h) (fun _=>?_);unfold v8;rw[QN]
end
open Go Go.Eng
open Go.Tw (El)
def vC (l:List Int)(i:Nat):Nb:=u9 (l.getD i 0)
theorem iX (l:List Int)(hl:l.length<2^30)(hb:∀i,i<l.length→(l.getD i 0).natAbs<2^60):Pr prog 19 [.one (.ints .i64 l)] (.one (ao l.length (vC l))):=by
 refine pw func19 ⟨[0,2,3,5,6,7,8,9],[]⟩ ?_;simp only[Tryz.f19,ntmps19,iz,seval];simp only[vx,T,seval];refine Lk (fun y:{i:Nat//i≤l.length}=>⟨[(2,.one .nil),(3,.one (.own 1 2 0 y.1)),(6,.one (.ints .i64 l)),(7,.one (.int .i64 l.length)),(8,.one (.int .i64 y.1))],[(1,⟨.rows 56 2 y.1 (fun i=>bC (vC l i)),true⟩)],2,19⟩) (fun y=>l.length-y.1) ⟨0,O2 _⟩ ?_ (fun⟨i,hi⟩=>?_)
 ·refine Sa ?_;simp only[ry,seval,rz]
 simp only;have wi:=wI i (by omega);simp only[vx,T,seval];refine⟨fun g=>Lg ?_,fun g=>Lg ?_⟩
 ·have SU:i<l.length:=by omega
  have hz:=hb i SU;have c:=kG (l.getD i 0) (by omega) (by omega);simp only[vx,T,seval];refine⟨by omega,Cg c ?_⟩;simp only[vx,T,seval,nX,nV,tC,ag,wi];refine⟨⟨by omega,by omega⟩,Lq ⟨i+1,by omega⟩ ?_ (by show l.length-(i+1)<l.length-i;omega)⟩;refine Sa ?_;simp only[ry,seval,rz,tC,ag];exact wV (vC l) i
 obtain rfl:i=l.length:=by omega
 simp only[vx,T,seval,ao];exact Ve rfl
def HH (n:Nat)(a:Nat→Nb)(i:Nat):Nb:=if n=0 then u9 0 else a (i%n)
theorem Ri {n:Nat}(a:Nat→Nb)(i:Nat)(hn:n<2^30)(hi:i<2^30):Pr prog 33 [.one (ao n a),.one (.int .i64 i)] (nX (HH n a i)):=by
 have c0:=kG 0 (by decide) (by decide);refine pw func33 ⟨[0,1,4,11],[]⟩ ?_;simp only[Tryz.f33,ntmps33,iz,seval];simp only[vx,T,seval,ao];refine⟨fun h=>Lg ?_,fun h=>Lg ?_⟩
 ·have e:HH n a i=u9 0:=if_pos (by omega);simp only[vx,T,seval];refine Cg c0 ?_;simp only[vx,T,seval,nX,nV,tC,ag];rw[e];exact Ve rfl
 have e:HH n a i=a (i%n):=if_neg (by omega);simp only[vx,T,seval,ao];refine⟨fun h=>absurd h (by omega),fun _=>Lg ?_⟩;have hm:=Nat.mod_lt i (show 0<n by omega);have et:(i:Int).tmod (n:Int)=((i%n:Nat):Int):=rfl;simp only[vx,T,seval,ao,bC,tC,ag,et];refine⟨by omega,by omega,?_⟩;rw[e];exact Ve rfl
def Fi (a:Nat→Nb):Nat→Nat
 |0=>0
 |n+1=>if Fi a n<(a n).1.length then(a n).1.length else Fi a n
theorem GZ {n:Nat}(a:Nat→Nb)(hn:n<2^30):Pr prog 34 [.one (ao n a)] (.one (.int .i64 (Fi a n))):=by
 refine pw func34 ⟨[0,2,3,4,8,18],[]⟩ ?_;simp only[Tryz.f34,ntmps34,iz,seval];simp only[vx,T,seval,ao];refine Lk (fun y:{i:Nat//i≤n}=>⟨[(0,.one (ao n a)),(2,.one (.int .i64 0)),(3,.one (.int .i64 (Fi a y.1))),(4,.one (.int .i64 y.1))],[],1,26⟩) (fun y=>n-y.1) ⟨0,O2 _⟩ ?_ (fun⟨i,hi⟩=>?_)
 ·refine Sa ?_;simp only[ry,seval,rz,ao,Fi]
 simp only;have wi:=wI i (by omega);simp only[vx,T,seval,ao];refine⟨fun g=>Lg ?_,fun g=>Lg ?_⟩
 ·have Tb:i<n:=by omega
  simp only[vx,T,seval,ao,bC,tC,ag];refine⟨by omega,?_⟩;refine⟨fun g2=>Lg ?_,fun g2=>Lg ?_⟩
  ·have e:Fi a (i+1)=(a i).1.length:=if_pos (by omega);simp only[vx,T,seval,ao,bC,tC,ag,wi];refine⟨by omega,Lq ⟨i+1,by omega⟩ ?_ (by show n-(i+1)<n-i;omega)⟩;refine Sa ?_;simp only[ry,seval,rz,ao,e]
  have e:Fi a (i+1)=Fi a i:=if_neg (by omega);simp only[vx,T,seval,ao,wi];refine Lq ⟨i+1,by omega⟩ ?_ (by show n-(i+1)<n-i;omega);refine Sa ?_;simp only[ry,seval,rz,ao,e]
 obtain rfl:i=n:=by omega
 simp only[vx,T,seval,ao];exact Ve rfl
open Go Go.Eng
open Go.Tw (El)
def fp (s:Nat):Nat:=1+s%12
def xN (r w:Nat):Nat:=if r=0 then 0 else w
def yT (n:Nat)(a:Nat→Nb)(cs:List Int)(w i j:Nat):Nb:=HH n a (cs.getD (i*w+j) 0).toNat
theorem F6 {n:Nat}(a:Nat→Nb)(oc:C)(cs:List Int)(s most:Nat)(hn:n<2^30)(hs:s<256)(Th:∀i,i<cs.length→0≤cs.getD i 0∧cs.getD i 0<256)(hl:cs.length<2^63)(hm:most≤100)
  (cb:Pr prog 31 [.one oc] (.one (ao n a))) (ca:Pr prog 32 [.one (ao n a)] (.one (.bool true))) (ho:∃n f,oc= .rows 5 n f) {R:V} (h1:most<cs.length→R= .aB [.one .nil,.one (.bool false)])
  (h2:cs.length≤most→R= .aB [.one (aq (cs.length/fp s) (fun _=>xN (cs.length/fp s) (fp s)) (yT n a cs (fp s))),.one (.bool (decide ((Fi a n:Int)≤2)))]):
  Pr prog 5 [.agg [oc,.ints .u8 cs,.int .u8 s],.one (.int .i64 most)] R:=by
 obtain⟨no,fo,rfl⟩:=ho;have cg:=GZ a hn;refine pw func5 ⟨[0,1,2,4,5,6,7,8,9,10,11,29,36,42],[]⟩ ?_;simp only[Tryz.f5,ntmps5,iz,seval];simp only[vx,T,seval,ao];refine Cg cb ?_;have ew:IntKind.i64.wrap (1+(IntKind.i64.wrap (s:Int)).tmod 12)=((fp s:Nat):Int):=by
  rw[Q4 (s:Int) (by omega),show (s:Int).tmod 12=((s%12:Nat):Int)from rfl]
  have:=Nat.mod_lt s (show 0<12 by decide)
  rw[Q4 _ (by omega)];unfold fp;omega
 have w1:1≤fp s∧fp s≤12:=by
  have:=Nat.mod_lt s (show 0<12 by decide)
  unfold fp;omega
 generalize fp s=w at ew w1 h2
 simp only[vx,T,seval,ao,ew];refine Cg ca ?_;simp only[vx,T,seval,ao,ew];refine⟨fun g=>Lg ?_,fun g=>Lg ?_⟩
 ·have e:=h1 (by omega);simp only[vx,T,seval];exact Ve e.symm
 have e:=h2 (by omega);simp only[vx,T,seval];have hdv:=Nat.div_mul_le_self cs.length w;refine Lk (fun y:{q:Nat//q≤cs.length/w}=>⟨[(2,.one (.ptr 1 0)),(4,.one .nil),(5,.one (.bool false)),(6,.one (ao n a)),(7,.one (.int .i64 w)),(8,.one (.own 2 1 0 y.1)),(9,.one (.int .i64 (y.1*w:Nat)))],
  [(1,⟨.var [.rows 5 no fo,.ints .u8 cs,.int .u8 s],true⟩),(2,⟨.rows 38 1 y.1 (fun i _=>ao w (yT n a cs w i)),true⟩)],3,66⟩) (fun y=>cs.length/w-y.1) ⟨0,O2 _⟩ ?_ (fun⟨q,hq⟩=>?_)
 ·refine Sa ?_;simp only[ry,seval,rz,ao,Nat.zero_mul]
 simp only;have wa:IntKind.i64.wrap (((q*w:Nat):Int)+(w:Int))=(((q+1)*w:Nat):Int):=by
  have:q*w≤cs.length:=O0 (O8 _ hq) hdv
  rw[Nat.add_mul,Nat.one_mul,Q4 _ (by omega)];omega
 simp only[vx,T,seval,ao,wa];refine⟨fun g1=>Lg ?_,fun g1=>Lg ?_⟩
 ·have Vt:q<cs.length/w:=by
   have:(q+1)*w≤cs.length:=by omega
   exact(Nat.le_div_iff_mul_le (by omega)).2 this
  have hqw:q*w+w≤cs.length:=by
   have:(q+1)*w≤cs.length:=by omega
   rw[Nat.add_mul,Nat.one_mul]at this;exact this
  simp only[vx,T,seval,ao];refine Lk (fun y:{j:Nat//j≤w}=>⟨[(2,.one (.ptr 1 0)),(4,.one .nil),(5,.one (.bool false)),(6,.one (ao n a)),(7,.one (.int .i64 w)),(8,.one (.own 2 1 0 q)),(9,.one (.int .i64 (q*w:Nat))),(10,.one (.own 3 2 0 y.1)),(11,.one (.int .i64 y.1))],
   [(1,⟨.var [.rows 5 no fo,.ints .u8 cs,.int .u8 s],true⟩),(2,⟨.rows 38 1 q (fun i _=>ao w (yT n a cs w i)),true⟩),(3,⟨.rows 56 2 y.1 (fun j=>bC (yT n a cs w q j)),true⟩)],4,66⟩) (fun y=>w-y.1) ⟨0,O2 _⟩ ?_ (fun⟨j,hj⟩=>?_)
  ·refine Sa ?_;simp only[ry,seval,rz,ao]
  simp only;have wj:=wI j (by omega);simp only[vx,T,seval,ao];refine⟨fun g2=>Lg ?_,fun g2=>Lg ?_⟩
  ·have hjw:j<w:=by omega
   have wq:IntKind.i64.wrap (((q*w:Nat):Int)+(j:Int))=((q*w+j:Nat):Int):=by rw[Q4 _ (by omega)];omega
   obtain⟨b1,b2⟩:=Th (q*w+j) (by omega);obtain⟨v,hv⟩:∃v:Nat,cs.getD (q*w+j) 0=v:=⟨(cs.getD (q*w+j) 0).toNat,by omega⟩;have wv:IntKind.i64.wrap (v:Int)=(v:Int):=Q4 _ (by omega);have hc:=Ri a v hn (by omega);have ev:yT n a cs w q j=HH n a v:=by unfold yT;rw[hv];rfl
   simp only[vx,T,seval,ao,wq,hv,wv];refine⟨by omega,Cg hc ?_⟩;simp only[vx,T,seval,nX,nV,tC,ag,wj];refine⟨⟨by omega,by omega⟩,Lq ⟨j+1,by omega⟩ ?_ (by show w-(j+1)<w-j;omega)⟩;refine Sa ?_;simp only[ry,seval,rz,ao,tC,ag];have s:=wV (yT n a cs w q) j;rw[ev]at s;exact s
  obtain rfl:w=j:=by omega
  have hq1:q<2^40:=by
   have:=Nat.le_mul_of_pos_right q (show 0<w by omega)
   omega
  simp only[vx,T,seval,ao,wa];refine⟨⟨by omega,by omega⟩,Lq ⟨q+1,by omega⟩ ?_ (by show cs.length/w-(q+1)<cs.length/w-q;omega)⟩;refine Sa ?_;simp only[ry,seval,rz,ao];exact DF (fun i=>ao w (yT n a cs w i)) q
 obtain rfl:cs.length/w=q:=by
  refine Nat.le_antisymm (Nat.le_of_lt_succ ((Nat.div_lt_iff_lt_mul (by omega)).2 (show cs.length<(q+1)*w by omega))) hq
 simp only[vx,T,seval,ao];refine Cg cg ?_;simp only[vx,T,seval,ao];rw[e];exact fR.aB ⟨.cell (dH.rows rfl fun i j hi hj=>.of_eq (by unfold xN ao;rw[if_neg (by omega)])),.refl _,trivial⟩
open Go Go.Eng
open Go.Tw (El ax TG bI iu)
open Go.Mx (sm iv iO red mz free)
theorem xS {A:List R}{w:Nat}(hw:Go.Tw.kp A≤w)(h1:1≤w){x:List El×El}{v:R}(h:bI A 64 x.1 x.2 v)(h2:x.1.length≤2):ax A x.1 x.2 v (300*w-1) (3*w):=by
 have k:=ax.short h.tg h.len h.bits;rw[h.val]at k;have h4:2^x.1.length≤2^2:=O3 (by decide) h2
 have:=Nat.mul_le_mul hw (show 2^x.1.length-1≤3 by omega)
 exact k.mono (by omega) (by omega)
theorem JD {A:List R}(hV:Go.Tw.dV A){x:List El×El}{v:R}(h:bI A 64 x.1 x.2 v)(h2:x.1.length≤2):ax A x.1 x.2 v (300*1-1) (3*1):=xS (Nat.le_of_eq (Go.Tw.oL hV)) (O1 1) h h2
theorem IJ (a:Nat→Nb):∀{n i:Nat},i<n→(a i).1.length≤Fi a n
 |n+1,i,h=>by
  unfold Fi
  by_cases e:i=n
  ·subst e
   split<;>omega
  have:=IJ a (show i<n by omega)
  split<;>omega
def BF (r:List Dh):C:=.rows 5 r.length (fun i=>oC (r.getD i default))
theorem Pg (l:List (List El×El))(hl:l.length<2^38)(h:∀i,i<l.length→Pr prog 69 [nX (l.getD i default)] (.one (.bool true))):Pr prog 32 [.one (bP l)] (.one (.bool true)):=by
 refine pw func32 ⟨[0,2,3,7,15],[]⟩ ?_;simp only[Tryz.f32,ntmps32,iz,seval];simp only[vx,T,seval,bP];refine Lk (fun y:{i:Nat//i≤l.length}=>⟨[(0,.one (bP l)),(2,.one (.bool false)),(3,.one (.int .i64 y.1))],[],1,16⟩) (fun y=>l.length-y.1) ⟨0,O2 _⟩ ?_ (fun⟨i,hi⟩=>?_)
 ·refine Sa ?_;simp only[ry,seval,rz,bP]
 simp only;have wi:=wI i (by omega);simp only[vx,T,seval,bP];refine⟨fun g=>Lg ?_,fun g=>Lg ?_⟩
 ·have c:=h i (by omega);obtain⟨x,hx⟩:∃x,x=l.getD i default:=⟨_,rfl⟩;rw[←hx]at c;simp only[vx,T,seval,bP,eZ,←hx,bC];refine⟨by omega,Cg c ?_⟩;simp only[vx,T,seval,bP,wi];refine Lq ⟨i+1,by omega⟩ ?_ (by show l.length-(i+1)<l.length-i;omega);refine Sa ?_;simp only[ry,seval,rz,bP]
 simp only[vx,T,seval,bP];exact Ve rfl
theorem yF {A:List R}(S:Go.Tw.Src 64 A)(hA:Go.Tw.oF A){x:List El×El}{v:R}(h:bI A 64 x.1 x.2 v):Pr prog 69 [nX x] (.one (.bool true)):=by
 have h3:=h.tg.my hA;have key:∀{a:El},Go.Tw.iu 64 a→∀i,i<a.length→¬ny 6 (a.getD i default):=fun{a} hb i hi hq=>by
  have hm:=hb (a.getD i default) (by rw[X7,X8 hi];exact List.getElem_mem _)
  have:=Go.Tw.tc hm.1 hm.2
  unfold ny at hq;unfold qm at this;omega
 refine KA x (by rw[h.len];exact aN (by omega)) (by omega) (fun j hj=>by rw[(h.tg.rd.rl j hj).1];exact aN (by omega)) ⟨fun e=>(by cases e),fun hl=>?_⟩
 rcases hl with⟨i,h1,h2⟩|⟨j,h1,i,h2,h3⟩
 ·exact absurd h2 (key h.bits i h1)
 exact absurd h3 (key (h.tb j h1) i h2)
section
variable {A:List R}(S:Go.Tw.Src 64 A)(hA:Go.Tw.oF A)
include S hA
theorem u6 {r c:Nat}(K L:Nat→Nat→Nu A)(hr:r<2^38)(hc:c<2^38)(h:∀i j,i<r→j<c→(K i j).v=(L i j).v∧(K i j).w≤wA∧(L i j).w≤wB):
  Pr prog 8 [.one (dj r (fun _=>c) K),.one (dj r (fun _=>c) L)] (.one (.bool true)):=by
 have cg:=FD S hA (fun _=>c) K hr (fun _ _=>hc) fun i j hi hj=>(h i j hi hj).2.1;have ce:=s9 S hA (n:=r) (n':=r) (fun _=>c) (fun _=>c) K L hr (fun _ _=>hc) (fun _ i j hi _ hj=>⟨(h i j hi hj).2.1,(h i j hi hj).2.2,.inl (h i j hi hj).1⟩) (r:=true) (by simp;exact fun i hi j hj=>(h i j hi hj).1);refine pw func8 ⟨[0,1,4],[]⟩ ?_;simp only[Tryz.f8,ntmps8,iz,seval];simp only[vx,T,seval,dj,aq];refine Cg cg ?_;simp only[vx,T,seval,dj,aq];refine Cg ce ?_;simp only[vx,T,seval,dj,aq];exact Ve rfl
end
open Go Go.Eng
open Go.Tw (El ax TG bI iu Ra)
theorem MN (r:List Dh)(hr:∀o∈r,o.Ok)(WA:r.length<2^63):∃(A:List R) (n:Nat) (a:Nat→Nb),Go.Tw.Src 64 A∧A.length≤3∧n≤24∧Pr prog 31 [.one (BF r)] (.one (ao n a))∧
  Pr prog 32 [.one (ao n a)] (.one (.bool true))∧∀v,∃w,bI A 64 (HH n a v).1 (HH n a v).2 w:=by
 obtain⟨A,l,S,hA,hl,hs,cb⟩:=KB r hr WA;have get:∀i,i<l.length→∃v,bI A 64 (l.getD i default).1 (l.getD i default).2 v:=fun i hi=>hs _ (by rw[X7,X8 hi];exact List.getElem_mem _);refine⟨A,l.length,fun i=>l.getD i default,S,hA,hl,cb,Pg l (by omega) fun i hi=>?_,fun v=>?_⟩
 ·obtain⟨v,hv⟩:=get i hi;exact yF S (.inl hA) hv
 by_cases h0:l.length=0
 ·rw[show HH l.length (fun i=>l.getD i default) v=u9 0 from if_pos h0];exact⟨_,lO (n:=0) (d:=1) (by decide) (by decide) (by decide)⟩
 rw[show HH l.length (fun i=>l.getD i default) v=_ from if_neg h0];exact get _ (Nat.mod_lt v (by omega))
end Go.Proofs.YtehahgjkjfoebaaGreat
namespace Go.Mx
open Go Go.R
theorem Rm (x:Rat):iv (q x)=q x⁻¹:=by
 by_cases h:x=0
 ·subst h;unfold iv;rw[dif_neg (by simp)];exact congrArg q (by decide+kernel)
 have h0:q x≠q 0:=fun e=>h (j3 e);refine jw (z:=q x) ?_ h0;rw[mul_comm,rN h0,←dg,Rat.inv_mul_cancel x h]
abbrev Mq:=Nat→Nat→Rat
def H9 (M:Mq)(k:Nat):Nat→Nat→Nat
 |0,p=>p
 |n+1,p=>if M p k=0 then H9 M k n (p+1)else p
def NK (M:Mq)(a b:Nat):Mq:=fun i=>if i=a then M b else if i=b then M a else M i
def N6 (M:Mq)(t k:Nat):Mq:=fun i j=>if i=t then M t j*(M t k)⁻¹ else M i j-M t j*(M t k)⁻¹*M i k
def JJ (r k:Nat)(s:Mq×List Nat):Mq×List Nat:=
 if H9 s.1 k (r-s.2.length) s.2.length<r then(N6 (NK s.1 s.2.length (H9 s.1 k (r-s.2.length) s.2.length)) s.2.length k,s.2++[k])else s
def Ba (r:Nat)(M:Mq):Nat→Mq×List Nat
 |0=>(M,[])
 |k+1=>JJ r k (Ba r M k)
def qM (M:Mq):Mt:=fun i j=>q (M i j)
theorem MR (M:Mq)(k:Nat):∀n p,ow (qM M) k n p=H9 M k n p
 |0,_=>rfl
 |n+1,p=>by
  unfold ow H9;rw[MR M k n (p+1)]
  by_cases h:M p k=0
  ·rw[if_pos h,if_pos (show qM M p k=q 0 by unfold qM;rw[h])]
  rw[if_neg h,if_neg (show qM M p k≠q 0 from fun e=>h (j3 e))]
theorem PQ (M:Mq)(a b:Nat):uj (qM M) a b=qM (NK M a b):=by
 funext i j
 unfold uj NK qM
 by_cases h1:i=a
 ·simp only[if_pos h1]
 by_cases h2:i=b
 ·simp only[if_neg h1,if_pos h2]
 simp only[if_neg h1,if_neg h2]
theorem Qg (M:Mq)(t k:Nat):jT (qM M) t k=qM (N6 M t k):=by
 funext i j
 unfold jT N6 qM;simp only[Rm]
 by_cases h:i=t
 ·simp only[if_pos h,dg]
 simp only[if_neg h,Rat.sub_eq_add_neg,wF,vR,dg];rfl
theorem MG (r:Nat)(M:Mq):∀k,red r (qM M) k=(qM (Ba r M k).1,(Ba r M k).2)
 |0=>rfl
 |k+1=>by
  rw[red,MG r M k];unfold ov;show _=(qM (JJ r k (Ba r M k)).1,(JJ r k (Ba r M k)).2);unfold JJ;simp only[MR]
  split
  ·rw[PQ,Qg]
  rfl
end Go.Mx
namespace Go.Mx
open Go Go.R
theorem OB (M:Mt)(a:Nat):uj M a a=M:=by
 funext i
 unfold uj
 by_cases h:i=a
 ·rw[if_pos h,h]
 rw[if_neg h,if_neg h]
theorem Gw {r k:Nat}{s:Mt×List Nat}(h:s.2.length<r)(h0:s.1 s.2.length k≠q 0):ov r k s=(jT s.1 s.2.length k,s.2++[k]):=by
 have e:ow s.1 k (r-s.2.length) s.2.length=s.2.length:=by
  obtain⟨n,hn⟩:∃n,r-s.2.length=n+1:=⟨r-s.2.length-1,by omega⟩;rw[hn];unfold ow;rw[if_neg h0]
 unfold ov;rw[e,if_pos h,OB]
theorem AG {r k:Nat}{s:Mt×List Nat}(h:s.2.length=r):ov r k s=s:=by
 unfold ov;rw[h,Nat.sub_self];unfold ow;rw[if_neg (Nat.lt_irrefl r)]
theorem OT:iv (q 1)=q 1:=by
 refine jw (z:=q 1) ?_ iD;rw[mul_comm,rN iD,mul_one]
theorem Gj {s:R}(hs:s≠q 0){M:Mt}(h00:M 0 0=s)(h01:M 0 1=q 0)(h02:M 0 2=q 1)(h03:M 0 3=q 0)(U1:M 1 0=q 0)(XO:M 1 1=q 1)(V5:M 1 2=q 0)(h13:M 1 3=q 1):
  (red 2 M 4).2=[0,1]∧(red 2 M 4).1 0 2=iv s∧(red 2 M 4).1 0 3=q 0∧(red 2 M 4).1 1 2=q 0∧(red 2 M 4).1 1 3=q 1:=by
 have e1:red 2 M 1=(jT M 0 0,[0]):=Gw (s:=(M,[])) (by show 0<2;decide) (by show M 0 0≠q 0;rw[h00];exact hs);have n0:∀j,jT M 0 0 0 j=M 0 j*iv s:=fun j=>by unfold jT;rw[if_pos rfl,h00]
 have n1:∀j,jT M 0 0 1 j=M 1 j:=fun j=>by unfold jT;rw[if_neg (by decide),U1,mul_zero,sub_zero]
 have e2:red 2 M 2=(jT (jT M 0 0) 1 1,[0,1]):=by
  show ov 2 1 (red 2 M 1)=_;rw[e1];exact Gw (s:=(jT M 0 0,[0])) (by show 1<2;decide) (by show jT M 0 0 1 1≠q 0;rw[n1,XO];exact iD)
 have e4:red 2 M 4=(jT (jT M 0 0) 1 1,[0,1]):=by
  show ov 2 3 (ov 2 2 (red 2 M 2))=_;rw[e2,AG (r:=2) (s:=(jT (jT M 0 0) 1 1,[0,1])) rfl,AG (r:=2) (s:=(jT (jT M 0 0) 1 1,[0,1])) rfl]
 have m0:∀j,jT (jT M 0 0) 1 1 0 j=M 0 j*iv s:=fun j=>by
  have:jT (jT M 0 0) 1 1 0 j=jT M 0 0 0 j-jT M 0 0 1 j*iv (jT M 0 0 1 1)*jT M 0 0 0 1:=if_neg (by decide)
  rw[this,n0,n0 1,h01,zero_mul,mul_zero,sub_zero]
 have m1:∀j,jT (jT M 0 0) 1 1 1 j=M 1 j:=fun j=>by
  have:jT (jT M 0 0) 1 1 1 j=jT M 0 0 1 j*iv (jT M 0 0 1 1):=if_pos rfl
  rw[this,n1,n1,XO,OT,mul_one]
 rw[e4];exact⟨rfl,(m0 2).trans (by rw[h02,one_mul]),(m0 3).trans (by rw[h03,zero_mul]),(m1 2).trans V5,(m1 3).trans h13⟩
end Go.Mx
namespace Go.Proofs.YtehahgjkjfoebaaGreat
open Go.Proofs.Tryz
open Go Go.Eng
open Go.Tw (El ax TG)
open Go.Mx (sm iv iO red mz Ba)
def vf (l:List (List Int))(i j:Nat):Int:=(l.getD i []).getD j 0
abbrev Qa (r c:Nat)(l:List (List Int)):Prop:=∀i,i<r→∀j,j<c→(vf l i j).natAbs<2^60
section
variable {A:List R}
def iN (A:List R)(l:List (List Int))(i j:Nat):Nu A:=if h:(vf l i j).natAbs<2^60 then Nu.int A (vf l i j) h else Nu.int A 0
theorem Rn {l:List (List Int)}{i j:Nat}(h:(vf l i j).natAbs<2^60):(iN A l i j).x=u9 (vf l i j):=by unfold iN;rw[dif_pos h];rfl
theorem It {l:List (List Int)}{i j:Nat}(h:(vf l i j).natAbs<2^60):(iN A l i j).v=R.q (Rat.ofInt (vf l i j)):=by unfold iN;rw[dif_pos h];rfl
theorem yc (l:List (List Int))(i j:Nat):(iN A l i j).w=1:=by unfold iN;split<;>rfl
theorem rL {c:Nat}(a:List Int){l:List (List Int)}{i:Nat}(h:∀j,j<c→a.getD j 0=vf l i j∧(vf l i j).natAbs<2^60):dH (ao c (vC a)) (ao c (fun j=>(iN A l i j).x)):=
 dH.rows rfl fun j k hj _=>.of_eq (by show bC (u9 (a.getD j 0)) k=bC (iN A l i j).x k;rw[Rn (h j hj).2,(h j hj).1])
theorem IS {r c:Nat}(M:Nat→Nat→Nu A)(l n:List (List Int))(p:List Nat)(hM:∀i j,i<r→j<c→(M i j).v=R.q (Rat.ofInt (vf l i j)))
  (h:(Ba r (fun i j=>Rat.ofInt (vf l i j)) c).2=p∧∀i,i<r→∀j,j<c→(Ba r (fun i j=>Rat.ofInt (vf l i j)) c).1 i j=Rat.ofInt (vf n i j)):
  (red r (vM M) c).2=p∧∀i j,i<r→j<c→(red r (vM M) c).1 i j=R.q (Rat.ofInt (vf n i j)):=by
 obtain⟨h1,h2⟩:=Go.Mx.EF (M:=vM M) (N:=Go.Mx.qM fun i j=>Rat.ofInt (vf l i j)) (r:=r) (c:=c) (fun i j hi hj=>hM i j hi hj) c (O1 c);rw[Go.Mx.MG]at h1 h2;refine⟨h2.trans h.1,fun i j hi hj=>(h1 i j hi hj).trans ?_⟩;show R.q _=_;rw[h.2 i hi j hj]
def RM (a:List Int):C:=.rows 1 1 (fun i j=>[ao 2 (vC a)].getD (i*1+j) .any)
def QR (a b:List Int):C:=.rows 1 2 (fun i j=>[ao 2 (vC a),ao 2 (vC b)].getD (i*1+j) .any)
theorem I7 {a:List Int}(h:Qa 1 2 [a]):dH (RM a) (dj 1 (fun _=>2) (iN A [a])):=
 dH.rows rfl fun i j hi hj=>by
  obtain rfl:i=0:=by omega
  obtain rfl:j=0:=by omega
  exact rL a fun j hj=>⟨rfl,h 0 (by decide) j hj⟩
theorem xE {a b:List Int}(h:Qa 2 2 [a,b]):dH (QR a b) (dj 2 (fun _=>2) (iN A [a,b])):=
 dH.rows rfl fun i j hi hj=>by
  obtain rfl:j=0:=by omega
  match i,hi with
  |0,_=>exact rL a fun j hj=>⟨rfl,h 0 (by decide) j hj⟩
  |1,_=>exact rL b fun j hj=>⟨rfl,h 1 (by decide) j hj⟩
def RC (a b:Nb):C:=.rows 2 2 (fun i j=>[tC a.1.length a.1,ag a.2,tC b.1.length b.1,ag b.2].getD (i*2+j) .any)
def inv2 (x:Nb):C:=.rows 1 2 (fun i j=>[RC x (u9 0),ao 2 (vC [0,1])].getD (i*1+j) .any)
def vz (a:Nu A)(i j:Nat):Nu A:=if i=0∧j=0 then a else iN A [[0,0],[0,1]] i j
def uy (a:Nu A)(i j:Nat):Nu A:=if j<2 then vz a i j else Me A i (j-2)
theorem EI (a:Nu A):dH (inv2 a.x) (dj 2 (fun _=>2) (vz a)):=
 dH.rows rfl fun i j hi hj=>by
  obtain rfl:j=0:=by omega
  match i,hi with
  |0,_=>
   exact dH.rows rfl fun k l hk hl=>by
    match k,hk,l,hl with
    |0,_,0,_=>exact .refl _
    |0,_,1,_=>exact .refl _
    |1,_,0,_=>exact .refl _
    |1,_,1,_=>exact .refl _
  |1,_=>exact rL (A:=A) (c:=2) [0,1] (l:=[[0,0],[0,1]]) (i:=1) (by decide)
def Eo:List (List Int):=[[1,2],[2,4]]
theorem Gx:Qa 2 2 Eo:=by decide
theorem yL {M:Nat→Nat→Nu A}(hM:∀i j,i<2→j<2→(M i j).v=R.q (Rat.ofInt (vf Eo i j))):(red 2 (vM M) 2).2=[0]∧∀i j,i<2→j<2→(red 2 (vM M) 2).1 i j=R.q (Rat.ofInt (vf [[1,2],[0,0]] i j)):=
 IS M Eo _ _ hM (by decide+kernel)
theorem M5:∀i j,i<2→j<2→(iN A Eo i j).v=R.q (Rat.ofInt (vf Eo i j)):=fun i j hi hj=>It (Gx i hi j hj)
theorem Rc {a:Nu A}{n:Nat}(h:a.w≤4^n)(hn:n≤4):a.w≤wA:=O0 h (O0 (O3 (by decide) hn) (by decide))
variable (S:Go.Tw.Src 64 A)(hA:Go.Tw.dV A)
include S hA
theorem GA {r c:Nat}(X Y:Nat→Nat→Nu A)(hr:r<2^38)(hc:c<2^38)(h:∀i j,i<r→j<c→(X i j).v=(Y i j).v∧(X i j).w≤wA∧(Y i j).w≤wB):
  Pr prog 11 [.one (dj r (fun _=>c) X),.one (dj r (fun _=>c) Y)] (.one (.bool true)):=
 s9 S hA (n:=r) (n':=r) (fun _=>c) (fun _=>c) X Y hr (fun _ _=>hc) (fun _ i j hi _ hj=>⟨(h i j hi hj).2.1,(h i j hi hj).2.2,.inl (h i j hi hj).1⟩) (by simp;exact fun i hi j hj=>(h i j hi hj).1)
theorem HJ:∃X:Nat→Nat→Nu A,Pr prog 20 [.one (QR [1,2] [2,4])] (.aB [.one (dj 2 (fun _=>2) X),.one (.ints .i64 [0]),.one (.int .i64 0)])∧
  Pr prog 11 [.one (dj 2 (fun _=>2) X),.one (QR [1,2] [0,0])] (.one (.bool true)):=by
 obtain⟨e1,e2⟩:=yL (A:=A) M5;obtain⟨X,d,x1,x2,x3⟩:=tX S hA (r:=2) (c:=2) (iN A Eo) (by decide) (by decide) (by decide) (by omega) (fun i j _ _=>by rw[yc];exact O1 1) (by omega);have c:=Kt (r:=2) (c:=2) (fun i j=>(iN A Eo i j).x) (fun i j=>(X i j).x) _ _ _ (by decide) x3 ⟨_,_,rfl⟩ ⟨_,_,rfl⟩;rw[e1]at c x2;refine⟨X,c.L5 (fR.cell (xE Gx)),(GA S hA (r:=2) (c:=2) X (iN A [[1,2],[0,0]]) (by decide) (by decide) fun i j hi hj=>⟨?_,Rc (x2 i j hi hj) (by decide),by rw[yc];decide⟩).uq (.refl _) (xE (by decide))⟩;rw[It ((show Qa 2 2 [[1,2],[0,0]] by decide) i hi j hj)];exact(x1 i j hi hj).trans (e2 i j hi hj)
theorem Gy:∃X:Nat→Nat→Nu A,Pr prog 21 [.one (QR [1,2] [2,4])] (.aB [.one (dj 1 (fun _=>2) X),.one (.int .i64 0)])∧
  Pr prog 11 [.one (dj 1 (fun _=>2) X),.one (RM [-2,1])] (.one (.bool true)):=by
 obtain⟨e1,e2⟩:=yL (A:=A) M5;obtain⟨X,x1,x2⟩:=Jj S hA (r:=2) (c:=2) (iN A Eo) (by decide) (by decide) (by decide) (by omega) (fun i j _ _=>by rw[yc];exact O1 1) (by omega);unfold Rb at x1;rw[e1]at x1 x2;refine⟨X,x2.L5 (fR.cell (xE Gx)),(GA S hA (r:=1) (c:=2) X (iN A [[-2,1]]) (by decide) (by decide) fun i j hi hj=>⟨?_,Rc (x1 i j hi).2 (by decide),by rw[yc];decide⟩).uq (.refl _) (I7 (by decide))⟩;rw[It ((show Qa 1 2 [[-2,1]] by decide) i hi j hj),(x1 i j hi).1];obtain rfl:i=0:=by omega
 match j,hj with
 |0,_=>
  show-((red 2 (vM (iN A Eo)) 2).1 0 1)=_
  rw[e2 0 1 (by decide) (by decide),←R.vR];exact congrArg R.q (by decide+kernel)
 |1,_=>rfl
theorem Om:Pr prog 22 [.one (QR [1,2] [2,4])] (.aB [.one (.ints .i64 [0]),.one (.int .i64 0)]):=by
 have hM:∀i j,i<2→j<2→(iN A Eo j i).v=R.q (Rat.ofInt (vf Eo i j)):=fun i j hi hj=>by
  rw[It (Gx j hj i hi)]
  match i,hi,j,hj with
  |0,_,0,_=>rfl
  |0,_,1,_=>rfl
  |1,_,0,_=>rfl
  |1,_,1,_=>rfl
 obtain⟨e1,e2⟩:=yL (A:=A) (M:=fun i j=>iN A Eo j i) hM;obtain⟨X,d,x1,x2,x3⟩:=tX S hA (r:=2) (c:=2) (fun i j=>iN A Eo j i) (by decide) (by decide) (by decide) (by omega) (fun i j _ _=>by rw[yc];exact O1 1) (by omega);have c:=Qm (r:=2) (c:=2) (fun i j=>(iN A Eo i j).x) (fun i j=>(X i j).x) _ _ _ (by decide) (by decide) (by omega) x3 ⟨_,_,rfl⟩ ⟨_,_,rfl⟩;rw[e1]at c;exact c.L5 (fR.cell (xE Gx))
theorem Mo:∃X:Nat→Nu A,Pr prog 29 [.one (RM [1,1]),.one (ao 1 (vC [5]))] (.aB [.one (v8 2 X),.one (.int .i64 0)])∧
  Pr prog 18 [.one (v8 2 X),.one (ao 2 (vC [5,0]))] (.one (.bool true)):=by
 have hM:∀i j,i<1→j<3→(oQ 2 (iN A [[1,1]]) (fun j=>iN A [[5]] 0 j) i j).v=R.q (Rat.ofInt (vf [[1,1,5]] i j)):=fun i j hi hj=>by
  obtain rfl:i=0:=by omega
  match j,hj with
  |0,_=>rfl
  |1,_=>rfl
  |2,_=>rfl
 obtain⟨e1,e2⟩:=IS (r:=1) (c:=3) (oQ 2 (iN A [[1,1]]) (fun j=>iN A [[5]] 0 j)) [[1,1,5]] [[1,1,5]] [0] hM (by decide+kernel)
 obtain⟨X,x1,_,x3⟩:=L2 S hA (r:=1) (c:=2) (iN A [[1,1]]) (fun j=>iN A [[5]] 0 j) (by decide) (by decide) (by decide) (by omega) (fun i j _ _=>by unfold oQ;split<;>rw [yc]<;>exact O1 1) (by omega)
 unfold Rf at x1;rw[show 2+dR 1=3 from rfl,e1]at x1 x3;have c:=x3 (by decide);have hv:∀j,j<2→(X j).v=(iN A [[5,0]] 0 j).v:=fun j hj=>by
  rw[(x1 j).1]
  match j,hj with
  |0,_=>exact(e2 0 2 (by decide) (by decide)).trans rfl
  |1,_=>rfl
 exact⟨X,c.uq (I7 (by decide)) (rL [5] (l:=[[5]]) (i:=0) (by decide)),(Dp S hA (n:=2) (n':=2) X (fun j=>iN A [[5,0]] 0 j) (by decide) (fun _ i hi=>⟨Rc (x1 i).2 (by decide),by rw[yc];decide,.inl (hv i hi)⟩) (by simp;exact hv)).uq (.refl _) (rL [5,0] (l:=[[5,0]]) (i:=0) (by decide))⟩
theorem P4 {s:Nu A}(hs:s.v*s.v=R.q 2)(hw:s.w≤1):∃(half:Nu A) (X:Nat→Nat→Nu A),Pr prog 25 [nX s.x,nX ([],[mkRat 1 2])] (.aB [nX half.x,.one (.int .i64 0)])∧
  Pr prog 28 [.one (inv2 s.x)] (.aB [.one (dj 2 (fun _=>2) X),.one (.int .i64 0)])∧Pr prog 11 [.one (dj 2 (fun _=>2) X),.one (inv2 half.x)] (.one (.bool true)):=by
 have YB:s.v≠R.q 0:=fun e=>by
  rw[e,R.zero_mul]at hs;exact absurd (R.j3 hs) (by decide)
 have hf:Go.Tw.bI A 64 [] [mkRat 1 2] (R.q (mkRat 1 2)):=lO (n:=1) (d:=2) (by decide) (by decide) (by decide);obtain⟨half,v1,w1,c1⟩:=EE S hA (a:=s) (b:=⟨([],[mkRat 1 2]),_,1,O1 1,JD hA (x:=([],[mkRat 1 2])) hf (by decide)⟩) (O0 hw (by decide)) (show 1≤3400 by decide);have hv:half.v=iv s.v:=xU (by rw[v1,←R.mul_assoc,hs,←R.dg];exact congrArg R.q (by decide+kernel));have hM:∀i j,(uy s i j).x=if j<2 then(vz s i j).x else zc i (j-2):=fun i j=>by
  unfold uy
  split
  ·rfl
  exact MJ i (j-2)
 have hW:∀i j,i<2→j<4→(uy s i j).w≤1:=fun i j _ _=>by
  unfold uy vz Me
  split
  ·split
   ·exact hw
   rw[yc];exact O1 1
  split<;>exact O1 1
 obtain⟨X,d,x1,x2,x3⟩:=tX S hA (r:=2) (c:=4) (uy s) (by decide) (by decide) (by decide) (by omega) hW (by omega);obtain⟨e1,e2,e3,e4,e5⟩:=Go.Mx.Gj (M:=vM (uy s)) YB rfl rfl rfl rfl rfl rfl rfl rfl;have hpv:∀i,i<2→i<(red 2 (vM (uy s)) 4).2.length∧(red 2 (vM (uy s)) 4).2.getD i 0=i:=by rw[e1];decide
 have em:dj 2 (fun _=>4) (uy s)=aq 2 (fun _=>2+2) fun i j=>if j<2 then(vz s i j).x else zc i (j-2):=
  congrArg (aq 2 (fun _=>4)) (funext fun i=>funext fun j=>hM i j)
 rw[em]at x3;have c2:=Gl (n:=2) (fun i j=>(vz s i j).x) (fun i j=>(X i j).x) (red 2 (vM (uy s)) 4).2 _ _ (by decide) x3 ⟨_,_,rfl⟩ ⟨_,_,rfl⟩ hpv;rw[e1]at x2;clear hpv x3
 generalize(red 2 (vM (uy s)) 4).1=N at x1 e2 e3 e4 e5
 refine⟨half,fun i j=>X i (2+j),c1,c2.L5 (fR.cell (EI s)),(GA S hA (r:=2) (c:=2) (fun i j=>X i (2+j)) (vz half) (by decide) (by decide) fun i j hi hj=>⟨?_,Rc (x2 i (2+j) hi (by omega)) (by decide),?_⟩).uq (.refl _) (EI half)⟩
 ·refine(x1 i (2+j) hi (by omega)).trans ?_
  have i0:(vz half 0 0).v=half.v:=congrArg Nu.v (if_pos ⟨rfl,rfl⟩);have i1:∀i j,¬(i=0∧j=0)→(vf [[0,0],[0,1]] i j).natAbs<2^60→(vz half i j).v=R.q (Rat.ofInt (vf [[0,0],[0,1]] i j)):=fun i j h h'=>(congrArg Nu.v (if_neg h)).trans (It h')
  match i,hi,j,hj with
  |0,_,0,_=>exact e2.trans (hv.symm.trans i0.symm)
  |0,_,1,_=>exact e3.trans (i1 0 1 (by decide) (by decide)).symm
  |1,_,0,_=>exact e4.trans (i1 1 0 (by decide) (by decide)).symm
  |1,_,1,_=>exact e5.trans (i1 1 1 (by decide) (by decide)).symm
 unfold vz;have h8:wB=3400:=rfl
 split
 ·rw[w1];show s.w+1≤wB;omega
 rw[yc];omega
end
open Go Go.Eng
open Go.Tw (El ax)
theorem Qu:∃(A:List R) (s:Nu A),Go.Tw.Src 64 A∧A.length≤3∧s.v*s.v=R.q 2∧s.w≤1∧Pr prog 23 [nX (u9 2)] (.aB [nX s.x,.one (.int .i64 0)]):=by
 have S0:Go.Tw.Src 64 []:=⟨fun k hk=>absurd hk (O5 _),fun k hk=>absurd hk (O5 _)⟩;have e:mkRat 2 1=Rat.ofInt 2:=by decide+kernel
 have hf:Go.Tw.bI [] 64 [] [mkRat 2 1] (R.q (mkRat 2 1)):=lO (n:=2) (d:=1) (by decide) (by decide) (by decide);have hn:R.nn (R.q (mkRat 2 1)):=R.bu.2 (.inr (R.uD.2 (by decide+kernel)));obtain⟨A,x,S,_,hA,nx,c⟩:=Nn S0 (by decide) (by decide) (c:=([],[mkRat 2 1])) hf hn;rw[e]at c;refine⟨A,⟨x,_,1,O1 1,nx.mono (by decide) (by decide)⟩,S,O0 hA (by decide),?_,O1 1,c⟩;exact(R.cV hn).trans (congrArg R.q e)
theorem lV:Pr prog 4 [] (.one (.bool true)):=by
 obtain⟨A,s,S,h3,hs,hw,cq⟩:=Qu;have hA:Go.Tw.dV A:=h3;obtain⟨Xr,cr,qr⟩:=HJ S hA;obtain⟨Xk,ck,qk⟩:=Gy S hA;have cro:=Om S hA;obtain⟨Xs,cs,qs⟩:=Mo S hA;obtain⟨half,Xi,ch,ci,qi⟩:=P4 S hA hs hw;have i12:=iX [1,2] (by decide) (by decide);have i24:=iX [2,4] (by decide) (by decide);have i01:=iX [0,1] (by decide) (by decide);have i11:=iX [1,1] (by decide) (by decide);have i00:=iX [0,0] (by decide) (by decide);have i21:=iX [-2,1] (by decide) (by decide);have i50:=iX [5,0] (by decide) (by decide);have i5:=iX [5] (by decide) (by decide);have f2:=kG 2 (by decide) (by decide);have f0:=kG 0 (by decide) (by decide);have fr:=oY 1 2 (by decide) (by decide) (by decide) (by decide+kernel) (by decide+kernel);have fq:=qL (mkRat 1 2) [];have eq:=OQ [0] [0] (by decide) (q:=true) (by simp);refine pw func4 ⟨[0,1,2,3,4,5,6,7,8,9,11,13,14,15,16,17],[(6,(.cons 8 [6] (.cons 9 [] .nil .nil) .nil)),(7,.nil)]⟩ ?_;simp only[Tryz.f4,ntmps4,iz,seval];simp only[vx,T,seval];refine Cg i12 ?_;simp only[vx,T,seval,ao];refine Cg i24 ?_;simp only[vx,T,seval,ao];refine Cg cr ?_;simp only[vx,T,seval,dj,aq,ao];refine Cg ck ?_;simp only[vx,T,seval,dj,aq,ao];refine Cg cro ?_;simp only[vx,T,seval,dj,aq,ao];refine Cg f2 ?_;simp only[vx,T,seval,nX,nV,tC,ag];refine Cg cq ?_;simp only[vx,T,seval,nX,nV,tC,ag];refine Cg fr ?_;simp only[vx,T,seval,QV,QC];refine Cg fq ?_;simp only[vx,T,seval,nX,nV,tC,ag];refine Cg ch ?_;simp only[vx,T,seval,nX,nV,tC,ag];refine Cg f0 ?_;simp only[vx,T,seval,nX,nV,tC,ag];refine Cg i01 ?_;simp only[vx,T,seval,ao];refine Cg ci ?_;simp only[vx,T,seval,dj,aq,ao];refine Cg i11 ?_;simp only[vx,T,seval,ao];refine Cg i5 ?_;simp only[vx,T,seval,ao];refine Cg cs ?_;simp only[vx,T,seval,v8,ao];refine Cg i12 ?_;simp only[vx,T,seval,ao];refine Cg i00 ?_;simp only[vx,T,seval,ao];refine Cg qr ?_;simp only[vx,T,seval,ao];refine Cg eq ?_;simp only[vx,T,seval,ao];refine Cg i21 ?_;simp only[vx,T,seval,ao];refine Cg qk ?_;simp only[vx,T,seval,ao];refine Cg eq ?_;simp only[vx,T,seval,ao];refine Cg f0 ?_;simp only[vx,T,seval,nX,nV,tC,ag];refine Cg i01 ?_;simp only[vx,T,seval,ao];refine Cg qi ?_;simp only[vx,T,seval,ao];refine Cg i50 ?_;simp only[vx,T,seval,ao];refine Cg qs ?_;simp only[vx,T,seval,ao];exact Ve rfl
end Go.Proofs.YtehahgjkjfoebaaGreat
namespace Go.Tw
open Go Go.R
def sB (A:List R)(a:R):Prop:=(∀x:Rat,a≠q x)∧∃e f b:R,Ra 64 e∧Ra 64 f∧Ra 64 b∧b∈A∧a=e+f*R.sqrt b
noncomputable def qh (p:R→Prop)(A:List R):List R:=A.filter fun a=>@decide (p a) (Classical.propDecidable _)
theorem fu {p:R→Prop}{A:List R}{a:R}:a∈qh p A↔a∈A∧p a:=by
 unfold qh;rw[List.mem_filter];exact⟨fun h=>⟨h.1,@of_decide_eq_true _ (Classical.propDecidable _) h.2⟩,fun h=>⟨h.1,@decide_eq_true _ (Classical.propDecidable _) h.2⟩⟩
theorem xG {p s:R→Prop}(h:∀a,p a→¬s a):∀A:List R,(qh p A).length+(qh s A).length≤A.length
 |[]=>O1 0
 |a::A=>by
  have k:=xG h A;have c:∀r:R→Prop,(qh r (a::A)).length≤(qh r A).length+1∧(¬r a→(qh r (a::A)).length=(qh r A).length):=fun r=>by
   unfold qh
   by_cases hr:r a
   ·rw[List.filter_cons_of_pos (by simp[hr])];exact⟨O1 _,fun h=>absurd hr h⟩
   rw[List.filter_cons_of_neg (by simp[hr])];exact⟨Nat.le_succ _,fun _=>rfl⟩
  have c1:=c p;have c2:=c s;rw[List.length_cons]
  by_cases hp:p a
  ·have:=c2.2 (h a hp);omega
  have:=c1.2 hp;omega
noncomputable def EP (A B:List R):List R:=(qh (Ra 64) A++qh (Ra 64) B)++(qh (sB A) A++qh (sB B) B)
section
variable {A B:List R}(S:Src 64 A)(T:Src 64 B)
theorem QL {a:R}(h:a∈qh (Ra 64) A∨a∈qh (sB A) A):a∈EP A B:=by
 rcases h with h|h
 ·exact List.mem_append_left _ (List.mem_append_left _ h)
 exact List.mem_append_right _ (List.mem_append_left _ h)
theorem QH {a:R}(h:a∈qh (Ra 64) B∨a∈qh (sB B) B):a∈EP A B:=by
 rcases h with h|h
 ·exact List.mem_append_left _ (List.mem_append_right _ h)
 exact List.mem_append_right _ (List.mem_append_right _ h)
theorem Src.mem {A:List R}{B:Nat}(S:Src B A){a:R}(ha:a∈A):R.pos a:=by
 obtain⟨k,hk,e⟩:=List.mem_iff_getElem.1 ha
 have:=S.pos k hk
 rwa [X7,X8 hk,Option.getD_some,e]at this
include S T
theorem Eu {a:R}(h:a∈qh (sB A) A++qh (sB B) B):(∀x:Rat,a≠q x)∧∃e f b:R,Ra 64 e∧Ra 64 f∧Ra 64 b∧R.pos b∧b∈qh (Ra 64) A++qh (Ra 64) B∧a=e+f*R.sqrt b:=by
 rcases List.mem_append.1 h with h|h
 ·obtain⟨h1,h2,e,f,b,he,hf,hb,hm,ea⟩:=fu.1 h;exact⟨h2,e,f,b,he,hf,hb,S.mem hm,List.mem_append_left _ (fu.2 ⟨hm,hb⟩),ea⟩
 obtain⟨h1,h2,e,f,b,he,hf,hb,hm,ea⟩:=fu.1 h;exact⟨h2,e,f,b,he,hf,hb,T.mem hm,List.mem_append_right _ (fu.2 ⟨hm,hb⟩),ea⟩
theorem KY:Src 64 (EP A B):=by
 refine⟨fun k hk=>?_,fun k hk=>?_⟩
 ·rw[X7,X8 hk,Option.getD_some];have key:∀a,a∈EP A B→R.pos a:=fun a h=>by
   rcases List.mem_append.1 h with h|h<;>rcases List.mem_append.1 h with h|h
   ·exact S.mem (fu.1 h).1
   ·exact T.mem (fu.1 h).1
   ·exact S.mem (fu.1 h).1
   exact T.mem (fu.1 h).1
  exact key _ (List.getElem_mem hk)
 have rat:∀a,Ra 64 a→Expr 64 k ((EP A B).take k) a:=fun a ⟨x,e,h1,h2⟩=>by
  rw[e];refine⟨0,[],[x],O2 _,rfl,fun c hc=>?_,fun j hj=>absurd hj (O5 _),rfl⟩;rw[List.mem_singleton.1 hc];exact⟨h1,h2⟩
 obtain⟨L,hL⟩:∃L,L=qh (Ra 64) A++qh (Ra 64) B:=⟨_,rfl⟩
 by_cases hl:k<L.length
 ·have e:(EP A B).getD k (q 0)=L[k]:=by
   unfold EP;rw[←hL,X7,List.getElem?_append_left hl,X8 hl];rfl
  rw[e];have hm:=List.getElem_mem hl
  have:∀a,a∈L→Ra 64 a:=fun a h=>by
   rw[hL]at h
   rcases List.mem_append.1 h with h|h<;>exact (fu.1 h).2
  exact rat _ (this _ hm)
 have hm:(EP A B).getD k (q 0)∈qh (sB A) A++qh (sB B) B:=by
  have hk':k-L.length<(qh (sB A) A++qh (sB B) B).length:=by
   have TZ:=hk;unfold EP at TZ;rw[←hL,X6]at TZ;omega
  unfold EP;rw[←hL,X7,List.getElem?_append_right (by omega),X8 hk'];exact List.getElem_mem _
 obtain⟨_,e,f,b,⟨x,rfl,Xa,Xb⟩,⟨y,rfl,hy1,hy2⟩,⟨w,rfl,Yh,XL⟩,_,hb,ea⟩:=Eu S T hm;rw[←hL]at hb;have S6:=List.length_pos_of_mem hb;refine⟨1,[[w]],[x,y],by omega,rfl,fun c hc=>?_,fun j hj=>?_,ea⟩
 ·rcases List.mem_cons.1 hc with rfl|hc
  ·exact⟨Xa,Xb⟩
  rw[List.mem_singleton.1 hc];exact⟨hy1,hy2⟩
 obtain rfl:j=0:=by omega
 show q w∈_;unfold EP;rw[←hL,List.take_append,List.take_of_length_le (by omega)];exact List.mem_append_left _ hb
theorem LG (h1:A.length≤3)(h2:B.length≤3):oF (EP A B):=by
 refine .inr ⟨?_,fun a ha=>?_⟩
 ·have dis:∀(C:List R) (a:R),Ra 64 a→¬sB C a:=fun C a ⟨x,e,_⟩ h=>h.1 x e;have k1:=xG (dis A) A;have k2:=xG (dis B) B;unfold EP;simp only[X6];omega
 rcases List.mem_append.1 ha with h|h
 ·left
  rcases List.mem_append.1 h with h|h<;>exact (fu.1 h).2
 right
 obtain⟨h1,e,f,b,he,hf,hb,hp,_,ea⟩:=Eu S T h;exact⟨h1,e,f,b,he,hf,hb,hp,ea⟩
end
theorem Bb {A:List R}{t:List El}{a:El}{x:R}(h:bI A 64 t a x)(h2:t.length≤2){j:Nat}(hj:j<t.length):val j t (t.getD j [])∈qh (Ra 64) A∨val j t (t.getD j [])∈qh (sB A) A:=by
 have hm:=h.tg.mem j hj;have h0:∃b:Rat,t.getD 0 []=[b]∧b.num.natAbs≤2^64∧b.den≤2^64:=by
  obtain⟨y,e⟩:=bw (h.tg.rd.rl 0 (by omega)).1;have hb:=h.tb 0 (by omega);rw[e]at hb;exact⟨y,e,hb y (by simp)⟩
 obtain⟨b,eb,hb⟩:=h0
 rcases(by omega:j=0∨j=1)with rfl|rfl
 ·left
  refine fu.2 ⟨hm,?_⟩;rw[eb];exact⟨b,rfl,hb⟩
 have hl:=(h.tg.rd.rl 1 hj).1;have ht:=h.tb 1 hj;have mb:=h.tg.mem 0 (by omega);rw[eb]at mb;obtain⟨L,hL⟩:∃L,L=t.getD 1 []:=⟨_,rfl⟩;rw[←hL]at hl ht hm⊢
 match L,hl with
 |[e,f],_=>
  have ev:val 1 t [e,f]=q e+q f*R.sqrt (q b):=by
   show q e+q f*R.sqrt (val 0 t (t.getD 0 []))=_;rw[eb];rfl
  by_cases hx:∃y:Rat,val 1 t [e,f]=q y
  ·obtain⟨y,ey⟩:=hx;have e2:[e,f]=aU 1 y:=val_inj (h.tg.rd.le (show 1≤t.length by omega)) rfl aA (by rw[ey,bx]);have e3:e=y:=by
    have:[e,f]=[y,0]:=e2
    exact(List.cons.inj this).1
   left
   refine fu.2 ⟨hm,?_⟩;rw[ey,←e3];exact⟨e,rfl,ht e (by simp)⟩
  right
  exact fu.2 ⟨hm,fun y ey=>hx ⟨y,ey⟩,q e,q f,q b,⟨e,rfl,ht e (by simp)⟩,⟨f,rfl,ht f (by simp)⟩,⟨b,rfl,hb⟩,mb,ev⟩
end Go.Tw
namespace Go.Proofs.YtehahgjkjfoebaaGreat
open Go.Proofs.Tryz
open Go Go.Eng
open Go.Tw (El ax TG)
open Go.Mx (sm iv iO red mz free)
open Go Go.Eng
open Go.Tw (El ax TG)
open Go.Mx (sm iv iO red mz)
end Go.Proofs.YtehahgjkjfoebaaGreat
namespace Go.Eng
open Go Go.ChangeShapes Go.WideShapes Go.Deep
def pk (P:Program):Nat→List Field→Nat→Bool
 |off,[],tot=>off==tot
 |off,f::r,tot=>f.offset==off&&pk P (off+P.cellsOf f.type) r tot
def y7 (P:Program)(S:List TypeId):Bool:=S.all fun t=>
 match P.underlying t with
 |some .bool=>true
 |some (.int _)=>true
 |some .string=>true
 |some (.slice e)=>decide (0<P.cellsOf e)&&S.contains e&&(match P.underlying e with|some (.int _)=>P.cellsOf e==1|_=>true)
 |some (.struct fs)=>pk P 0 fs.toList (P.cellsOf t)&&fs.toList.all fun f=>S.contains f.type
 |some (.array n e)=>S.contains e&&P.cellsOf t==n*P.cellsOf e
 |_=>false
def P5 (R:TypeId→List C→Prop):List Field→List C→Prop
 |[],cs=>cs=[]
 |f::r,cs=>∃c1 c2,cs=c1++c2∧R f.type c1∧P5 R r c2
def oS (P:Program)(B:Nat):Nat→TypeId→List C→Prop
 |0,_,_=>False
 |n+1,t,cs=>
  match P.underlying t with
  |some .bool=>∃b,cs=[.bool b]
  |some (.int k)=>∃x,cs=[.int k x]∧k.min≤x∧x≤k.max
  |some .string=>∃s:ByteArray,cs=[.str s]∧s.size≤B
  |some (.slice e)=>
   match P.underlying e with
   |some (.int k)=>∃xs:List Int,cs=[.ints k xs]∧xs.length≤B∧∀x∈xs,k.min≤x∧x≤k.max
   |_=>∃m f,cs=[.rows (P.cellsOf e) m f]∧m≤B∧∀i,i<m→oS P B n e ((List.range (P.cellsOf e)).map (f i))
  |some (.struct fs)=>P5 (oS P B n) fs.toList cs
  |some (.array m e)=>∃l:List (List C),cs=l.flatten∧l.length=m∧∀c∈l,oS P B n e c
  |_=>False
theorem oS.mono {P:Program}{B B':Nat}(hB:B≤B'):∀{n:Nat} {t:TypeId} {cs:List C},oS P B n t cs→oS P B' n t cs:=by
 intro n
 induction n with
 |zero=>intro t cs h;exact h
 |succ n ih=>
  intro t cs h;have hf:∀(fs:List Field) (cs:List C),P5 (oS P B n) fs cs→P5 (oS P B' n) fs cs:=by
   intro fs
   induction fs with
   |nil=>intro cs h;exact h
   |cons f r ihf=>
    rintro cs ⟨c1,c2,rfl,h1,h2⟩;exact⟨c1,c2,rfl,ih h1,ihf c2 h2⟩
  simp only[oS]at h⊢
  split at h
  ·exact h
  ·exact h
  ·obtain⟨s,h1,h2⟩:=h;exact⟨s,h1,O0 h2 hB⟩
  ·split at h
   ·obtain⟨xs,h1,h2,h3⟩:=h;exact⟨xs,h1,O0 h2 hB,h3⟩
   obtain⟨m,f,h1,h2,h3⟩:=h;exact⟨m,f,h1,O0 h2 hB,fun i hi=>ih (h3 i hi)⟩
  ·exact hf _ _ h
  ·obtain⟨l,h1,h2,h3⟩:=h;exact⟨l,h1,h2,fun c hc=>ih (h3 c hc)⟩
  exact h
structure NJ {H:Type} (bulk:DataW H→Nat):Prop where
 str:∀s:List UInt8,s.length≤bulk (.lit (.string s))
 sl:∀el sp,el.length≤bulk (.slice el sp)∧∀d∈el,bulk d≤bulk (.slice el sp)
 agg:∀ps d,d∈ps→bulk d≤bulk (.agg ps)
def Qd {H:Type}(bulk:DataW H→Nat)(B:Nat)(d:DataW H):Prop:=maxLen≤B∨(NJ bulk∧bulk d≤B)
def gA (ok:Nat→Prop)(w:World):List C→List Value→Prop
 |[],[]=>True
 |c::cs,v::vs=>aQ ok w c v∧gA ok w cs vs
 |_,_=>False
theorem gA.append {ok:Nat→Prop}{w:World}:∀{a b:List C} {x y:List Value},gA ok w a x→gA ok w b y→gA ok w (a++b) (x++y)
 |[],_,[],_,_,h=>h
 |_::_,_,_::_,_,h1,h2=>⟨h1.1,gA.append h1.2 h2⟩
 |[],_,_::_,_,h,_=>h.elim
 |_::_,_,[],_,h,_=>h.elim
theorem gA.length {ok:Nat→Prop}{w:World}:∀{a:List C} {x:List Value},gA ok w a x→a.length=x.length
 |[],[],_=>rfl
 |_::_,_::_,h=>by simp[gA.length h.2]
 |[],_::_,h=>h.elim
 |_::_,[],h=>h.elim
theorem gA.get {ok:Nat→Prop}{w:World}:∀{a:List C} {x:List Value},gA ok w a x→∀j,j<a.length→∃u,x[j]? =some u∧aQ ok w (a.getD j .any) u
 |_::_,u::_,h,0,_=>⟨u,rfl,h.1⟩
 |_::_,_::_,h,j+1,hj=>by simpa using gA.get h.2 j (by simpa using hj)
 |[],[],_,j,hj=>absurd hj (by simp)
 |[],_::_,h,_,_=>h.elim
 |_::_,[],h,_,_=>h.elim
theorem gA.QG {ok:Nat→Prop}{w:World}:∀{a:List C} {x:List Value},gA ok w a x→bJ bm bo ok w a x
 |[],[],_=>trivial
 |_::_,_::_,h=>⟨aF.bn h.1,gA.QG h.2⟩
 |[],_::_,h=>h.elim
 |_::_,[],h=>h.elim
theorem JV {w:World}{a:Addr}{v:Value}(h:w.cell? a=some v):a.block<w.heap.size∧a.spot=none:=by
 unfold World.cell? at h
 split at h
 ·rename_i c _ _ hb
  refine⟨(Array.getElem?_eq_some_iff.1 hb).1,?_⟩
  split at h
  ·cases h
  rename_i hs
  cases ZC:a.spot with
  |none=>rfl
  |some x=>rw[ZC]at hs;simp at hs
 cases h
section
variable {H:Type}{bulk:DataW H→Nat}{B:Nat}{enc:TypeId×Value→H}{P:Program}{w:World}{base:Nat}{spare:Nat→Bool}{held:Bool}
theorem Fe {S:List TypeId}(hS:y7 P S=true):∀(fuel:Nat) (t:TypeId) (vs:List Value) (x:DataW H×List MemPlace),t∈S→DataW.trod enc P w base spare held fuel t vs=some x→Qd bulk B x.1→
  ∃cs,oS P B fuel t cs∧gA (fun g=>g<w.heap.size) w cs vs:=by
 intro fuel
 induction fuel with
 |zero=>intro t vs x _ h _;simp[DataW.trod]at h
 |succ fuel ih=>
  intro t vs x ht h hb;have hc:=List.all_eq_true.1 hS t ht;simp only[oS]
  cases hu:P.underlying t with
  |none=>rw[hu]at hc;simp at hc
  |some d=>
   rw[hu]at hc
   cases d with
   |bool=>
    obtain⟨b,rfl,_⟩:=DataW.trod_bool hu h;exact⟨[.bool b],⟨b,rfl⟩,rfl,trivial⟩
   |int k=>
    obtain⟨n,rfl,_,hw⟩:=DataW.trod_int hu h;simp only[Lit.wf,Bool.and_eq_true,decide_eq_true_eq]at hw;exact⟨[.int k n],⟨n,rfl,hw⟩,rfl,trivial⟩
   |string=>
    obtain⟨s,rfl,hx,hs⟩:=DataW.trod_string hu h;refine⟨[.str s],⟨s,rfl,?_⟩,rfl,trivial⟩
    rcases hb with hb|⟨hb,Tr⟩
    ·omega
    have h1:=hb.str s.data.toList;rw[hx]at Tr;have Tr:bulk (.lit (.string s.data.toList))≤B:=Tr;have h2:s.data.toList.length=s.size:=Array.length_toList;omega
   |slice e=>
    simp only[Bool.and_eq_true,decide_eq_true_eq]at hc;obtain⟨⟨S6,he⟩,hk⟩:=hc;have he:e∈S:=by simpa using he
    have Tl:(vs=[.slice none 0 0])∨∃(a:Addr) (len cap:Nat),vs=[.slice (some a) len cap]∧len≤cap∧len≤B∧
      ∀i,i<len→∃cs',w.cells? base (a.add (i*P.cellsOf e)) (P.cellsOf e)=some cs'∧∃y,DataW.trod enc P w base spare held fuel e cs'=some y∧Qd bulk B y.1:=by
     rcases DataW.trod_slice hu h with⟨rfl,_⟩|⟨a,len,cap,elems,rest,n,hn,rfl,hx,_,hl,hm,hlen,Xy,_,_⟩
     ·exact .inl rfl
     have XJ:len≤B:=by
      rcases hb with hb|⟨hb,Tr⟩
      ·omega
      have h1:=(hb.sl (elems.map (·.1)) (rest.map (·.1))).1;rw[hx]at Tr;rw[List.length_map]at h1;have Tr:bulk (.slice (elems.map (·.1)) (rest.map (·.1)))≤B:=Tr;omega
     refine .inr ⟨a,len,cap,rfl,hl,XJ,fun i hi=>?_⟩;obtain rfl:fuel=n:=by omega
     have h1:=Xy i hi;rw[X8 (by omega)]at h1
     cases Th:w.cells? base (a.add (i*P.cellsOf e)) (P.cellsOf e)with
     |none=>rw[Th]at h1;simp at h1
     |some cs'=>
      rw[Th]at h1;refine⟨cs',rfl,_,h1,?_⟩
      rcases hb with hb|⟨hb,Tr⟩
      ·exact .inl hb
      refine .inr ⟨hb,?_⟩;have h2:=(hb.sl (elems.map (·.1)) (rest.map (·.1))).2 elems[i].1 (List.mem_map.2 ⟨elems[i],List.getElem_mem _,rfl⟩);rw[hx]at Tr;exact O0 h2 Tr
    -- by rows
    have Xm:∃m f,m≤B∧(∀i,i<m→oS P B fuel e ((List.range (P.cellsOf e)).map (f i)))∧∃v,vs=[v]∧aQ (fun g=>g<w.heap.size) w (.rows (P.cellsOf e) m f) v:=by
     rcases Tl with rfl|⟨a,len,cap,rfl,hl,hm,Xy⟩
     ·exact⟨0,fun _ _=>.any,O2 _,fun i hi=>absurd hi (O5 _),_,rfl,none,0,rfl,O1 _,.inl rfl⟩
     have hex:∀i,i<len→∃cs,oS P B fuel e cs∧cs.length=P.cellsOf e∧∀j,j<P.cellsOf e→∃u,w.cell? ((a.add (i*P.cellsOf e)).add j)=some u∧aQ (fun g=>g<w.heap.size) w (cs.getD j .any) u:=by
      intro i hi;obtain⟨cs',Zf,y,hy,hyb⟩:=Xy i hi;obtain⟨_,UG,S5⟩:=World.cells?_some Zf;obtain⟨cs,Tc,SK⟩:=ih e cs' y he hy hyb;have hlen:cs.length=P.cellsOf e:=by rw[SK.length,UG]
      refine⟨cs,Tc,hlen,fun j hj=>?_⟩;obtain⟨u,hu,hr⟩:=SK.get j (by omega);exact⟨u,by rw[S5 j hj,hu],hr⟩
     obtain⟨g,hg⟩:=Classical.axiomOfChoice (r:=fun(i:Nat) (cs:List C)=>i<len→oS P B fuel e cs∧cs.length=P.cellsOf e∧∀j,j<P.cellsOf e→∃u,w.cell? ((a.add (i*P.cellsOf e)).add j)=some u∧aQ (fun g=>g<w.heap.size) w (cs.getD j .any) u) (fun i=>by
      by_cases hi:i<len
      ·obtain⟨cs,h⟩:=hex i hi;exact⟨cs,fun _=>h⟩
      exact⟨[],fun h=>absurd h hi⟩)
     refine⟨len,fun i j=>(g i).getD j .any,hm,fun i hi=>?_,_,rfl,some a,cap,rfl,hl,?_⟩
     ·obtain⟨h1,h2,_⟩:=hg i hi;have e:(List.range (P.cellsOf e)).map (fun j=>(g i).getD j .any)=g i:=by
       refine List.ext_getElem (by simp[h2]) fun j hj1 hj2=>?_
       simp[X7,X8 hj2]
      rw[e];exact h1
     by_cases h0:len=0
     ·exact .inl h0
     right
     obtain⟨u,hu,_⟩:=(hg 0 (by omega)).2.2 0 S6;rw[Nat.zero_mul]at hu;have ha0:(a.add 0).add 0=a:=by simp[Addr.add]
     rw[ha0]at hu;obtain⟨SI,ZC⟩:=JV hu;refine⟨a.block,a.off,?_,SI,fun i j hi hj=>?_⟩
     ·obtain⟨b,o,s⟩:=a;simp only at ZC;subst ZC;rfl
     obtain⟨u,hu,hr⟩:=(hg i hi).2.2 j hj;refine⟨u,?_,hr⟩;rw[←hu]
     congr 1
     obtain⟨b,o,s⟩:=a;simp only at ZC;subst ZC;unfold Addr.add
     split<;>split<;>simp_all<;>omega
    simp only
    cases hue:P.underlying e with
    |none=>
     obtain⟨m,f,h1,h2,v,rfl,h3⟩:=Xm;exact⟨[.rows (P.cellsOf e) m f],⟨m,f,rfl,h1,h2⟩,h3,trivial⟩
    |some de=>
     cases de with
     |int k=>
      rw[hue]at hk;have hk:P.cellsOf e=1:=by simpa using hk
      obtain⟨m,f,h1,h2,v,rfl,a,cap,rfl,h4,h5⟩:=Xm;have Zr:∀i,i<m→∃x,f i 0= .int k x∧k.min≤x∧x≤k.max:=by
       intro i hi
       have:=h2 i hi
       rw[hk]at this
       cases fuel with
       |zero=>exact this.elim
       |succ fuel=>
        simp only[oS,hue]at this;obtain⟨x,hx,hr⟩:=this;simp only[List.range_succ,List.range_zero,List.nil_append,List.map_cons,List.map_nil,List.cons.injEq,and_true]at hx;exact⟨x,hx,hr⟩
      obtain⟨g,hg⟩:=Classical.axiomOfChoice (r:=fun(i:Nat) (x:Int)=>i<m→f i 0= .int k x∧k.min≤x∧x≤k.max) (fun i=>by
       by_cases hi:i<m
       ·obtain⟨x,h⟩:=Zr i hi;exact⟨x,fun _=>h⟩
       exact⟨0,fun h=>absurd h hi⟩)
      have hlen:((List.range m).map g).length=m:=by simp
      refine⟨[.ints k ((List.range m).map g)],⟨_,rfl,by rw[hlen];exact h1,fun x hx=>?_⟩,⟨a,cap,by rw[hlen],by rw[hlen];exact h4,?_⟩,trivial⟩
      ·obtain⟨i,hi,rfl⟩:=List.mem_map.1 hx;exact(hg i (List.mem_range.1 hi)).2
      rw[hlen]
      rcases h5 with h5|⟨b,o,ha,hb,S5⟩
      ·exact .inl h5
      refine .inr ⟨b,o,ha,hb,fun i hi=>?_⟩;obtain⟨u,hu,hr⟩:=S5 i 0 hi (by omega);rw[(hg i hi).1]at hr;have hr:u= .int k (g i):=hr;rw[hk,Nat.mul_one,Nat.add_zero]at hu;rw[hu,hr]
      simp[X7,hi]
     |_=>
      obtain⟨m,f,h1,h2,v,rfl,h3⟩:=Xm;exact⟨[.rows (P.cellsOf e) m f],⟨m,f,rfl,h1,h2⟩,h3,trivial⟩
   |struct fs=>
    simp only[Bool.and_eq_true]at hc;obtain⟨Zg,WU⟩:=hc;obtain⟨xs,n,hn,hx,UG,Wb,hf⟩:=DataW.trod_struct hu h;obtain rfl:fuel=n:=by omega
    have SM:∀f∈fs.toList,∃y,DataW.trod enc P w base spare held fuel f.type ((vs.drop f.offset).take (P.cellsOf f.type))=some y∧Qd bulk B y.1:=by
     intro f hfm;obtain⟨i,hi,rfl⟩:=List.mem_iff_getElem.1 hfm;have Uk:i<fs.size:=by simpa using hi
     have h1:=hf i fs[i] (Array.getElem?_eq_getElem Uk);rw[X8 (by omega)]at h1;refine⟨xs[i],by simpa using h1,?_⟩
     rcases hb with hb|⟨hb,Tr⟩
     ·exact .inl hb
     refine .inr ⟨hb,?_⟩;have h2:=hb.agg (xs.map (·.1)) xs[i].1 (List.mem_map.2 ⟨xs[i],List.getElem_mem _,rfl⟩);rw[hx]at Tr;exact O0 h2 Tr
    have WU:∀f∈fs.toList,f.type∈S:=fun f hf=>by simpa using List.all_eq_true.1 WU f hf
    simp only
    -- field by field
    have key:∀(l:List Field) (off:Nat),(∀f∈l,∃y,DataW.trod enc P w base spare held fuel f.type ((vs.drop f.offset).take (P.cellsOf f.type))=some y∧Qd bulk B y.1)→(∀f∈l,f.type∈S)→pk P off l vs.length=true→
      ∃cs,P5 (oS P B fuel) l cs∧gA (fun g=>g<w.heap.size) w cs (vs.drop off):=by
     intro l
     induction l with
     |nil=>
      intro off _ _ VY;simp only[pk,beq_iff_eq]at VY;exact⟨[],rfl,by rw[List.drop_eq_nil_of_le (by omega)];trivial⟩
     |cons f r ihl=>
      intro off hy hm VY;simp only[pk,Bool.and_eq_true,beq_iff_eq]at VY;obtain⟨ho,VY⟩:=VY;obtain⟨y,hy1,hy2⟩:=hy f (by simp);obtain⟨c1,h1,h2⟩:=ih f.type _ y (hm f (by simp)) hy1 hy2;obtain⟨c2,h3,h4⟩:=ihl (off+P.cellsOf f.type) (fun g hg=>hy g (by simp[hg])) (fun g hg=>hm g (by simp[hg])) VY;refine⟨c1++c2,⟨c1,c2,rfl,h1,h3⟩,?_⟩;have e:vs.drop off=(vs.drop f.offset).take (P.cellsOf f.type)++vs.drop (off+P.cellsOf f.type):=by
       rw[ho,←List.drop_drop,List.take_append_drop]
      rw[e];exact h2.append h4
    have:=key fs.toList 0 SM WU (by rw[UG];exact Zg)
    rwa [List.drop_zero]at this
   |array m e=>
    simp only[Bool.and_eq_true,beq_iff_eq]at hc;obtain⟨he,TN⟩:=hc;have he:e∈S:=by simpa using he
    obtain⟨xs,n,hn,hx,UG,Wb,hf⟩:=DataW.trod_array hu h;obtain rfl:fuel=n:=by omega
    simp only;have key:∀j,j≤m→∃l:List (List C),l.length=j∧(∀c∈l,oS P B fuel e c)∧gA (fun g=>g<w.heap.size) w l.flatten (vs.take (j*P.cellsOf e)):=by
     intro j
     induction j with
     |zero=>intro _;exact⟨[],rfl,fun c hc=>(by cases hc),by rw[Nat.zero_mul];trivial⟩
     |succ j ihj=>
      intro hj;obtain⟨l,h1,h2,h3⟩:=ihj (by omega);have h4:=hf j (by omega);rw[X8 (by omega)]at h4;obtain⟨c,h5,h6⟩:=ih e _ xs[j] he h4 (by
       rcases hb with hb|⟨hb,Tr⟩
       ·exact .inl hb
       refine .inr ⟨hb,?_⟩;have h2:=hb.agg (xs.map (·.1)) xs[j].1 (List.mem_map.2 ⟨xs[j],List.getElem_mem _,rfl⟩);rw[hx]at Tr;exact O0 h2 Tr)
      refine⟨l++[c],by rw[X6,h1];rfl,fun x hx=>?_,?_⟩
      ·rcases List.mem_append.1 hx with hx|hx
       ·exact h2 x hx
       obtain rfl:=List.mem_singleton.1 hx;exact h5
      rw[List.flatten_append,Nat.add_mul,Nat.one_mul,List.take_add];refine h3.append ?_
      simpa using h6
    obtain⟨l,h1,h2,h3⟩:=key m (O1 _);rw[←TN,←UG,List.take_length]at h3;exact⟨l.flatten,⟨l,rfl,h1,h2⟩,h3⟩
   |_=>simp at hc
theorem uP {S:List TypeId}(hS:y7 P S=true){t:TypeId}(ht:t∈S){us:Array Value}{d:DataW H}{p:List MemPlace}(h:DataW.Trod enc P w base spare held t (.agg us) d p)(hb:Qd bulk B d):
  ∃n cs,oS P B n t cs∧dM bm bo (fun g=>g<w.heap.size) w (.agg cs) (.agg us):=by
 obtain⟨fuel,hf⟩:=h;obtain⟨cs,h1,h2⟩:=Fe hS fuel t _ _ ht hf hb;exact⟨fuel,cs,h1,us,rfl,h2.QG⟩
end
end Go.Eng
namespace Go.Eng
open Go Go.ChangeShapes Go.WideShapes Go.RowKit
section
variable {H:Type}{enc:TypeId×Value→H}{P:Program}
theorem w9 (hl:laidOutB P=true){t:TypeId}(hr:P.readableRec t=true)(YD:t<P.types.size){W W':World}{v:Value}{d:DataW H}{ps:List MemPlace}(h:DataW.Trod enc P W 0 (fun _=>true) true t v d ps)
  (hb:Below W.heap.size W W') (SI:∀x∈ps,x.block<W.heap.size):DataW.Trod enc P W' 0 (fun b=>decide (b<W.heap.size)) true t v d ps:=
 Below.trod hl hr YD h hb SI
theorem Io {f:Func}{s:ChangeSpec}{W W':World}{args:Array Value}{ds:List (DataW H)}{before:List MemPlace}{tb:TypeId}
  (hW:DataW.Whole enc P f.params.toList s.vars false W args.toList ds [] before) (hv:s.vars=[]) (hrt:f.resultTypes= #[tb]) (htb:P.underlying tb=some .bool)
  (Ua:(s.fn H (ds++[])).results=[.lit (.bool true)]) (SL:DataW.TrodAll enc P W' 0 (fun b=>decide (b<W.heap.size)) true f.params.toList args.toList (s.fn H (ds++[])).args before)
  (Ti:(s.fn H (ds++[])).vars=[]) (hb:Below W.heap.size W W'):s.post enc P f false true false false W args (.bool true) W':=by
 refine⟨ds,[],before,[],before,[],hW,?_,SL,?_,World.keptBut_mono (fun p hp=>⟨hp,.inr (.inl hp)⟩) (hb.frame (· ∈before)),fun h=>by cases h⟩
 ·rw[Ua,hrt];exact trodAll_mk1 (shut_bool htb true)
 rw[hv,Ti];rfl
end
end Go.Eng
namespace Go.Proofs.YtehahgjkjfoebaaGreat
open Go.Proofs.Tryz
open Go Go.Eng
set_option maxRecDepth 100000 in
theorem Dz:y7 prog [26,23,100,24,5,98]=true:=by kernel_rfl
def PH:List C→List C→Prop
 |[],[]=>True
 |a::x,b::y=>dH a b∧PH x y
 |_,_=>False
theorem PH.rep {ok:Nat→Prop}{w:World}:∀{a b:List C} {vs:List Value},PH a b→bJ bm bo ok w a vs→bJ bm bo ok w b vs
 |[],[],_,_,h=>h
 |_::_,_::_,[],_,h=>h.elim
 |_::_,_::_,_::_,ha,h=>⟨aF.bn (ha.1 _ _ _ (aQ.dZ h.1)),PH.rep ha.2 h.2⟩
 |[],_::_,_,ha,_=>ha.elim
 |_::_,[],_,ha,_=>ha.elim
theorem wD {a b:List C}(h:PH a b):uJ (.agg a) (.agg b):=fun ok w v hr=>by
 obtain⟨vs,e,hl⟩:=hr;exact⟨vs,e,h.rep hl⟩
theorem uC {n:Nat}{cs:List C}(h:oS prog maxLen n 5 cs):∃x:Nat,cs=[.int .u8 x]∧x<256:=by
 cases n with
 |zero=>exact h.elim
 |succ n=>
  simp only[oS,Tryz.underlying5]at h;obtain⟨x,rfl,h1,h2⟩:=h;have e1:IntKind.u8.min=0:=rfl;have e2:IntKind.u8.max=255:=rfl;rw[e1]at h1;rw[e2]at h2;exact⟨x.toNat,by rw[Int.toNat_of_nonneg h1],by omega⟩
theorem OS {n:Nat}{cs:List C}(h:oS prog maxLen n 100 cs):∃o:Dh,cs=(List.range 5).map (oC o)∧o.Ok:=by
 cases n with
 |zero=>exact h.elim
 |succ n=>
  simp only[oS,Tryz.underlying100]at h;obtain⟨c1,c2,rfl,h1,c3,c4,rfl,h2,c5,c6,rfl,h3,c7,c8,rfl,h4,c9,c10,rfl,h5,h6⟩:=h;have h6:c10=[]:=h6;subst h6;obtain⟨k,rfl,k1⟩:=uC h1;obtain⟨a,rfl,k2⟩:=uC h2;obtain⟨b,rfl,k3⟩:=uC h3;obtain⟨d,rfl,k5⟩:=uC h5
  cases n with
  |zero=>exact h4.elim
  |succ n=>
   simp only[oS,Tryz.underlying98]at h4;obtain⟨x,rfl,k4⟩:=h4;have e1:IntKind.i8.min= -128:=rfl;have e2:IntKind.i8.max=127:=rfl;rw[e1,e2]at k4;exact⟨⟨k,a,b,x,d⟩,rfl,k1,k2,k3,k4,k5⟩
set_option maxRecDepth 100000 in
theorem BV {n:Nat}{cs:List C}(h:oS prog maxLen n 23 cs):∃(c:C) (r:List Dh),cs=[c]∧(∀o∈r,o.Ok)∧r.length<2^63∧dH c (BF r):=by
 cases n with
 |zero=>exact h.elim
 |succ n=>
  simp only[oS,Tryz.underlying23,Tryz.underlying100]at h;obtain⟨m,f,hc,hm0,hm⟩:=h;have h5:prog.cellsOf 100=5:=by kernel_rfl
  rw[h5]at hc hm;subst hc;obtain⟨g,hg⟩:=Classical.axiomOfChoice (r:=fun(i:Nat) (a:Dh)=>i<m→(List.range 5).map (f i)=(List.range 5).map (oC a)∧a.Ok) (fun i=>by
   by_cases hi:i<m
   ·obtain⟨a,h1,h2⟩:=OS (hm i hi);exact⟨a,fun _=>⟨h1,h2⟩⟩
   exact⟨default,fun h=>absurd h hi⟩)
  refine⟨_,(List.range m).map g,rfl,fun a ha=>?_,?_,dH.rows (by simp) fun i j hi hj=>dH.of_eq ?_⟩
  ·obtain⟨i,hi,rfl⟩:=List.mem_map.1 ha;exact(hg i (List.mem_range.1 hi)).2
  ·have:maxLen<2^63:=by decide
   simp only[List.length_map,List.length_range];omega
  have h1:=congrArg (fun l:List C=>l[j]?) (hg i hi).1;simp only[List.getElem?_map,List.getElem?_range hj,Option.map_some,Q6]at h1;rw[h1]
  congr 1
  rw[X7,List.getElem?_map,List.getElem?_range hi];rfl
def RQ (l:List Int):Prop:=l.length<2^63∧∀i,i<l.length→0≤l.getD i 0∧l.getD i 0<256
theorem Lm {n:Nat}{cs:List C}(h:oS prog maxLen n 24 cs):∃l:List Int,cs=[.ints .u8 l]∧RQ l:=by
 cases n with
 |zero=>exact h.elim
 |succ n=>
  simp only[oS,Tryz.underlying24,Tryz.underlying5]at h;obtain⟨l,rfl,h1,h2⟩:=h;have e1:IntKind.u8.min=0:=rfl;have e2:IntKind.u8.max=255:=rfl;rw[e1,e2]at h2
  have:maxLen<2^63:=by decide
  refine⟨l,rfl,by omega,fun i hi=>?_⟩
  have:=h2 (l.getD i 0) (by rw[X7,X8 hi];exact List.getElem_mem _)
  omega
set_option maxRecDepth 100000 in
theorem zL {n:Nat}{cells:List C}(h:oS prog maxLen n 26 cells):∃(r:List Dh) (cs:List Int) (s:Nat),(∀o∈r,o.Ok)∧r.length<2^63∧RQ cs∧s<256∧PH cells [BF r,.ints .u8 cs,.int .u8 s]:=by
 cases n with
 |zero=>exact h.elim
 |succ n=>
  simp only[oS,Tryz.underlying26]at h;obtain⟨c1,r1,rfl,h1,c2,r2,rfl,h2,c3,r3,rfl,h3,h4⟩:=h;have h4:r3=[]:=h4;subst h4;obtain⟨c,r,rfl,hr,hl,hle⟩:=BV h1;obtain⟨cs,rfl,hc⟩:=Lm h2;obtain⟨s,rfl,hs⟩:=uC h3;exact⟨r,cs,s,hr,hl,hc,hs,hle,.refl _,.refl _,trivial⟩
theorem Kj (s:Nat):1≤fp s∧fp s≤12:=by
 have:=Nat.mod_lt s (show 0<12 by decide)
 unfold fp;omega
theorem AS {l most:Nat}(s:Nat)(h:l≤most):(l/fp s=0→xN (l/fp s) (fp s)=0)∧l/fp s*xN (l/fp s) (fp s)≤most∧l/fp s≤most∧xN (l/fp s) (fp s)≤12:=by
 have hw:=Kj s;have h1:=Nat.div_mul_le_self l (fp s);have h2:=Nat.div_le_self l (fp s);unfold xN;refine⟨fun e=>if_pos e,?_,by omega,?_⟩
 ·split
  ·omega
  omega
 split<;>omega
open Go Go.Eng
open Go.Tw (El ax TG bI)
open Go.Mx (sm)
theorem RX {B:List R}{r c W:Nat}{m:Nat→Nat→Nb}(h:∀i j,i<r→j<c→∃y:Nu B,y.x=m i j∧y.w≤W):∃X:Nat→Nat→Nu B,∀i j,i<r→j<c→(X i j).x=m i j∧(X i j).w≤W:=
 Qq (Nu.int B 0) h
theorem DG {B:List R}{n:Nat}{c:Nat→Nat}{m:Nat→Nat→Nb}{X:Nat→Nat→Nu B}(h:∀i j,i<n→j<c i→(X i j).x=m i j):dH (aq n c m) (dj n c X):=
 dH.rows rfl fun i j hi hj=>dH.rows rfl fun a b ha hb=>.of_eq (by rw[←h i a hi ha])
section
variable {A:List R}(S:Go.Tw.Src 64 A)(hA:Go.Tw.oF A)
include S hA
theorem Hk {r n c:Nat}(X Y:Nat→Nat→Nu A)(hr:r≤24)(hn:n≤12)(hc:c≤24)(h0:r=0→n=0)(Zx:n=0→c=0)(hX:∀i j,i<r→j<n→(X i j).w≤128)(hY:∀i j,i<n→j<c→(Y i j).w≤128):
  ∃P Q W:Nat→Nat→Nb,Pr prog 13 [.one (dj r (fun _=>n) X),.one (dj n (fun _=>c) Y)] (.aB [.one (aq r (fun _=>c) P),.one (.int .i64 0)])∧
   Pr prog 14 [.one (dj r (fun _=>n) X),.one (dj n (fun _=>c) Y)] (.one (aq r (fun _=>c) Q))∧Pr prog 8 [.one (aq r (fun _=>c) P),.one (aq r (fun _=>c) Q)] (.one (.bool true))∧
   ∀k,k<c→Pr prog 16 [.one (dj r (fun _=>n) X),.one (ao n fun i=>(Y i k).x)] (.aB [.one (ao r (W k)),.one (.int .i64 0)])∧
    Pr prog 17 [.one (ao r (W k))] (.one (.bool true))∧Pr prog 18 [.one (ao r (W k)),.one (ao r fun i=>P i k)] (.one (.bool true)):=by
 have b2:wA=8000:=rfl;have b8:wB=3400:=rfl;have dot:=fun i k (hi:i<r) (hk:k<c)=>P7 S hA (n:=n) (n':=n) (p:=128) (q:=128) (X i) (fun j=>Y j k) (by omega) (O1 n) (fun j hj=>hX i j hi hj) (fun j hj=>hY j k hj hk) (by omega) (by omega);obtain⟨P,hP⟩:=Qq (r:=r) (c:=c) (Nu.int A 0) (fun i k hi hk=>dot i k hi hk);obtain⟨Q,hQ⟩:=SD (n:=r) (p:=fun i (o:Nat→Nu A)=>(∀k,k<c→(o k).v=sm n (fun j=>(Y j k).v*(X i j).v)∧(o k).w≤1+n*(128+128))∧Pr prog 44 [.one (dj c (fun _=>n) fun k i=>Y i k),.one (v8 n (X i))] (.one (v8 c o))) (X 0) fun i hi=>
  Ll S hA (r:=c) (n:=n) (n':=n) (p:=128) (q:=128) (fun k i=>Y i k) (X i) (by omega) (by omega) (O1 _) (fun k j hk hj=>hY j k hj hk) (fun j hj=>hX i j hi hj) (by omega) (by omega)
 have hw:1+n*(128+128)≤3400:=by omega
 refine⟨fun i k=>(P i k).x,fun i k=>(Q i k).x,fun k i=>(P i k).x,?_,?_,?_,fun k hk=>⟨?_,?_,?_⟩⟩
 ·exact Rr (fun i j=>(X i j).x) (fun i j=>(Y i j).x) (fun i k=>(P i k).x) (by omega) (by omega) (by omega) h0 Zx fun i k hi hk=>(hP i k hi hk).2.2
 ·exact On (fun _=>n) (fun _=>c) (fun _=>n) (fun i j=>(X i j).x) (fun i j=>(Y i j).x) (fun i j=>(Y j i).x) (fun i j=>(Q i j).x) (by omega) (Oh (fun i j=>(Y i j).x) (by omega) (by omega) Zx) fun i hi=>(hQ i hi).2
 ·refine u6 S hA P Q (by omega) (by omega) fun i k hi hk=>?_;obtain⟨p1,p2,_⟩:=hP i k hi hk;obtain⟨q1,q2⟩:=(hQ i hi).1 k hk;exact⟨by rw[p1,q1];exact Go.Mx.A6 fun j _=>R.mul_comm _ _,by omega,by omega⟩
 ·exact Pp (fun i j=>(X i j).x) (fun i=>(Y i k).x) (fun i=>(P i k).x) (by omega) (by omega) h0 fun i hi=>(hP i k hi hk).2.2
 ·exact GH S hA (fun i=>P i k) (by omega) fun i hi=>by have:=(hP i k hi hk).2.1;omega
 exact Dp S hA (fun i=>P i k) (fun i=>P i k) (by omega) (fun _ i hi=>by have:=(hP i k hi hk).2.1;exact⟨by omega,by omega,.inl rfl⟩) (by simp)
end
theorem Mh {B:List R}(S:Go.Tw.Src 64 B)(hB:Go.Tw.oF B){no s no' s':Nat}{fo fo':Nat→Nat→C}{cs cs':List Int}{r c r2 c2:Nat}{m m2:Nat→Nat→Nb}(h0:r=0↔c=0)(h0':r2=0↔c2=0)(hr:r≤24)(Vy:r2≤24)(hc:c≤12)(V7:c2≤12)
  (hm:∀i j,i<r→j<c→∃y:Nu B,y.x=m i j∧y.w≤128) (YP:∀i j,i<r2→j<c2→∃y:Nu B,y.x=m2 i j∧y.w≤128)
  (cm:Pr prog 5 [.agg [.rows 5 no fo,.ints .u8 cs,.int .u8 s],.one (.int .i64 24)] (.aB [.one (aq r (fun _=>c) m),.one (.bool true)]))
  (cm':Pr prog 5 [.agg [.rows 5 no' fo',.ints .u8 cs',.int .u8 s'],.one (.int .i64 24)] (.aB [.one (aq r2 (fun _=>c2) m2),.one (.bool true)])):
  Pr prog 3 [.agg [.rows 5 no fo,.ints .u8 cs,.int .u8 s],.agg [.rows 5 no' fo',.ints .u8 cs',.int .u8 s']] (.one (.bool true)):=by
 have b2:wA=8000:=rfl;have b8:wB=3400:=rfl;obtain⟨X,hX⟩:=RX hm;obtain⟨Y,hY⟩:=RX YP;have wX:=fun i j hi hj=>(hX i j hi hj).2;have wY:=fun i j hi hj=>(hY i j hi hj).2;have cm:=Pr.res (r':=.aB [.one (dj r (fun _=>c) X),.one (.bool true)]) cm (fR.aB ⟨.cell (DG fun i j hi hj=>(hX i j hi hj).1),.refl _,trivial⟩);have cm':=Pr.res (r':=.aB [.one (dj r2 (fun _=>c2) Y),.one (.bool true)]) cm' (fR.aB ⟨.cell (DG fun i j hi hj=>(hY i j hi hj).1),.refl _,trivial⟩);have li:=iX (List.replicate (c+1) 0) (by rw[List.length_replicate];omega) fun i hi=>by
  rw[X7,X8 hi,List.getElem_replicate];decide
 rw[List.length_replicate]at li
 -- the second factor
 obtain⟨r3,c3,Z,hr3,Xf,h3,wZ,ht⟩:∃(r3 c3:Nat) (Z:Nat→Nat→Nu B),r3≤24∧c3≤24∧(r3=0→c3=0)∧(∀i j,i<r3→j<c3→(Z i j).w≤128)∧
   ((
    ((c:Int)=(r2:Int))=False∧((c:Int)=(c2:Int))=True∧Pr prog 9 [.one (dj r2 (fun _=>c2) Y)] (.one (dj r3 (fun _=>c3) Z)))∨(((c:Int)=(r2:Int))=True∧r3=r2∧c3=c2∧Z=Y)∨
    (((c:Int)=(r2:Int))=False∧((c:Int)=(c2:Int))=False∧r3=r2∧c3=c2∧Z=Y)):=by
  by_cases h1:c=r2
  ·exact⟨r2,c2,Y,Vy,by omega,h0'.1,wY,.inr (.inl ⟨eq_true (by omega),rfl,rfl,rfl⟩)⟩
  by_cases h2:c=c2
  ·exact⟨c2,r2,fun i j=>Y j i,by omega,Vy,h0'.2,fun i j hi hj=>wY j i hj hi,.inl ⟨eq_false (by omega),eq_true (by omega),Oh (fun i j=>(Y i j).x) (by omega) (by omega) h0'.1⟩⟩
  exact⟨r2,c2,Y,Vy,by omega,h0'.1,wY,.inr (.inr ⟨eq_false (by omega),eq_false (by omega),rfl,rfl,rfl⟩)⟩
 have fin:=fun(P Q W:Nat→Nat→Nb) hmul=>GL lV (r:=r) (c:=c) (r2:=r2) (c2:=c2) (r3:=r3) (c3:=c3) (x:=fun i j=>(X i j).x) (y:=fun i j=>(Y i j).x) (y3:=fun i j=>(Z i j).x) (P:=P) (Q:=Q) (W:=W) cm cm' (by omega) (by omega) (by omega)
  (xM (fun _=>c) (fun i j=>(X i j).x) (by omega) fun _ _=>by omega) (xM (fun _=>c2) (fun i j=>(Y i j).x) (by omega) fun _ _=>by omega) (xM (fun _=>c3) (fun i j=>(Z i j).x) (by omega) fun _ _=>by omega)
  (oW (fun i j=>(X i j).x) (by omega) (by omega) h0.1) (Oh (fun i j=>(X i j).x) (by omega) (by omega) h0.1) (u6 S hB (fun i j=>X j i) (fun i j=>X j i) (by omega) (by omega) fun i j hi hj=>by have:=wX j i hj hi;exact⟨rfl,by omega,by omega⟩)
  (DS S hB (fun _=>c) (fun _=>c2) X Y (by omega) (fun _ _=>by omega) (fun i j hi Uk hj Vv=>by have:=wX i j hi hj;have:=wY i j Uk Vv;omega) (r:=open Classical in decide (r=r2∧∀i,i<r→c=c2∧∀j,j<c→(X i j).v=(Y i j).v)) (by simp))
  (s9 S hB (fun _=>c) (fun _=>c2) X Y (by omega) (fun _ _=>by omega) (fun e i j hi e2 hj=>by have:=wX i j hi hj;have:=wY i j (by omega) (by omega);exact⟨by omega,by omega,.inr (by omega)⟩) (by simp))
  (DS S hB (fun _=>c) (fun _=>r) X (fun i j=>X j i) (by omega) (fun _ _=>by omega) (fun i j hi Uk hj Vv=>by have:=wX i j hi hj;have:=wX j i Vv Uk;omega) (r:=open Classical in decide (r=c∧∀i,i<r→c=r∧∀j,j<c→(X i j).v=(X j i).v)) (by simp))
  (s9 S hB (fun _=>c) (fun _=>r) X (fun i j=>X j i) (by omega) (fun _ _=>by omega) (fun e i j hi e2 hj=>by have:=wX i j hi hj;have:=wX j i (by omega) (by omega);exact⟨by omega,by omega,.inr (by omega)⟩) (by simp))
  (lL (fun _=>c) (fun i j=>(X i j).x) (by split<;>omega) (by omega)) (lL (fun _=>c2) (fun i j=>(Y i j).x) (by split<;>omega) (by omega)) (ht.imp id fun h=>h.imp (fun⟨k1,k2,k3,k4⟩=>⟨k1,k2,k3,by rw[k4]⟩) fun⟨k1,k2,k3,k4,k5⟩=>⟨k1,k2,k3,k4,by rw[k5]⟩) (lL (fun _=>c3) (fun i j=>(Z i j).x) (by split<;>omega) (by omega)) hmul
  li (Kl (fun i j=>(X i j).x) _ (by omega) h0.1 (by omega) (by omega) (by omega))
 by_cases hz:c=r3
 ·subst hz;obtain⟨P,Q,W,k1,k2,k3,k4⟩:=Hk S hB (r:=r) (n:=c) (c:=c3) X Z (by omega) (by omega) (by omega) h0.1 h3 wX wZ;exact fin P Q W (.inr ⟨eq_true rfl,k1,k2,k3,fun k hk=>⟨rA (fun _=>c3) (fun i j=>(Z i j).x) k (by omega) fun _ _=>hk,(k4 k hk).1,(k4 k hk).2.1,rA (fun _=>c3) P k (by omega) fun _ _=>hk,(k4 k hk).2.2⟩⟩)
 exact fin (fun _ _=>u9 0) (fun _ _=>u9 0) (fun _ _=>u9 0) (.inl ⟨eq_false (by omega),NH (fun i j=>(X i j).x) (fun i j=>(Z i j).x) (by omega) (by omega) (by omega) h0.1 hz⟩)
theorem Nq {n most:Nat}(a:Nat→Nb)(oc:C)(cs:List Int)(s:Nat)(hn:n<2^30)(hs:s<256)(Th:∀i,i<cs.length→0≤cs.getD i 0∧cs.getD i 0<256)(hl:cs.length<2^63)(hmo:most≤100)
  (cb:Pr prog 31 [.one oc] (.one (ao n a))) (ca:Pr prog 32 [.one (ao n a)] (.one (.bool true))) (ho:∃n f,oc= .rows 5 n f):
  ∃(CX:C) (b:Bool),Pr prog 5 [.agg [oc,.ints .u8 cs,.int .u8 s],.one (.int .i64 most)] (.aB [.one CX,.one (.bool b)])∧(CX= .nil∨∃r c m,CX=aq r (fun _=>c) m)∧
   (b=true→CX=aq (cs.length/fp s) (fun _=>xN (cs.length/fp s) (fp s)) (yT n a cs (fp s))∧cs.length≤most∧(Fi a n:Int)≤2):=by
 have M:=fun{R:V} h1 h2=>F6 a oc cs s most hn hs Th hl hmo cb ca ho (R:=R) h1 h2
 by_cases h1:most<cs.length
 ·exact⟨.nil,false,M (fun _=>rfl) (fun h=>absurd h1 (by omega)),.inl rfl,fun h=>by cases h⟩
 exact⟨_,_,M (fun h=>absurd h h1) (fun _=>rfl),.inr ⟨_,_,_,rfl⟩,fun h=>⟨rfl,by omega,of_decide_eq_true h⟩⟩
theorem GG {n v:Nat}{a:Nat→Nb}(h:(Fi a n:Int)≤2):(HH n a v).1.length≤2:=by
 unfold HH
 split
 ·decide
 have:=IJ a (Nat.mod_lt v (show 0<n by omega))
 omega
theorem NU {n n':Nat}{cells cells':List C}(h:oS prog maxLen n 26 cells)(h':oS prog maxLen n' 26 cells'):Pr prog 3 [.agg cells,.agg cells'] (.one (.bool true)):=by
 obtain⟨r,cs,s,hr,WA,⟨hl,Th⟩,hs,hle⟩:=zL h;obtain⟨r',cs',s',XA,hrl',⟨TH,Zf⟩,U2,hle'⟩:=zL h';refine Pr.args (ys:=[.agg [BF r,.ints .u8 cs,.int .u8 s],.agg [BF r',.ints .u8 cs',.int .u8 s']]) ?_ ⟨wD hle,wD hle',trivial⟩;obtain⟨A,k,a,S,h3,hk,cb,ca,hf⟩:=MN r hr WA;obtain⟨A',k',a',S',Xv,hk',cb',ca',hf'⟩:=MN r' XA hrl';obtain⟨CX,b,cm,hx,g⟩:=Nq (most:=24) a (BF r) cs s (by omega) hs Th hl (by decide) cb ca ⟨_,_,rfl⟩;obtain⟨CX',b',cm',hx',g'⟩:=Nq (most:=24) a' (BF r') cs' s' (by omega) U2 Zf TH (by decide) cb' ca' ⟨_,_,rfl⟩
 cases b with
 |false=>exact I5 lV hx hx' cm cm' (.inl rfl)
 |true=>
  cases b' with
  |false=>exact I5 lV hx hx' cm cm' (.inr rfl)
  |true=>
   obtain⟨e1,l1,g1⟩:=g rfl;obtain⟨e2,l2,g2⟩:=g' rfl;subst e1 e2;obtain⟨d1,d2,d3,d4⟩:=AS (l:=cs.length) (most:=24) s l1;obtain⟨d1',d2',d3',d4'⟩:=AS (l:=cs'.length) (most:=24) s' l2;have z:∀r s,xN r (fp s)=0→r=0:=fun r s e=>by
    unfold xN fp at e
    split at e
    ·assumption
    omega
   refine Mh (Go.Tw.KY S S') (Go.Tw.LG S S' h3 Xv) ⟨d1,z _ s⟩ ⟨d1',z _ s'⟩ d3 d3' d4 d4' (fun i j _ _=>?_) (fun i j _ _=>?_) cm cm'
   ·obtain⟨w,hw⟩:=hf (cs.getD (i*fp s+j) 0).toNat;have hj:=GG (v:=(cs.getD (i*fp s+j) 0).toNat) g1;exact⟨⟨_,w,128,by decide,xS Go.Tw.M3 (by decide) ⟨⟨hw.tg.rd,fun j Vv=>Go.Tw.QL (Go.Tw.Bb hw hj Vv)⟩,hw.len,hw.val,hw.bits,hw.tb⟩ hj⟩,rfl,O1 _⟩
   obtain⟨w,hw⟩:=hf' (cs'.getD (i*fp s'+j) 0).toNat;have hj:=GG (v:=(cs'.getD (i*fp s'+j) 0).toNat) g2;exact⟨⟨_,w,128,by decide,xS Go.Tw.M3 (by decide) ⟨⟨hw.tg.rd,fun j Vv=>Go.Tw.QH (Go.Tw.Bb hw hj Vv)⟩,hw.len,hw.val,hw.bits,hw.tb⟩ hj⟩,rfl,O1 _⟩
end Go.Proofs.YtehahgjkjfoebaaGreat
namespace Go.Proofs.YtehahgjkjfoebaaGreat
open Go.Proofs.Tryz
open Go Go.Proofs Go.Eng Go.ChangeShapes Go.WideShapes Go.ChangeAt Go.RowKit
theorem Tryz.own:ownKnob prog.godebug=none:=by kernel_rfl
theorem Tryz.laidOut:laidOutB prog=true:=by kernel_rfl
set_option maxRecDepth 100000 in
theorem rF (os:Os)(started:os.Started)(H:Type)(enc:TypeId×Value→H):
  ReturnsInHanded {} Tryz.checked os 3 .any (Rows.matrixMulSpec.pre6 enc prog Tryz.f3 Rows.matrixMulRow.domain false) (Rows.matrixMulSpec.post enc prog Tryz.f3 false true false false):=by
 refine returnsInHanded_of_change (C:=Tryz.checked) Tryz.own started (by kernel_rfl) func3
  (ChangeSpec.witness6 (enc:=enc) (C:=Tryz.checked) false ⟨#[],#[.agg #[.slice none 0 0,.slice none 0 0,.int .u8 0],.agg #[.slice none 0 0,.slice none 0 0,.int .u8 0]],[]⟩ 8 (by kernel_rfl) (by kernel_rfl) (by kernel_rfl) (by kernel_rfl)) ?_
 intro W base args ds gs before Yu hW hcnd _;have SV:∀(j:Nat) t v,Tryz.f3.params[j]? =some t→args[j]? =some v→Value.okWide prog W .any base t v:=Yu;have Wx:=hW;obtain⟨p,q,hA0,hV,rfl,Up,hnd⟩:=hW;have hA:DataW.TrodAll enc prog W 0 (fun _=>true) true Tryz.f3.params.toList args.toList ds p:=hA0;rw[Tryz.params3]at hA SV;obtain⟨v0,v1,d0,d1,p0,p1,rfl,rfl,rfl,h0,h1⟩:=trodAll_two hA;obtain⟨rfl,rfl⟩:=trodVars_none hV;clear hA0 Yu;simp only[List.append_nil]at Wx;have SI:=fun x hx=>Wx.lt x hx;obtain⟨us,rfl,TN⟩:=okWide_struct Tryz.underlying26 (SV 0 26 v0 rfl rfl);obtain⟨us',rfl,YI⟩:=okWide_struct Tryz.underlying26 (SV 1 26 v1 rfl rfl);have s0:=fun W' hb=>w9 (W':=W') Tryz.laidOut (by kernel_rfl) (of_decide_eq_true (by kernel_rfl)) h0 hb (fun x hx=>SI x (List.mem_append_left _ hx));have s1:=fun W' hb=>w9 (W':=W') Tryz.laidOut (by kernel_rfl) (of_decide_eq_true (by kernel_rfl)) h1 hb (fun x hx=>SI x (List.mem_append_right _ hx));obtain⟨n0,cs0,T6,Ui⟩:=uP (bulk:=fun _=>0) (B:=maxLen) Dz (by decide) h0 (.inl (O1 _));obtain⟨n1,cs1,VR,Vc⟩:=uP (bulk:=fun _=>0) (B:=maxLen) Dz (by decide) h1 (.inl (O1 _));have Zg:=NU T6 VR;have SL:a8 bm bo (fun g=>g<W.heap.size) W [.agg cs0,.agg cs1] [.agg us,.agg us']:=⟨Ui,Vc,trivial⟩
 refine((Zg.2 (fun g=>g<W.heap.size) W #[.agg us,.agg us'] (fun _ h=>h) SL).mono ?_)
 rintro e W' ⟨v,rfl,hB,hv⟩;have hv:v= .bool true:=hv;subst hv;exact⟨_,rfl,Io Wx rfl rfl Tryz.underlying4 rfl (trodAll_mk2 (s0 W' hB) (s1 W' hB)) rfl hB⟩
theorem matrixMul_holds:Rows.MatrixMulSaid:=
 OpenClaim.holds_of_wide 3 Tryz.f3 rfl rfl rfl rfl rfl rfl rfl ⟨rfl,rfl,rfl,rfl,rfl⟩ rfl rfl rfl rfl rfl (by kernel_rfl) func3 (by kernel_rfl)
  (of_decide_eq_true (by kernel_rfl)) (by unfold Func.isWrapper;first|(rw[if_pos (by decide+kernel)];kernel_rfl)|(rw[if_neg (by decide+kernel)];exact⟨rfl,rfl⟩))
  (fun os started H enc _=>rF os started H enc)
end Go.Proofs.YtehahgjkjfoebaaGreat
