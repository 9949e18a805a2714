/-
  MatrixDeterminant: for every input the law returns true, and each argument reads afterwards as it read before. No condition beyond the given row's own cells.
  (Text 7 of 9; made by a program out of smaller texts.)
-/
import Derived.Lib.AppendZerosOnto
import Derived.Lib.Walk
import Derived.Test.YtchkplkghknabaaGreatP6
set_option linter.unusedSimpArgs false
set_option linter.unusedVariables false
set_option maxHeartbeats 16000000
set_option maxRecDepth 10000
open Nat renaming reduceAdd→J1,reduceMul→J2,reduceSub→J3,reduceEqDiff→J4,reduceLT→J5,reduceLeDiff→J6,reduceBEq→J7,reduceDiv→J8,reduceMod→J9,reducePow→J0
open Int renaming reduceToNat→K1,reduceLE→K2,reduceLT→K3,reduceEq→K4,reducePow→K5,reduceSub→K6,reduceNeg→K7,natCast_add→X2,natCast_one→X3,natCast_zero→X4
open List renaming getD_cons_zero→X0,getD_cons_succ→X1,length_take→X5,length_append→X6,getD_eq_getElem?_getD→X7,getElem?_eq_getElem→X8
namespace Go.Proofs.YtchkplkghknabaaGreat
open Go.Proofs.Tryz
open Go Go.Eng
open Go.Tw (El)
abbrev Nb:=List El×El
def ak (n:Nat)(r:Nat→Nb):C:=.rows 2 n (fun i=>bR (r i))
def ao (r:Nat)(c:Nat→Nat)(m:Nat→Nat→Nb):C:=.rows 1 r (fun i _=>ak (c i) (m i))
theorem yG (f:Nat→Nb)(k:Nat):∀(i j:Nat),i<k+1→j<2→(if i<k then bR (f i) j else[tC (f k).1.length (f k).1,ae (f k).2].getD ((i-k)*2+j) C.any)=bR (f i) j:=by
 intro i j hi hj
 by_cases h:i<k
 ·rw[if_pos h]
 obtain rfl:i=k:=by omega
 rw[if_neg h,Nat.sub_self,Nat.zero_mul,Nat.zero_add]
 match j,hj with
 |0,_=>rfl
 |1,_=>rfl
theorem Ae (F:Nat→C)(k:Nat):∀(i j:Nat),i<k+1→j<1→(if i<k then F i else[F k].getD ((i-k)*1+j) C.any)=F i:=by
 intro i j hi hj
 by_cases h:i<k
 ·rw[if_pos h]
 obtain rfl:i=k:=by omega
 obtain rfl:j=0:=by omega
 rw[if_neg h,Nat.sub_self];rfl
theorem Oh {x y z:Nb}(h:Pr prog 55 [nX x,nX y] (.aB [nX z,.one (.int .i64 0)])):Pr prog 108 [nX x,nX y] (nX z):=by
 refine pw func108 ⟨[0,1,2,3,4,5],[]⟩ ?_;simp only[Tryz.f108,ntmps108,iz,seval];simp only[vx,T,seval,nX,nV,tC,ae];refine Cg h ?_;simp only[vx,T,seval,nX,nV,tC,ae];exact Ve rfl
theorem Oo {x y z:Nb}(h:Pr prog 13 [nX x,nX y] (.aB [nX z,.one (.int .i64 0)])):Pr prog 109 [nX x,nX y] (nX z):=by
 refine pw func109 ⟨[0,1,2,3,4,5],[]⟩ ?_;simp only[Tryz.f109,ntmps109,iz,seval];simp only[vx,T,seval,nX,nV,tC,ae];refine Cg h ?_;simp only[vx,T,seval,nX,nV,tC,ae];exact Ve rfl
theorem OD {n n':Nat}(a b s p:Nat→Nb)(hn:n<2^38)(TM:n≤n')(h0:Pr prog 20 [.one (.int .i64 0)] (nX (s 0)))(hm:∀i,i<n→Pr prog 109 [nX (a i),nX (b i)] (nX (p i)))
  (ha:∀i,i<n→Pr prog 108 [nX (s i),nX (p i)] (nX (s (i+1)))):Pr prog 73 [.one (ak n a),.one (ak n' b)] (nX (s n)):=by
 refine pw func73 ⟨[0,1,4,5,6,11],[]⟩ ?_;simp only[Tryz.f73,ntmps73,iz,seval];simp only[vx,T,seval,ak,nX,nV,tC,ae];refine Cg h0 ?_;simp only[vx,T,seval,ak,nX,nV,tC,ae];refine Lk (fun y:{i:Nat//i≤n}=>⟨[(0,.one (ak n a)),(1,.one (ak n' b)),(4,.one (.ptr 1 0)),(5,.one (.ptr 2 0)),(6,.one (.int .i64 y.1))],[(1,⟨.var [.nil,.nil],true⟩),(2,⟨.var [tC (s y.1).1.length (s y.1).1,ae (s y.1).2],true⟩)],3,26⟩) (fun y=>n-y.1) ⟨0,Nat.zero_le _⟩ ?_ (fun⟨i,hi⟩=>?_)
 ·refine Sa ?_;simp only[ry,seval,rz,ak,tC,ae]
 simp only;have wi:=wI i (by omega);simp only[vx,T,seval,ak];refine⟨fun g=>Lg ?_,fun g=>Lg ?_⟩
 ·have c1:=hm i (by omega);have c2:=ha i (by omega);simp only[vx,T,seval,ak,bR,wi,tC,ae];refine⟨by omega,by omega,Cg c1 ?_⟩;simp only[vx,T,seval,nX,nV,ak,bR,wi,tC,ae];refine Cg c2 ?_;simp only[vx,T,seval,nX,nV,ak,bR,wi,tC,ae];refine Lq ⟨i+1,by omega⟩ ?_ (by show n-(i+1)<n-i;omega);refine Sa ?_;simp only[ry,seval,rz,ak,tC,ae]
 obtain rfl:i=n:=by omega
 simp only[vx,T,seval,ak,nX,nV,tC,ae];exact Ve rfl
theorem Ja {n m:Nat}(a b:Nat→Nb)(hn:n<2^38)(e:Nat→Bool)(h:n=m→∀i,i<n→Pr prog 14 [nX (a i),nX (b i)] (.one (.bool (e i)))){r:Bool}(hr:r=true↔n=m∧∀i,i<n→e i=true):Pr prog 27 [.one (ak n a),.one (ak m b)] (.one (.bool r)):=by
 refine pw func27 ⟨[0,1,4,5,10,14,26],[]⟩ ?_;simp only[Tryz.f27,ntmps27,iz,seval];simp only[vx,T,seval,ak];refine⟨fun g0=>Lg ?_,fun g0=>Lg ?_⟩
 ·have hb:r=false:=Bool.eq_false_iff.2 fun h=>g0 (by have:=(hr.1 h).1;omega);subst hb;simp only[vx,T,seval];exact Ve rfl
 have XA:n=m:=by omega
 simp only[vx,T,seval,ak];refine Lk (fun y:{i:Nat//i≤n∧∀j,j<i→e j=true}=>⟨[(0,.one (ak n a)),(1,.one (ak m b)),(4,.one (.bool false)),(5,.one (.int .i64 y.1))],[],1,27⟩) (fun y=>n-y.1) ⟨0,Nat.zero_le _,fun j hj=>absurd hj (Nat.not_lt_zero _)⟩ ?_ (fun⟨i,hi,hz⟩=>?_)
 ·refine Sa ?_;simp only[ry,seval,rz,ak]
 simp only;have wi:=wI i (by omega);simp only[vx,T,seval,ak];refine⟨fun g=>Lg ?_,fun g=>Lg ?_⟩
 ·have c:=h XA i (by omega);simp only[vx,T,seval,ak,bR,tC,ae,wi];refine⟨by omega,by omega,Cg c ?_⟩
  cases he:e i with
  |false=>
   have hb:r=false:=Bool.eq_false_iff.2 fun h=>by have:=(hr.1 h).2 i (by omega);rw[he]at this;cases this
   subst hb;simp only[vx,T,seval,ak,wi];exact Ve rfl
  |true=>
   simp only[vx,T,seval,ak,wi];refine Lq ⟨i+1,by omega,fun j hj=>?_⟩ ?_ (by show n-(i+1)<n-i;omega)
   ·by_cases k:j<i
    ·exact hz j k
    obtain rfl:j=i:=by omega
    exact he
   refine Sa ?_;simp only[ry,seval,rz,ak]
 have hb:r=true:=hr.2 ⟨XA,fun j hj=>hz j (by omega)⟩;subst hb;simp only[vx,T,seval,ak];exact Ve rfl
theorem HF {n m:Nat}(c d:Nat→Nat)(a b:Nat→Nat→Nb)(hn:n<2^38)(e:Nat→Bool)(h:n=m→∀i,i<n→Pr prog 27 [.one (ak (c i) (a i)),.one (ak (d i) (b i))] (.one (.bool (e i)))){r:Bool}(hr:r=true↔n=m∧∀i,i<n→e i=true):Pr prog 25 [.one (ao n c a),.one (ao m d b)] (.one (.bool r)):=by
 refine pw func25 ⟨[0,1,4,5,10,14,26],[]⟩ ?_;simp only[Tryz.f25,ntmps25,iz,seval];simp only[vx,T,seval,ao,ak];refine⟨fun g0=>Lg ?_,fun g0=>Lg ?_⟩
 ·have hb:r=false:=Bool.eq_false_iff.2 fun h=>g0 (by have:=(hr.1 h).1;omega);subst hb;simp only[vx,T,seval];exact Ve rfl
 have XA:n=m:=by omega
 simp only[vx,T,seval,ao,ak];refine Lk (fun y:{i:Nat//i≤n∧∀j,j<i→e j=true}=>⟨[(0,.one (ao n c a)),(1,.one (ao m d b)),(4,.one (.bool false)),(5,.one (.int .i64 y.1))],[],1,27⟩) (fun y=>n-y.1) ⟨0,Nat.zero_le _,fun j hj=>absurd hj (Nat.not_lt_zero _)⟩ ?_ (fun⟨i,hi,hz⟩=>?_)
 ·refine Sa ?_;simp only[ry,seval,rz,ao,ak]
 simp only;have wi:=wI i (by omega);simp only[vx,T,seval,ao,ak];refine⟨fun g=>Lg ?_,fun g=>Lg ?_⟩
 ·have c:=h XA i (by omega);simp only[vx,T,seval,ao,ak,wi];refine⟨by omega,by omega,Cg c ?_⟩
  cases he:e i with
  |false=>
   have hb:r=false:=Bool.eq_false_iff.2 fun h=>by have:=(hr.1 h).2 i (by omega);rw[he]at this;cases this
   subst hb;simp only[vx,T,seval,ao,ak,wi];exact Ve rfl
  |true=>
   simp only[vx,T,seval,ao,ak,wi];refine Lq ⟨i+1,by omega,fun j hj=>?_⟩ ?_ (by show n-(i+1)<n-i;omega)
   ·by_cases k:j<i
    ·exact hz j k
    obtain rfl:j=i:=by omega
    exact he
   refine Sa ?_;simp only[ry,seval,rz,ao,ak]
 have hb:r=true:=hr.2 ⟨XA,fun j hj=>hz j (by omega)⟩;subst hb;simp only[vx,T,seval,ao,ak];exact Ve rfl
theorem oJ {r:Nat}(c:Nat→Nat)(m:Nat→Nat→Nb){k:Nat}(hk:k=if r=0 then 0 else c 0)(hr:r<2^38):Pr prog 32 [.one (ao r c m)] (.one (.int .i64 k)):=by
 refine pw func32 ⟨[0,2,5],[]⟩ ?_;simp only[Tryz.f32,ntmps32,iz,seval];simp only[vx,T,seval,ao];refine⟨fun g=>Lg ?_,fun g=>Lg ?_⟩
 ·have hb:k=0:=by rw[hk,if_pos (by omega)]
  subst hb;simp only[vx,T,seval];exact Ve rfl
 have hb:k=c 0:=by rw[hk,if_neg (by omega)]
 subst hb;simp only[vx,T,seval,ao,ak];refine⟨by omega,?_⟩;exact Ve rfl
theorem En {r:Nat}(c:Nat→Nat)(m:Nat→Nat→Nb)(k:Nat)(hn:r<2^38)(hk:∀i,i<r→k<c i):Pr prog 38 [.one (ao r c m),.one (.int .i64 k)] (.one (ak r fun i=>m i k)):=by
 refine pw func38 ⟨[0,1,4,5,6,10],[]⟩ ?_;simp only[Tryz.f38,ntmps38,iz,seval];simp only[vx,T,seval,ao,ak];refine Lk (fun y:{i:Nat//i≤r}=>⟨[(0,.one (ao r c m)),(1,.one (.int .i64 k)),(4,.one .nil),(5,.one (.own 1 2 0 y.1)),(6,.one (.int .i64 y.1))],[(1,⟨.rows 37 2 y.1 (fun i=>bR (m i k)),true⟩)],2,24⟩) (fun y=>r-y.1) ⟨0,Nat.zero_le _⟩ ?_ (fun⟨i,hi⟩=>?_)
 ·refine Sa ?_;simp only[ry,seval,rz,ao,ak]
 simp only;have wi:=wI i (by omega);simp only[vx,T,seval,ao,ak];refine⟨fun g=>Lg ?_,fun g=>Lg ?_⟩
 ·have Se:i<r:=by omega
  have Vd:=hk i Se;simp only[vx,T,seval,ao,ak,bR,wi,tC,ae];refine⟨by omega,by omega,?_⟩;refine⟨⟨by omega,by omega⟩,Lq ⟨i+1,by omega⟩ ?_ (by show r-(i+1)<r-i;omega)⟩;refine Sa ?_;simp only[ry,seval,rz,ao,ak,nX,nV,tC,ae];exact yG _ i
 obtain rfl:i=r:=by omega
 simp only[vx,T,seval,ao,ak];exact Ve rfl
theorem IU {r n:Nat}(c:Nat→Nat)(m:Nat→Nat→Nb)(v o:Nat→Nb)(hn:r<2^38)(h:∀i,i<r→Pr prog 73 [.one (ak (c i) (m i)),.one (ak n v)] (nX (o i))):Pr prog 36 [.one (ao r c m),.one (ak n v)] (.one (ak r o)):=by
 refine pw func36 ⟨[0,1,4,5,6,10],[]⟩ ?_;simp only[Tryz.f36,ntmps36,iz,seval];simp only[vx,T,seval,ao,ak];refine Lk (fun y:{i:Nat//i≤r}=>⟨[(0,.one (ao r c m)),(1,.one (ak n v)),(4,.one .nil),(5,.one (.own 1 2 0 y.1)),(6,.one (.int .i64 y.1))],[(1,⟨.rows 37 2 y.1 (fun i=>bR (o i)),true⟩)],2,23⟩) (fun y=>r-y.1) ⟨0,Nat.zero_le _⟩ ?_ (fun⟨i,hi⟩=>?_)
 ·refine Sa ?_;simp only[ry,seval,rz,ao,ak]
 simp only;have wi:=wI i (by omega);simp only[vx,T,seval,ao,ak];refine⟨fun g=>Lg ?_,fun g=>Lg ?_⟩
 ·have Se:i<r:=by omega
  have hc:=h i Se;simp only[vx,T,seval,ao,ak,wi];refine⟨by omega,Cg hc ?_⟩;simp only[vx,T,seval,ao,ak,nX,nV,wi,tC,ae];refine⟨⟨by omega,by omega⟩,Lq ⟨i+1,by omega⟩ ?_ (by show r-(i+1)<r-i;omega)⟩;refine Sa ?_;simp only[ry,seval,rz,ao,ak,nX,nV,tC,ae];exact yG _ i
 obtain rfl:i=r:=by omega
 simp only[vx,T,seval,ao,ak];exact Ve rfl
theorem Nn {r r2:Nat}(c c2 d:Nat→Nat)(m m2 t o:Nat→Nat→Nb){n:Nat}(hn:r<2^38)(ht:Pr prog 12 [.one (ao r2 c2 m2)] (.one (ao n d t)))(h:∀i,i<r→Pr prog 36 [.one (ao n d t),.one (ak (c i) (m i))] (.one (ak n (o i)))):Pr prog 11 [.one (ao r c m),.one (ao r2 c2 m2)] (.one (ao r (fun _=>n) o)):=by
 refine pw func11 ⟨[0,1,4,5,6,7,13],[]⟩ ?_;simp only[Tryz.f11,ntmps11,iz,seval];simp only[vx,T,seval,ao,ak];refine Cg ht ?_;simp only[vx,T,seval,ao,ak];refine Lk (fun y:{i:Nat//i≤r}=>⟨[(0,.one (ao r c m)),(5,.one (ao n d t)),(4,.one .nil),(6,.one (.own 1 1 0 y.1)),(7,.one (.int .i64 y.1))],[(1,⟨.rows 32 1 y.1 (fun i _=>ak n (o i)),true⟩)],2,26⟩) (fun y=>r-y.1) ⟨0,Nat.zero_le _⟩ ?_ (fun⟨i,hi⟩=>?_)
 ·refine Sa ?_;simp only[ry,seval,rz,ao,ak]
 simp only;have wi:=wI i (by omega);simp only[vx,T,seval,ao,ak];refine⟨fun g=>Lg ?_,fun g=>Lg ?_⟩
 ·have Se:i<r:=by omega
  have hc:=h i Se;simp only[vx,T,seval,ao,ak,wi];refine⟨by omega,Cg hc ?_⟩;simp only[vx,T,seval,ao,ak,wi];refine⟨⟨by omega,by omega⟩,Lq ⟨i+1,by omega⟩ ?_ (by show r-(i+1)<r-i;omega)⟩;refine Sa ?_;simp only[ry,seval,rz,ao,ak];exact Ae (fun i=>ak n (o i)) i
 obtain rfl:i=r:=by omega
 simp only[vx,T,seval,ao,ak];exact Ve rfl
theorem yo {r n:Nat}(c:Nat→Nat)(m:Nat→Nat→Nb)(hn:n<2^38)(hv:Pr prog 37 [.one (ao r c m)] (.one (.bool true)))(hk:Pr prog 32 [.one (ao r c m)] (.one (.int .i64 n)))(h:∀k,k<n→Pr prog 38 [.one (ao r c m),.one (.int .i64 k)] (.one (ak r fun i=>m i k))):Pr prog 12 [.one (ao r c m)] (.one (ao n (fun _=>r) fun k i=>m i k)):=by
 refine pw func12 ⟨[0,2,3,4,12],[]⟩ ?_;simp only[Tryz.f12,ntmps12,iz,seval];simp only[vx,T,seval,ao,ak];refine Lk (fun y:{i:Nat//i≤n}=>⟨[(0,.one (ao r c m)),(2,.one .nil),(3,.one (.own 1 1 0 y.1)),(4,.one (.int .i64 y.1))],[(1,⟨.rows 32 1 y.1 (fun k _=>ak r fun i=>m i k),true⟩)],2,22⟩) (fun y=>n-y.1) ⟨0,Nat.zero_le _⟩ ?_ (fun⟨i,hi⟩=>?_)
 ·refine Sa ?_;simp only[ry,seval,rz,ao,ak]
 simp only;have wi:=wI i (by omega);simp only[vx,T,seval,ao,ak];refine Cg hv ?_;simp only[vx,T,seval,ao,ak];refine Cg hk ?_;simp only[vx,T,seval,ao,ak];refine⟨fun g=>Lg ?_,fun g=>Lg ?_⟩
 ·have Se:i<n:=by omega
  have hc:=h i Se;simp only[vx,T,seval,ao,ak,wi];refine Cg hc ?_;simp only[vx,T,seval,ao,ak,wi];refine⟨⟨by omega,by omega⟩,Lq ⟨i+1,by omega⟩ ?_ (by show n-(i+1)<n-i;omega)⟩;refine Sa ?_;simp only[ry,seval,rz,ao,ak];exact Ae (fun k=>ak r fun i=>m i k) i
 obtain rfl:i=n:=by omega
 simp only[vx,T,seval,ao,ak];exact Ve rfl
theorem GV {r:Nat}(c:Nat→Nat)(m:Nat→Nat→Nb)(hn:r<2^38)(hc:∀i,i<r→c i<2^38):Fr prog 10 [.one (ao r c m)] (.rows 32 1 r (fun i _=>ak (c i) (m i))):=by
 refine fw func10 ⟨[0,2,3,4,8],[]⟩ ?_;simp only[Tryz.f10,ntmps10,iz,seval];simp only[vx,T,seval,ao,ak];refine Lk (fun y:{i:Nat//i≤r}=>⟨[(0,.one (ao r c m)),(2,.one .nil),(3,.one (.own 1 1 0 y.1)),(4,.one (.int .i64 y.1))],[(1,⟨.rows 32 1 y.1 (fun i _=>ak (c i) (m i)),true⟩)],2,21⟩) (fun y=>r-y.1) ⟨0,Nat.zero_le _⟩ ?_ (fun⟨i,hi⟩=>?_)
 ·refine Sa ?_;simp only[ry,seval,rz,ao,ak]
 simp only;have wi:=wI i (by omega);simp only[vx,T,seval,ao,ak];refine⟨fun g=>Lg ?_,fun g=>Lg ?_⟩
 ·have Se:i<r:=by omega
  have hci:=hc i Se;simp only[vx,T,seval,ao,ak,wi,Nat.not_lt_zero,Nat.sub_zero];refine⟨by omega,by omega,?_⟩;refine⟨⟨by omega,by omega⟩,Lq ⟨i+1,by omega⟩ ?_ (by show r-(i+1)<r-i;omega)⟩;refine Sa ?_;simp only[ry,seval,rz,ao,ak];exact Ae (fun i=>ak (c i) (m i)) i
 obtain rfl:i=r:=by omega
 simp only[vx,T,seval,ao,ak];exact⟨rfl,rfl,fun _ _ _ _=>rfl⟩
theorem Dp {r:Nat}(c:Nat→Nat)(m:Nat→Nat→Nb)(hn:r<2^38)(hc:∀i,i<r→c i<2^38):Pr prog 10 [.one (ao r c m)] (.one (ao r c m)):=(GV c m hn hc).rows
open Go Go.Eng
open Go.Tw (El)
theorem dB.QT {f:FuncId}{caps:Nat→C}{e:C}(h:caps 0=e):dB (.fn f 1 caps) (.fn f 1 (fun _=>e)):=by
 rintro ok w v ⟨cs,hv,hn,hc⟩;refine⟨cs,hv,hn,fun i hi=>?_⟩;obtain rfl:i=0:=by omega
 rw[←h];exact hc 0 hi
def EK (c:C):C:=.elt (.rows 1 1 (fun _ j=>Py ([c].getD j .any))) 1 0 0
theorem kj {r:Nat}(c:Nat→Nat)(m:Nat→Nat→Nb){k:Nat}(hk:k=if r=0 then 0 else c 0)(hr:r<2^38):Pr prog 43 [.one (ao r c m)] (.one (.int .i64 k)):=by
 refine pw func43 ⟨[0,2,5],[]⟩ ?_;simp only[Tryz.f43,ntmps43,iz,seval];simp only[vx,T,seval,ao];refine⟨fun g=>Lg ?_,fun g=>Lg ?_⟩
 ·have hb:k=0:=by rw[hk,if_pos (by omega)]
  subst hb;simp only[vx,T,seval];exact Ve rfl
 have hb:k=c 0:=by rw[hk,if_neg (by omega)]
 subst hb;simp only[vx,T,seval,ao,ak];refine⟨by omega,?_⟩;exact Ve rfl
theorem Ku {r n:Nat}(c:Nat→Nat)(m:Nat→Nat→Nb)(a:Nat→Nb){k:Nat}(hk:k=if r=0 then 0 else c 0)(hr:r<2^38):Pr prog 80 [.one (ak n a),.one (EK (ao r c m))] (.one (.bool (decide (n≠k)))):=by
 have h:=kj c m hk hr;unfold EK;refine pw func80 ⟨[0,1,3],[]⟩ ?_;simp only[Tryz.f80,ntmps80,iz,seval];simp only[vx,T,seval,ak,ao];refine Cg h ?_;simp only[vx,T,seval];refine Ve ?_
 congr 2
 rw[decide_eq_decide];omega
theorem Mn {r:Nat}(c:Nat→Nat)(m:Nat→Nat→Nb)(f:FuncId){S:C}{wd io oo:Nat}(p:Nat→Bool)(hr:r<2^38)(hf:∀i,i<r→Pr prog f [.one (ak (c i) (m i)),.one (.elt S wd io oo)] (.one (.bool (p i)))){k:Int}(hk:(k= -1∧∀i,i<r→p i=false)∨∃j:Nat,k=j∧j<r∧p j=true∧∀i,i<j→p i=false):
  Pr prog 65 [.one (ao r c m),.one (.fn f 1 (fun _=>.elt S wd io oo))] (.one (.int .i64 k)):=by
 refine pw func65 ⟨[0,1,4,5,7,8,9,16],[]⟩ ?_;simp only[Tryz.f65,ntmps65,iz,seval];simp only[vx,T,seval,ao];refine Lk (fun y:{i:Nat//i≤r∧∀j,j<i→p j=false}=>⟨[(0,.one (ao r c m)),(1,.one (.fn f 1 (fun _=>.elt S wd io oo))),(4,.one (.int .i64 0)),(7,.one (.int .i64 r)),(8,.one (.int .i64 y.1))],[],1,19⟩) (fun y=>r-y.1) ⟨0,Nat.zero_le _,fun j hj=>absurd hj (Nat.not_lt_zero _)⟩ ?_ (fun⟨i,hi,hz⟩=>?_)
 ·refine Sa ?_;simp only[ry,seval,rz,ao]
 simp only;have wi:=wI i (by omega);simp only[vx,T,seval,ao];refine⟨fun g=>Lg ?_,fun g=>Lg ?_⟩
 ·have cc:=hf i (by omega);simp only[vx,T,seval,ao,ak,wi];refine⟨by omega,Cg cc ?_⟩
  cases hp:p i with
  |true=>
   have hb:k=i:=by
    rcases hk with⟨_,h⟩|⟨j,h1,h2,h3,h4⟩
    ·have:=h i (by omega);rw[hp]at this;cases this
    by_cases e1:j<i
    ·have:=hz j e1;rw[h3]at this;cases this
    by_cases e2:i<j
    ·have:=h4 i e2;rw[hp]at this;cases this
    rw[h1];congr 1;omega
   subst hb;simp only[vx,T,seval,ao,ak,wi];exact Ve rfl
  |false=>
   simp only[vx,T,seval,ao,ak,wi];refine Lq ⟨i+1,by omega,fun j hj=>?_⟩ ?_ (by show r-(i+1)<r-i;omega)
   ·by_cases e:j<i
    ·exact hz j e
    obtain rfl:j=i:=by omega
    exact hp
   refine Sa ?_;simp only[ry,seval,rz,ao]
 have hb:k= -1:=by
  rcases hk with⟨h,_⟩|⟨j,h1,h2,h3,h4⟩
  ·exact h
  have:=hz j (by omega);rw[h3]at this;cases this
 subst hb;simp only[vx,T,seval,ao,ak,wi];exact Ve rfl
theorem Pq {r:Nat}(c:Nat→Nat)(m:Nat→Nat→Nb)(f:FuncId){S:C}{wd io oo:Nat}(p:Nat→Bool)(hr:r<2^38)(hf:∀i,i<r→Pr prog f [.one (ak (c i) (m i)),.one (.elt S wd io oo)] (.one (.bool (p i)))){b:Bool}(hb:b=true↔∃i,i<r∧p i=true):
  Pr prog 79 [.one (ao r c m),.one (.fn f 1 (fun _=>.elt S wd io oo))] (.one (.bool b)):=by
 have first:∃k:Int,((k= -1∧∀i,i<r→p i=false)∨∃j:Nat,k=j∧j<r∧p j=true∧∀i,i<j→p i=false)∧b=decide (0≤k):=by
  cases Sl:b with
  |false=>
   refine⟨-1,.inl ⟨rfl,fun i hi=>?_⟩,by decide⟩
   cases hp:p i with
   |false=>rfl
   |true=>have:=hb.2 ⟨i,hi,hp⟩;rw[Sl]at this;cases this
  |true=>
   obtain⟨i,hi,hp⟩:=hb.1 Sl;have key:∀n i,i<n→p i=true→∃j,j≤i∧p j=true∧∀i',i'<j→p i'=false:=by
    intro n
    induction n with
    |zero=>intro i hi;omega
    |succ n ih=>
     intro i hi hp
     by_cases h:∃i',i'<i∧p i'=true
     ·obtain⟨i',h1,h2⟩:=h;obtain⟨j,g1,g2,g3⟩:=ih i' (by omega) h2;exact⟨j,by omega,g2,g3⟩
     exact⟨i,Nat.le_refl _,hp,fun i' Tm=>by
      cases e:p i' with
      |false=>rfl
      |true=>exact absurd ⟨i',Tm,e⟩ h⟩
   obtain⟨j,g1,g2,g3⟩:=key (i+1) i (by omega) hp;exact⟨j,.inr ⟨j,rfl,by omega,g2,g3⟩,by simp⟩
 obtain⟨k,hk,rfl⟩:=first;have h:=Mn c m f p hr hf hk;refine pw func79 ⟨[0,1,4],[]⟩ ?_;simp only[Tryz.f79,ntmps79,iz,seval];simp only[vx,T,seval,ao];refine Cg h ?_;simp only[vx,T,seval];exact Ve (by simp)
theorem qL {r:Nat}(c:Nat→Nat)(m:Nat→Nat→Nb)(hr:r<2^38){b:Bool}(hb:b=true↔∀i,i<r→c i=c 0):Pr prog 42 [.one (ao r c m)] (.one (.bool b)):=by
 have h:=Pq c m 80 (fun i=>decide (c i≠if r=0 then 0 else c 0)) hr (fun i _=>Ku (n:=c i) c m (m i) rfl hr) (b:=!b) (by
  rw[Bool.not_eq_true',←Bool.not_eq_true,hb];refine⟨fun h=>?_,fun⟨i,hi,h⟩ k=>?_⟩
  ·have:∃i,i<r∧c i≠c 0:=Classical.not_forall_not.1 fun k=>h fun i hi=>Classical.byContradiction fun e=>k i ⟨hi,e⟩
   obtain⟨i,hi,e⟩:=this;exact⟨i,hi,by rw[if_neg (by omega)];simpa using e⟩
  rw[if_neg (by omega)]at h;exact absurd (k i hi) (by simpa using h))
 refine pw func42 ⟨[0,1,2],[]⟩ ?_;simp only[Tryz.f42,ntmps42,iz,seval];simp only[vx,T,seval,ao];refine Cg (h.args ⟨.refl _,.cell (dB.QT rfl),trivial⟩) ?_;simp only[vx,T,seval,ao];exact Ve (by simp)
open Go Go.Proofs Go.RowKit Go.Eng
set_option maxRecDepth 100000 in
theorem BA (k:Nat)(h0:0<k)(hb:k*48≤140737488355328)(w:World)(i:TypeInfo)(z:Value)(hi:prog.info? 37=some i)(hz:i.zero=some z)(hs:i.size=2)(V8:i.bytes=48):
  Calls prog 31 #[.slice none 0 0,.int .i64 k] w fun e w'=>e= .returned (.slice (some ⟨w.heap.size,0,none⟩) 0 (grownCap w k 0 37))∧
   w'=w.drew.alloc (.cells (Builtin.zeroCells z.cells k++Builtin.zeroCells z.cells (grownCap w k 0 37-k)) 37):=by
 have h1:¬((k:Int)<0):=by omega
 have h3:wrap64 ((k:Int)-(((0:Nat):Int)-((0:Nat):Int)))=(k:Int):=by unfold wrap64;omega
 have h4:(k:Int)>0:=by omega
 have Zq:∀ty,(Builtin.append_ #[32,3] ty #[.slice none 0 0,.int .i64 (k:Int)]).run prog w=
   .ok (.slice (some ⟨w.heap.size,0,none⟩) k (grownCap w k 0 37)) (w.drew.alloc (.cells (Builtin.zeroCells z.cells k++Builtin.zeroCells z.cells (grownCap w k 0 37-k)) 37)):=fun ty=>
  Lib.run_append_nil_zeros w 32 3 ty 37 i z .i64 .i64 (by rfl) (by rfl) hi hz k h0 (by omega) (by omega) (by rw[V8];omega)
 obtain⟨G,hG⟩:∃G,G=grownCap w k 0 37:=⟨_,rfl⟩;rw[←hG]at Zq⊢;have hGn:k≤G:=by rw[hG];exact grownCap_ge w _ _ _
 clear hG
 go_enter func31,ntmps31
 go_wp2_with (at_builtin;refine Lib.wpList_append_run _ rfl _ _ _ _ rfl _ _ rfl rfl _ _ (Zq _) ?_)
 all_goals(go_ret;exact⟨rfl,rfl⟩)
set_option maxRecDepth 100000 in
theorem CO (w:World):Calls prog 31 #[.slice none 0 0,.int .i64 0] w fun e w'=>e= .returned (.slice none 0 0)∧w'=w:=by
 go_enter func31,ntmps31
 go_wp2
 go_ret
 exact⟨rfl,rfl⟩
theorem BT (k:Nat)(hb:k*48≤140737488355328):Fr prog 31 [.one .nil,.one (.int .i64 k)] (.rows 37 2 0 (fun _ _=>.any)):=by
 obtain⟨i,d,z,hi,hu,hz,_,hs,V8,SP,_⟩:=bB Bz (show T 37=some _ from rfl);have hs:i.size=2:=hs.symm;have V8:i.bytes=48:=V8.symm;refine⟨⟨_,func31,by rfl,by rfl⟩,trivial,fun ok w vs R6 hr=>?_⟩;obtain⟨vs⟩:=vs
 match vs,hr with
 |[v,u],hr=>
  obtain⟨hv,hu,_⟩:=hr;have hv:v= .slice none 0 0:=hv;have hu:u= .int .i64 k:=hu;subst hv hu
  by_cases h0:k=0
  ·subst h0
   refine(CO w).mono ?_
   rintro e w' ⟨rfl,rfl⟩;exact⟨_,⟨none,0⟩,rfl,Go.RowKit.Below.refl _ _,rfl,(fun g o h=>by cases h),(fun j=>by simp[Bk.cell]),trivial,Nat.le_refl _,0,Nat.le_refl _,.inr ⟨rfl,rfl,rfl,rfl⟩⟩
  refine(BA k (by omega) hb w i z hi hz hs V8).mono ?_
  rintro e w' ⟨rfl,rfl⟩;have Tt:z.cells.size=2:=by
   have:=congrArg List.length SP
   simpa[T]using this.symm
  have hGn:k≤grownCap w k 0 37:=grownCap_ge w _ _ _;refine⟨_,⟨some (w.heap.size,0),0⟩,rfl,((Go.RowKit.Below.refl _ w).drew).alloc (Nat.le_refl _) _,rfl,fun g o h=>?_,?_,trivial,Nat.le_refl _,grownCap w k 0 37,Nat.zero_le _,.inl ⟨w.heap.size,0,0,rfl,rfl,.inr (by simp),?_⟩⟩
  ·have:w.heap.size=g:=by simpa using congrArg (Option.map Prod.fst) h
   subst this;exact⟨Nat.le_refl _,by simp⟩
  ·unfold aL;refine⟨_,37,heap_alloc_new w.drew _,fun j c hj=>?_⟩
   simp[Bk.cell]at hj
  have S3:bZ (w.drew.alloc (.cells (Builtin.zeroCells z.cells k++Builtin.zeroCells z.cells (grownCap w k 0 37-k)) 37)) w.heap.size=(Builtin.zeroCells z.cells k++Builtin.zeroCells z.cells (grownCap w k 0 37-k)).size:=dK (heap_alloc_new w.drew _);rw[S3];simp only[Array.size_append,size_zeroCells,Tt,Bk.wd];omega
open Go Go.Eng
open Go.Tw (El)
theorem M7 (p q:List Nb):∀(i j:Nat),i<p.length+q.length→j<2→(if i<p.length then fp p i j else fp q (i-p.length) j)=fp (p++q) i j:=by
 intro i j _ _;unfold fp
 by_cases h:i<p.length
 ·rw[if_pos h,X7,X7,List.getElem?_append_left h]
 rw[if_neg h,X7,X7,List.getElem?_append_right (by omega)]
theorem oT (ps:List (List Nb))(hl:ps.flatten.length<2^38)(hk:ps.length<2^38):Fr prog 7 [.one (.rows 1 ps.length (fun i _=>bU (ps.getD i default)))] (.rows 37 2 (ps.flatten).length (fp (ps.flatten))):=by
 refine fw func7 ⟨[0,2,3,5,6,8,9,10,11,12,20,25,26,27,28],[]⟩ ?_;simp only[Tryz.f7,ntmps7,iz,seval];simp only[vx,T,seval];refine Lk (fun y:{i:Nat//i≤ps.length}=>⟨[(0,.one (.rows 1 ps.length (fun i _=>bU (ps.getD i default)))),(3,.one (.int .i64 (ps.take y.1).flatten.length)),(9,.one (.rows 1 ps.length (fun i _=>bU (ps.getD i default)))),(10,.one (.int .i64 ps.length)),(11,.one (.int .i64 y.1))],[],1,36⟩) (fun y=>ps.length-y.1) ⟨0,Nat.zero_le _⟩ ?_ (fun⟨i,hi⟩=>?_)
 ·refine Sa ?_;simp only[ry,seval,rz]
 have h0:=jH ps i;have i1:=wI i (by omega);simp only[vx,T,seval];refine⟨fun h1=>Lg ?_,fun h1=>Lg ?_⟩
 ·have hs:=np (ps:=ps) (i:=i) (by omega);have h2:=jH ps (i+1);have U1:(ps.take (i+1)).flatten.length=(ps.take i).flatten.length+(ps.getD i default).length:=by rw[hs,X6]
  obtain⟨a,ha⟩:∃a,a=ps.getD i default:=⟨_,rfl⟩;rw[←ha]at U1;have w1:IntKind.i64.wrap (((ps.take i).flatten.length:Int)+a.length)=((ps.take (i+1)).flatten.length:Int):=by rw[IntWalk.i64_in _ (by omega)];omega
  simp only[vx,T,seval,bU,←ha];simp only[w1];refine⟨by omega,fun h=>absurd h (by omega),fun _=>Lg ?_⟩;simp only[vx,T,seval,bU,←ha];simp only[i1];refine Lq ⟨i+1,by omega⟩ ?_ ?_
  ·refine Sa ?_;simp only[ry,seval,rz]
  simp only;omega
 have WQ:i=ps.length:=by omega
 subst WQ;rw[List.take_length];simp only[vx,T,seval];refine cK.fresh (BT ps.flatten.length (by omega)) ?_;simp only[vx,T,seval];refine Lk (fun y:{i:Nat//i≤ps.length}=>⟨[(0,.one (.rows 1 ps.length (fun i _=>bU (ps.getD i default)))),(6,.one (.own 1 2 0 (ps.take y.1).flatten.length)),(25,.one (.rows 1 ps.length (fun i _=>bU (ps.getD i default)))),(26,.one (.int .i64 ps.length)),(27,.one (.int .i64 y.1))],[(1,⟨(.rows 37 2 ((ps.take y.1).flatten).length (fp ((ps.take y.1).flatten))),true⟩)],2,36⟩) (fun y=>ps.length-y.1) ⟨0,Nat.zero_le _⟩ ?_ (fun⟨i,hi⟩=>?_)
 ·refine Sa ?_;simp only[ry,seval,rz];exact fun i j h=>absurd h (by omega)
 have h0:=jH ps i;have i1:=wI i (by omega);simp only[vx,T,seval];refine⟨fun h1=>Lg ?_,fun h1=>Lg ?_⟩
 ·have hs:=np (ps:=ps) (i:=i) (by omega);have h2:=jH ps (i+1);have U1:(ps.take (i+1)).flatten.length=(ps.take i).flatten.length+(ps.getD i default).length:=by rw[hs,X6]
  obtain⟨a,ha⟩:∃a,a=ps.getD i default:=⟨_,rfl⟩;rw[←ha]at U1 hs;simp only[vx,T,seval,bU,←ha];simp only[i1];refine⟨by omega,by rw[←X6,←hs];omega,Lq ⟨i+1,by omega⟩ ?_ ?_⟩
  ·refine Sa ?_;simp only[ry,seval,rz,hs];exact⟨by simp,by simp,M7 _ _⟩
  simp only;omega
 have WQ:i=ps.length:=by omega
 subst WQ;rw[List.take_length];simp only[vx,T,seval];exact⟨rfl,rfl,fun _ _ _ _=>rfl⟩
def xR (n:Nat)(a:Nat→Nb):List Nb:=(List.range n).map a
theorem gO {n:Nat}{a:Nat→Nb}:(xR n a).length=n:=by simp[xR]
theorem r9 {n:Nat}{a:Nat→Nb}{i:Nat}(hi:i<n):(xR n a).getD i default=a i:=by
 unfold xR;rw[X7,List.getElem?_map,List.getElem?_range hi];rfl
theorem Bp {n:Nat}{a:Nat→Nb}:dB (ak n a) (bU (xR n a)):=.rows gO.symm fun i j hi _=>.of_eq (by unfold fp;rw[r9 hi])
theorem vV {c:Nat}{M:Nat→Nat→Nb}:∀{r:Nat},((List.range r).map fun i=>xR c (M i)).flatten.length=r*c∧∀p,p<r*c→((List.range r).map fun i=>xR c (M i)).flatten.getD p default=M (p/c) (p%c)
 |0=>⟨by simp,fun p hp=>by omega⟩
 |r+1=>by
  obtain⟨h1,h2⟩:=vV (c:=c) (M:=M) (r:=r);have e:((List.range (r+1)).map fun i=>xR c (M i)).flatten=((List.range r).map fun i=>xR c (M i)).flatten++xR c (M r):=by
   rw[List.range_succ,List.map_append,List.flatten_append];simp
  refine⟨by rw[e,X6,h1,gO,Nat.add_mul,Nat.one_mul],fun p hp=>?_⟩;rw[e,X7]
  by_cases hpr:p<r*c
  ·rw[List.getElem?_append_left (by omega),←X7];exact h2 p hpr
  have hc:0<c:=Nat.pos_of_ne_zero fun e=>by subst e;omega
  rw[Nat.add_mul,Nat.one_mul]at hp;rw[List.getElem?_append_right (by omega),h1,←X7,r9 (by omega)];have e1:p=r*c+(p-r*c):=by omega
  have e2:p/c=r:=by
   rw[e1,Nat.mul_comm,Nat.mul_add_div hc,Nat.div_eq_of_lt (by rw[Nat.mul_comm];omega)];omega
  have e3:p%c=p-r*c:=by
   have:=Nat.div_add_mod p c
   rw[e2,Nat.mul_comm]at this;omega
  rw[e2,e3]
theorem xn {r c:Nat}(M:Nat→Nat→Nb)(hn:r*c<2^38)(hr:r<2^38):Pr prog 7 [.one (ao r (fun _=>c) M)] (.one (ak (r*c) fun p=>M (p/c) (p%c))):=by
 obtain⟨h1,h2⟩:=vV (c:=c) (M:=M) (r:=r);have k:=(oT ((List.range r).map fun i=>xR c (M i)) (by rw[h1];exact hn) (by simpa using hr)).rows;have k2:Pr prog 7 [.one (ao r (fun _=>c) M)] _:=k.args ⟨.cell (.rows (by simp) fun i j hi hj=>?_),trivial⟩;refine k2.res (fB.cell (.rows h1 fun p j hp _=>.of_eq ?_))
 rotate_left
 ·have e:((List.range r).map fun i=>xR c (M i)).getD i default=xR c (M i):=by
   rw[X7,List.getElem?_map,List.getElem?_range hi];rfl
  rw[e];exact Bp
 rw[h1]at hp;unfold fp;rw[h2 p hp]
theorem tL {n m:Nat}(a b:Nat→Nb)(hn:n+m<2^38):Pr prog 7 [.one (.rows 1 2 (fun i j=>[ak n a,ak m b].getD (i*1+j) .any))] (.one (ak (n+m) fun i=>if i<n then a i else b (i-n))):=by
 have k:=(oT [xR n a,xR m b] (by simpa[gO]using hn) (by simp)).rows;have e:[xR n a,xR m b].flatten=xR n a++xR m b:=by simp
 rw[e]at k;have k2:Pr prog 7 [.one (.rows 1 2 (fun i j=>[ak n a,ak m b].getD (i*1+j) .any))] _:=k.args ⟨.cell (.rows rfl fun i j hi hj=>?_),trivial⟩;refine k2.res (fB.cell (.rows (by rw[X6,gO,gO]) fun p j hp _=>.of_eq ?_))
 rotate_left
 ·obtain rfl:j=0:=by omega
  match i,hi with
  |0,_=>exact Bp
  |1,_=>exact Bp
 rw[X6,gO,gO]at hp;unfold fp;rw[X7]
 by_cases h:p<n
 ·rw[List.getElem?_append_left (by rw[gO];exact h),←X7,r9 h];simp only[if_pos h]
 rw[List.getElem?_append_right (by rw[gO];omega),gO,←X7,r9 (by omega)];simp only[if_neg h]
end Go.Proofs.YtchkplkghknabaaGreat
namespace Go.Eng
open Go
theorem Ik {w j:Nat}(hj:j<32)(hw:w<4294967296)(hd:w%2^(j+1)=0):eW .or .u32 (w:Int) ((2^j:Nat):Int)=((w+2^j:Nat):Int)∧w+2^j<4294967296:=by
 have hp:2^j<2^(j+1):=Nat.pow_lt_pow_right (by decide) (by omega);have TH:2^j<2^32:=Nat.pow_lt_pow_right (by decide) hj
 have e:w|||2^j=w+2^j:=by
  have h1:=Nat.two_pow_add_eq_or_of_lt (i:=j+1) (b:=2^j) hp (w/2^(j+1));have h2:2^(j+1)*(w/2^(j+1))=w:=by have:=Nat.div_add_mod w (2^(j+1));omega
  rw[h2]at h1;exact h1.symm
 have RE:w|||2^j<2^32:=Nat.or_lt_two_pow hw TH
 refine⟨?_,by rw[←e];exact RE⟩;show IntKind.u32.wrap _=_
 have eb:(BitVec.ofInt 32 (w:Int)|||BitVec.ofInt 32 ((2^j:Nat):Int)).toNat=w+2^j:=by
  rw[BitVec.toNat_or,BitVec.ofInt_natCast,BitVec.ofInt_natCast,BitVec.toNat_ofNat,BitVec.toNat_ofNat,Nat.mod_eq_of_lt hw,Nat.mod_eq_of_lt TH,e]
 have eb2:(BitVec.ofInt IntKind.u32.bits (w:Int)|||BitVec.ofInt IntKind.u32.bits ((2^j:Nat):Int)).toNat=w+2^j:=eb
 rw[eb2];exact IntWalk.u32_in _ (by omega)
theorem Lp {w j:Nat}(hj:j<32)(hw:w<4294967296)(hd:w%2^(j+1)=0):eW .andNot .u32 ((w+2^j:Nat):Int) ((2^j:Nat):Int)=(w:Int):=by
 obtain⟨h1,h2⟩:=Ik hj hw hd;have TH:2^j<2^32:=Nat.pow_lt_pow_right (by decide) hj;have hp:2^j<2^(j+1):=Nat.pow_lt_pow_right (by decide) (by omega)
 have e:w|||2^j=w+2^j:=by
  have h1:=Nat.two_pow_add_eq_or_of_lt (i:=j+1) (b:=2^j) hp (w/2^(j+1));have h2:2^(j+1)*(w/2^(j+1))=w:=by have:=Nat.div_add_mod w (2^(j+1));omega
  rw[h2]at h1;exact h1.symm
 have bj:w.testBit j=false:=by
  rw[Nat.testBit_eq_decide_div_mod_eq]
  have:w=2^j*(2*(w/2^(j+1))):=by
   have h4:=Nat.div_add_mod w (2^(j+1));have h5:2^(j+1)*(w/2^(j+1))=2^j*(2*(w/2^(j+1))):=by
    generalize w/2^(j+1)=m
    rw[Nat.pow_succ,Nat.mul_assoc]
   omega
  rw[this,Nat.mul_div_cancel_left _ (Nat.two_pow_pos j)]
  simp
 have eb:(BitVec.ofInt 32 ((w+2^j:Nat):Int)&&& ~~~(BitVec.ofInt 32 ((2^j:Nat):Int)))=BitVec.ofNat 32 w:=by
  rw[BitVec.ofInt_natCast,BitVec.ofInt_natCast]
  apply BitVec.eq_of_getLsbD_eq
  intro i hi;rw[BitVec.getLsbD_and,BitVec.getLsbD_not,BitVec.getLsbD_ofNat,BitVec.getLsbD_ofNat,BitVec.getLsbD_ofNat,←e,Nat.testBit_or,Nat.testBit_two_pow]
  by_cases US:j=i
  ·subst US;simp[bj]
  simp[US,hi]
 show IntKind.u32.wrap ((BitVec.ofInt 32 ((w+2^j:Nat):Int)&&& ~~~(BitVec.ofInt 32 ((2^j:Nat):Int))).toNat:Int)=_;rw[eb,BitVec.toNat_ofNat,Nat.mod_eq_of_lt hw];exact IntWalk.u32_in _ (by omega)
theorem Ad {k r:Nat}(hr:r<BB^k)(i:Nat):(ig k r).getD i 0=((r/BB^i%BB:Nat):Int):=by
 have h:=dy (fY k r) i;rw[jQ,Nat.mod_eq_of_lt hr]at h;exact h
theorem LG {k r i:Nat}(hk:i/32<k)(hr:r+2^i<BB^k)(hd:r%2^(i+1)=0):∃w:Nat,w<4294967296∧w+2^(i%32)<4294967296∧(ig k r).getD (i/32) 0=(w:Int)∧
  eW .or .u32 (w:Int) ((2^(i%32):Nat):Int)=((w+2^(i%32):Nat):Int)∧(ig k r).set (i/32) ((w+2^(i%32):Nat):Int)=ig k (r+2^i)∧
  (ig k (r+2^i)).getD (i/32) 0=((w+2^(i%32):Nat):Int)∧eW .andNot .u32 ((w+2^(i%32):Nat):Int) ((2^(i%32):Nat):Int)=(w:Int)∧(ig k (r+2^i)).set (i/32) (w:Int)=ig k r:=by
 obtain⟨c,hc⟩:∃c,c=i/32:=⟨_,rfl⟩;obtain⟨j,hj⟩:∃j,j=i%32:=⟨_,rfl⟩;have US:i=32*c+j:=by omega
 rw[←hc]at hk⊢;rw[←hj];have Zv:j<32:=by omega
 have S9:r<BB^k:=by have:=Nat.two_pow_pos i;omega
 obtain⟨w,hw⟩:∃w,w=r/BB^c%BB:=⟨_,rfl⟩;have YE:w<4294967296:=by rw[hw];exact Nat.mod_lt _ (by decide)
 have TT:w%2^(j+1)=0:=by
  obtain⟨m,hm⟩:=Nat.dvd_of_mod_eq_zero hd;have e1:2^(i+1)=BB^c*2^(j+1):=by rw[qK,←Nat.pow_add];congr 1;omega
  have e2:r/BB^c=2^(j+1)*m:=by
   rw[hm,e1,Nat.mul_assoc,Nat.mul_div_cancel_left _ (Nat.pow_pos (by decide))]
  have e3:BB=2^(j+1)*2^(31-j):=by rw[←Nat.pow_add,show j+1+(31-j)=32 by omega];rfl
  rw[hw,e2]
  conv=>lhs;lhs;rhs;rw[e3]
  rw[Nat.mul_mod_mul_left,Nat.mul_mod_right]
 obtain⟨b1,b2⟩:=Ik Zv YE TT;have b3:=Lp Zv YE TT;have hl:c<(ig k r).length:=by rw[aM];exact hk
 have g1:(ig k r).getD c 0=(w:Int):=by rw[Ad S9,hw]
 have s1:(ig k r).set c ((w+2^j:Nat):Int)=ig k (r+2^i):=by
  refine qz ((fY k r).set c ⟨by omega,by omega⟩) (by rw[List.length_set,aM]) ?_;have h:=dP (xs:=ig k r) (x:=((w+2^j:Nat):Int)) hl;rw[g1,jQ,Nat.mod_eq_of_lt S9,Int.toNat_natCast,Int.toNat_natCast,Nat.mul_add]at h;have e4:BB^c*2^j=2^i:=by rw[qK,←Nat.pow_add,←US]
  omega
 refine⟨w,YE,b2,g1,b1,s1,?_,b3,?_⟩
 ·rw[←s1,X7,List.getElem?_set,if_pos rfl,if_pos hl];rfl
 rw[←s1,List.set_set,←g1];refine List.ext_getElem (by simp) fun n h1 h2=>?_;rw[List.getElem_set]
 split
 ·rename_i e
  subst e;rw[X7,X8 h2];rfl
 rfl
structure Ia (a n i r:Nat):Prop where
 le:i≤n
 d:r%2^i=0
 lo:r*r≤a
 hi:a<(r+2^i)*(r+2^i)
 lt:r+2^i≤2^n
theorem Ia.init {a n:Nat}(h:a<2^n*2^n):Ia a n n 0:=⟨Nat.le_refl _,Nat.zero_mod _,Nat.zero_le _,by rw[Nat.zero_add];exact h,by omega⟩
theorem Ia.up {a n i r:Nat}(H:Ia a n (i+1) r)(h:(r+2^i)*(r+2^i)≤a):Ia a n i (r+2^i):=by
 have e:2^(i+1)=2^i+2^i:=by rw[Nat.pow_succ];omega
 obtain⟨h1,h2,h3,h4,h5⟩:=H;rw[e]at h4 h5;refine⟨by omega,?_,h,by rw[Nat.add_assoc];exact h4,by omega⟩;obtain⟨m,hm⟩:=Nat.dvd_of_mod_eq_zero h2;rw[hm,Nat.pow_succ,Nat.mul_assoc,Nat.add_mod_right,Nat.mul_mod_right]
theorem Ia.stay {a n i r:Nat}(H:Ia a n (i+1) r)(h:a<(r+2^i)*(r+2^i)):Ia a n i r:=by
 have e:2^(i+1)=2^i+2^i:=by rw[Nat.pow_succ];omega
 obtain⟨h1,h2,h3,h4,h5⟩:=H;rw[e]at h5;refine⟨by omega,?_,h3,h,by omega⟩;obtain⟨m,hm⟩:=Nat.dvd_of_mod_eq_zero h2;rw[hm,Nat.pow_succ,Nat.mul_assoc,Nat.mul_mod_right]
theorem Ia.done {a n r:Nat}(H:Ia a n 0 r):r=cI a:=(sY H.lo H.hi).symm
end Go.Eng
namespace Go.Proofs.YtchkplkghknabaaGreat
open Go.Proofs.Tryz
open Go Go.Eng
theorem x6 (K a:Nat)(hr:a<BB^K)(hl:nl a≤K)(hK:K<2^44):Mc prog 151 [.one (.own 0 1 0 (nl a)),.one (.own 0 1 0 (nl a))] (.ints 147 .u32 (ig K a)) (fun r B'=>r= .one (.ints .u32 (aj (a*a)))∧B'= .ints 147 .u32 (ig K a)):=by
 have dl:=aM K a;have dw:=fun i=>Ad hr i;refine mw func151 ⟨[0,1,4,5,6,7,8,18,24],[]⟩ ?_;simp only[Tryz.f151,ntmps151,iz,seval];simp only[vx,T,seval,dl]
 simp(disch:=omega) only[lG,←X2,←Int.natCast_mul,Int.toNat_natCast,IntWalk.i64_in,IntWalk.u64_in,aA,aI,true_and,and_true,dw]
 refine⟨⟨by omega,by omega,by omega,by omega⟩,Lk (fun i:{i:Nat×List Int//gy a a i.1 i.2}=>⟨[(0,.one (.own 0 1 0 (nl a))),(1,.one (.own 0 1 0 (nl a))),(5,.one (.own 1 1 0 (nl a+nl a))),(6,.one (.int .i64 i.1.1))],[(0,⟨.ints 147 .u32 (ig K a),true⟩),(1,⟨.ints 147 .u32 i.1.2,true⟩)],3,67⟩) (fun i=>nl a-i.1.1) ⟨(0,List.replicate (nl a+nl a) 0),gy.init a a⟩ ?_ (fun⟨⟨i,os⟩,hi⟩=>?_)⟩
 ·refine Sa ?_;simp only[ry,seval,rz,dl]
 have h1:=hi.le;have h2:=hi.len;simp only at h1 h2;simp only[vx,T,seval,dl];refine⟨fun h=>Lg ?_,fun h=>Lg ?_⟩
 ·simp only[vx,T,seval,dl];have hx:=bc (a/BB^i);refine Lk (fun k:{k:Nat×List Int×Nat//pJ a a i k.1 k.2.1 k.2.2}=>⟨[(0,.one (.own 0 1 0 (nl a))),(1,.one (.own 0 1 0 (nl a))),(5,.one (.own 1 1 0 (nl a+nl a))),(6,.one (.int .i64 i)),(7,.one (.int .u64 k.1.2.2)),(8,.one (.int .i64 k.1.1))],[(0,⟨.ints 147 .u32 (ig K a),true⟩),(1,⟨.ints 147 .u32 k.1.2.1,true⟩)],3,67⟩) (fun k=>nl a-k.1.1) ⟨(0,os,0),hi.start⟩ ?_ (fun⟨⟨k,os',c⟩,hk⟩=>?_)
  ·refine Sa ?_;simp only[ry,seval,rz,lG]
  have h3:=hk.le;have h4:=hk.len;have h5:=hk.c;have h5:c<4294967296:=h5;have hz:=hk.inr.getD (i+k);simp only at h3 h4 hz;obtain⟨o,ho⟩:=Int.eq_ofNat_of_zero_le hz.1;rw[ho]at hz;simp only[vx,T,seval,dl];refine⟨fun h'=>Lg ?_,fun h'=>Lg ?_⟩
  ·simp only[vx,T,seval,dl];have hy:=bc (a/BB^k);have hp:(a/BB^i%BB)*(a/BB^k%BB)≤4294967295*4294967295:=Nat.mul_le_mul (by omega) (by omega)
   simp(disch:=omega) only[lG,←X2,←Int.natCast_mul,Int.toNat_natCast,IntWalk.i64_in,IntWalk.u64_in,aA,aI,true_and,and_true,ho,dw]
   refine⟨by omega,by omega,by omega,by omega,Lq ⟨(k+1,_,_),hk.put (s:=c+o+(a/BB^i%BB)*(a/BB^k%BB)) (by omega) (by omega) ho (by simp only;omega)⟩ ?_ ?_⟩
   ·refine Sa ?_;simp only[ry,seval,rz,dl]
   simp only;omega
  simp only[vx,T,seval,dl];have XH:k=nl a:=by omega
  subst XH
  simp(disch:=omega) only[lG,←X2,←Int.natCast_mul,Int.toNat_natCast,IntWalk.i64_in,IntWalk.u64_in,aA,aI,true_and,and_true,dw]
  refine⟨by omega,Lq ⟨(i+1,_),hk.next (by omega)⟩ ?_ ?_⟩
  ·refine Sa ?_;simp only[ry,seval,rz,dl]
  simp only;omega
 simp only[vx,T,seval,dl];have Tg:i=nl a:=by omega
 subst Tg;have hr:=hi.inr;have hv:=hi.done;simp only at hr hv;rw[List.take_of_length_le (by omega)];refine Cg (bH _ hr (by omega)) ?_;rw[hv];simp only[vx,T,seval,dl]
theorem Gt:Pr prog 164 [.one (.ints .u32 (aj 0))] (.one (.int .i64 0)):=by
 have hl:(aj 0).length=0:=by rw[bp];rfl
 refine pw func164 ⟨[0,2,3,4,7,15],[]⟩ ?_;simp only[Tryz.f164,ntmps164,iz,seval];simp only[vx,T,seval,bp];exact Ve rfl
theorem Bw (z:Int)(hz:zn z<2^42):Pr prog 216 [ZV z] (.one (.int .i64 (if z=0 then 0 else ky z.natAbs:Nat))):=by
 have t:=BC z (by omega);have l:Pr prog 164 [.one (.ints .u32 (aj z.natAbs))] (.one (.int .i64 (if z=0 then 0 else ky z.natAbs:Nat))):=by
  by_cases h:z=0
  ·subst h;exact Gt
  rw[if_neg h];exact pr _ (by omega) (by show nl z.natAbs<_;unfold zn at hz;omega)
 refine pw func216 ⟨[0,1,2],[]⟩ ?_;simp only[Tryz.f216,ntmps216,iz,seval];simp only[vx,T,seval,ZV];refine Cg t ?_;simp only[vx,T,seval,ZV];refine Cg l ?_;simp only[vx,T,seval,ZV];exact Ve rfl
theorem Ef (a b:Int)(ha:zn a<2^42)(hb:zn b<2^42):Pr prog 211 [ZV a,ZV b] (.one (.int .i64 (b9 (a-b)))):=by
 have s:=qY a b (by omega) (by omega);have hs:zn (a-b)<2^59:=by
  have:=oI a (-b)
  have e:zn (-b)=zn b:=by unfold zn;rw[Int.natAbs_neg]
  rw[Int.sub_eq_add_neg];omega
 have g:=gE (a-b) hs;refine pw func211 ⟨[0,1,2,3,4],[]⟩ ?_;simp only[Tryz.f211,ntmps211,iz,seval];simp only[vx,T,seval,ZV];refine Cg s ?_;simp only[vx,T,seval,ZV];refine Cg g ?_;simp only[vx,T,seval,ZV];exact Ve rfl
theorem uw (z:Int)(h0:0≤z)(hz:zn z<2^38):Pr prog 192 [ZV z] (.aB [ZV (cI z.natAbs:Nat),.one (.int .i64 0)]):=by
 have c:=ff z (by omega);have b:=Bw z (by omega);obtain⟨a,ha⟩:∃a,a=z.natAbs:=⟨_,rfl⟩;obtain⟨q,hq⟩:∃q:Nat,q=if z=0 then 0 else ky z.natAbs:=⟨_,rfl⟩
 rw[←hq]at b;have SK:zs z=false:=dF.2 h0;have Z8:nl a<2^38:=by rw[ha];exact hz
 have Ul:a<2^q∧q≤32*nl a:=by
  rw[hq]
  by_cases h:z=0
  ·rw[if_pos h,ha,h];exact⟨by decide,Nat.zero_le _⟩
  rw[if_neg h,←ha];exact⟨DH (by omega),yv (by omega)⟩
 obtain⟨n,hn⟩:∃n,n=(q+1)/2:=⟨_,rfl⟩;have w1:=wI q (by omega);have w2:IntKind.i64.wrap (((q+1:Nat):Int).tdiv 2)=(n:Int):=by rw[Int.tdiv_eq_ediv_of_nonneg (by omega),IntWalk.i64_in _ (by omega)];omega
 have w3:IntKind.i64.wrap ((n:Int).tdiv 32)=((n/32:Nat):Int):=by rw[Int.tdiv_eq_ediv_of_nonneg (by omega),IntWalk.i64_in _ (by omega)];omega
 have w4:IntKind.i64.wrap (((n/32:Nat):Int)+1)=((n/32+1:Nat):Int):=by rw[IntWalk.i64_in _ (by omega)];omega
 have w5:IntKind.i64.wrap ((n:Int)-1)=(n:Int)-1:=by rw[IntWalk.i64_in _ (by omega)]
 have hini:a<2^n*2^n:=by
  rw[←Nat.pow_add];exact Nat.lt_of_lt_of_le Ul.1 (Nat.pow_le_pow_right (by decide) (by omega))
 have hK:2^n<BB^(n/32+1):=by rw[qK];exact Nat.pow_lt_pow_right (by decide) (by omega)
 obtain⟨K,hKe⟩:∃K,K=n/32+1:=⟨_,rfl⟩;rw[←hKe]at hK w4;have er:(List.replicate K (0:Int))=ig K 0:=qz (bI.replicate _) (by simp) (cL _);have b:Pr prog 216 [.agg [.bool false,.ints .u32 (zm z)]] (.one (.int .i64 q)):=by
  have b:=b;unfold ZV at b;rw[SK]at b;exact b
 refine pw func192 ⟨[0,1,2,3,4,5,6,10,23,47],[(10,(.cons 1 [2,5,6] (.cons 3 [5,6] (.cons 4 [5,6] (.cons 7 [] (.cons 8 [] .nil .nil) .nil) .nil) .nil) .nil))]⟩ ?_;simp only[Tryz.f192,ntmps192,iz,seval];simp only[vx,T,seval,ZV];refine Cg c ?_;simp only[vx,T,seval,ZV,SK];refine Cg b ?_;simp only[vx,T,seval,ZV,w1,w2,w3,w4,w5,Int.toNat_natCast];refine⟨⟨by omega,by omega,by omega,by omega⟩,Lk (fun y:{y:Nat×Nat//Ia a n y.1 y.2}=>⟨[(1,.one (.ptr 1 0)),(2,.one (.ptr 2 0)),(3,.one (.int .i64 0)),(5,.one (.own 3 1 0 K)),(6,.one (.int .i64 ((y.1.1:Int)-1)))],[(1,⟨.var [.bool false,.ints .u32 (zm z)],true⟩),(2,⟨.var [.bool false,.nil],true⟩),(3,⟨.ints 147 .u32 (ig K y.1.2),true⟩)],4,63⟩) (fun y=>y.1.1) ⟨(n,0),.init hini⟩ ?_ (fun⟨⟨i,r⟩,hI⟩=>?_)⟩
 ·refine Sa ?_;simp only[ry,seval,rz,ZV,er]
 simp only;have hle:=hI.le;simp only at hle;simp only[vx,T,seval,ZV];refine⟨fun g=>Lg ?_,fun g=>Lg ?_⟩
 ·obtain⟨k,rfl⟩:∃k,i=k+1:=⟨i-1,by omega⟩;have e6:(((k+1:Nat):Int)-1)=(k:Int):=by omega
  have RE:=hI.lt;have hd:=hI.d;simp only at RE hd;have TH:2^(k+1)=2^k+2^k:=by rw[Nat.pow_succ];omega
  have hpk:=Nat.two_pow_pos k;obtain⟨w,k1,k2,k3,k4,k5,k6,k7,k8⟩:=LG (k:=K) (r:=r) (i:=k) (by omega) (by omega) hd;have v1:IntKind.i64.wrap ((k:Int).tdiv 32)=((k/32:Nat):Int):=by rw[Int.tdiv_eq_ediv_of_nonneg (by omega),IntWalk.i64_in _ (by omega)];omega
  have v2:(k:Int).tmod 32=((k%32:Nat):Int):=rfl;have v3:IntKind.u32.wrap (1*2^(if k%32≤32 then k%32 else 32))=((2^(k%32):Nat):Int):=by
   have e:(2:Int)^(k%32)=((2^(k%32):Nat):Int):=by rw[Int.natCast_pow];rfl
   have hw:2^(k%32)<2^32:=Nat.pow_lt_pow_right (by decide) (Nat.mod_lt _ (by decide));rw[if_pos (by omega),Int.one_mul,e]
   generalize 2^(k%32)=m at hw
   rw[IntWalk.u32_in _ (by omega)]
  have v4:IntKind.i64.wrap ((k:Int)-1)=(k:Int)-1:=by rw[IntWalk.i64_in _ (by omega)]
  have Vb:r+2^k<BB^K:=by omega
  have Sy:=aM K (r+2^k);have hdr:=aM K r;have hvd:val ((ig K (r+2^k)).take K)=r+2^k:=by rw[dC,jQ,Nat.mod_eq_of_lt Vb]
  have XQ:nl (r+2^k)≤K:=aD Vb;have tm:=mG (ig K (r+2^k)) 0 K (fY _ _) (by rw[Sy];omega) (by rw[Sy];omega);rw[List.drop_zero,hvd]at tm;have xm:=x6 K (r+2^k) Vb XQ (by omega);have hsq:nl ((r+2^k)*(r+2^k))<2^62:=by
   have:=jy (r+2^k) (r+2^k)
   omega
  have cp:=fL ((r+2^k)*(r+2^k)) a hsq (by omega);have ea:zm z=aj a:=by rw[ha];rfl
  rw[ea];simp only[vx,T,seval,ZV,e6,v1,v2,v3,v4,k3,k4,k5,hdr,Int.toNat_natCast];refine⟨⟨by omega,by omega⟩,by omega,⟨by omega,by omega⟩,Cm 3 (B:=.ints 147 .u32 (ig K (r+2^k))) rfl trivial tm ?_⟩;rintro _ _ ⟨rfl,rfl⟩ _;simp only[vx,T,seval,ZV,v1,v2,v3,v4,Sy,Int.toNat_natCast];refine Cm 3 (B:=.ints 147 .u32 (ig K (r+2^k))) rfl trivial tm ?_;rintro _ _ ⟨rfl,rfl⟩ _;simp only[vx,T,seval,ZV,v1,v2,v3,v4,Sy,Int.toNat_natCast];refine Cm 3 (B:=.ints 147 .u32 (ig K (r+2^k))) rfl trivial xm ?_;rintro _ _ ⟨rfl,rfl⟩ _;simp only[vx,T,seval,ZV,v1,v2,v3,v4,Sy,Int.toNat_natCast];refine Cg cp ?_;simp only[vx,T,seval,ZV,v1,v2,v3,v4,Sy,Int.toNat_natCast];refine⟨fun g2=>Lg ?_,fun g2=>Lg ?_⟩
  ·have hgt:a<(r+2^k)*(r+2^k):=by
    unfold eX at g2
    generalize(r+2^k)*(r+2^k)=m at g2⊢
    (repeat' split at g2)<;>omega
   simp only[vx,T,seval,ZV,v1,v2,v3,v4,k6,k7,k8,Sy,Int.toNat_natCast];refine⟨⟨by omega,by omega⟩,by omega,⟨by omega,by omega⟩,Lq ⟨(k,r),hI.stay hgt⟩ ?_ (by show k<k+1;omega)⟩;refine Sa ?_;simp only[ry,seval,rz,ZV,ea]
  have hle2:(r+2^k)*(r+2^k)≤a:=by
   unfold eX at g2
   generalize(r+2^k)*(r+2^k)=m at g2⊢
   (repeat' split at g2)<;>omega
  simp only[vx,T,seval,ZV,v1,v2,v3,v4,Sy,Int.toNat_natCast];refine Lq ⟨(k,r+2^k),hI.up hle2⟩ ?_ (by show k<k+1;omega);refine Sa ?_;simp only[ry,seval,rz,ZV,ea]
 have Wh:i=0:=by omega
 subst Wh;have hr:=hI.done;simp only at hr;have hdr:=aM K r;have hrK:r<BB^K:=by
  have:=hI.lt
  simp only at this;omega
 have sg:=pF false (ig K r) (fY _ _) (by rw[hdr];omega);rw[jQ,Nat.mod_eq_of_lt hrK,Bool.false_and]at sg;have tk:=dC K r;have e7:zs ((cI z.natAbs:Nat):Int)=false:=dF.2 (by omega);have e8:zm ((cI z.natAbs:Nat):Int)=aj r:=by rw[hr,ha];rfl
 simp only[vx,T,seval,ZV,hdr,tk];refine Cg sg ?_;simp only[vx,T,seval,ZV,e7,e8];exact Ve rfl
open Go Go.Eng
theorem ne_false_iff {z w:Int}(h:zs z≠zs w∨zn z≠zn w):decide (z=w)=false:=by
 refine decide_eq_false ?_;rintro rfl
 rcases h with h|h<;>exact h rfl
theorem ob (z w:Int)(hz:zn z<2^44)(hw:zn w<2^44):Pr prog 193 [ZV z,ZV w] (.one (.bool (decide (z=w)))):=by
 refine pw func193 ⟨[0,1,2,3,4,5,19,24,37],[]⟩ ?_;simp only[Tryz.f193,ntmps193,iz,seval];simp only[vx,T,seval,ZV];refine⟨fun h1=>Lg ?_,fun h1=>Lg ?_⟩
 ·have hb:=ne_false_iff (z:=z) (w:=w) (.inl (by simpa using h1));simp only[vx,T,seval,ZV];exact vb hb.symm
 have h1:zs z=zs w:=by simpa using h1
 simp only[vx,T,seval,ZV];refine⟨fun h2=>Lg ?_,fun h2=>Lg ?_⟩
 ·rw[aV,aV]at h2;have hb:=ne_false_iff (z:=z) (w:=w) (.inr (by omega));simp only[vx,T,seval,ZV];exact vb hb.symm
 rw[aV,aV]at h2;have Yh:zn z=zn w:=by omega
 simp only[vx,T,seval,ZV];refine Lk (fun y:{i:Nat//i≤zn z∧z.natAbs%BB^i=w.natAbs%BB^i}=>⟨[(2,.one (.ptr 1 0)),(3,.one (.ptr 2 0)),(4,.one (.bool false)),(5,.one (.int .i64 y.1))],[(1,⟨.var [.bool (zs z),.ints .u32 (zm z)],true⟩),(2,⟨.var [.bool (zs w),.ints .u32 (zm w)],true⟩)],3,38⟩) (fun y=>zn z-y.1) ⟨0,by omega,by rw[Nat.pow_zero,Nat.mod_one,Nat.mod_one]⟩ ?_ (fun⟨i,hi,he⟩=>?_)
 ·refine Sa ?_;simp only[ry,seval,rz]
 simp only[vx,T,seval,aV];refine⟨fun h3=>Lg ?_,fun h3=>Lg ?_⟩
 ·have g1:(zm z).getD i 0=((z.natAbs/BB^i%BB:Nat):Int):=lG _ _;have g2:(zm w).getD i 0=((w.natAbs/BB^i%BB:Nat):Int):=lG _ _;have i1:=wI i (by omega);simp only[vx,T,seval,aV];simp only[Int.toNat_natCast,g1,g2];refine⟨by omega,by omega,?_⟩;refine⟨fun h4=>Lg ?_,fun h4=>Lg ?_⟩
  ·have hb:decide (z=w)=false:=decide_eq_false (by rintro rfl;exact h4 rfl);simp only[vx,T,seval,ZV];exact vb hb.symm
  simp only[vx,T,seval,ZV];simp only[i1];refine Lq ⟨i+1,by omega,?_⟩ ?_ ?_
  ·rw[kz,kz,he,show z.natAbs/BB^i%BB=w.natAbs/BB^i%BB by omega]
  ·refine Sa ?_;simp only[ry,seval,rz,ZV]
  simp only;omega
 simp only[vx,T,seval,ZV];have Tm:i=zn z:=by omega
 refine vb (decide_eq_true ?_).symm;have e1:z.natAbs%BB^i=z.natAbs:=Nat.mod_eq_of_lt (by rw[Tm];exact cC _);have e2:w.natAbs%BB^i=w.natAbs:=Nat.mod_eq_of_lt (by rw[Tm,Yh];exact cC _);rw[e1,e2]at he;rw[←b5 z,←b5 w,h1,he]
open Go Go.Eng
theorem GJ {x:Rat}(h0:0<x.num):(x⁻¹).num=(x.den:Int)∧((x⁻¹).den:Int)=x.num:=by
 obtain⟨d,hd⟩:∃d:Nat,x.num=d:=⟨x.num.toNat,by omega⟩;have hc:(x.den:Int).natAbs.Coprime d:=by
  have:=x.reduced
  rw[hd]at this;exact this.symm
 obtain⟨r0,S9⟩:∃r0:Rat,r0=⟨(x.den:Int),d,by omega,hc⟩:=⟨_,rfl⟩;have e1:r0.num=(x.den:Int):=by rw[S9]
 have e2:r0.den=d:=by rw[S9]
 have e3:mkRat x.den d=r0:=by rw[←e1,←e2];exact Rat.mkRat_self r0
 rw[inv_pos hd,e3,e1,e2,hd];exact⟨rfl,rfl⟩
theorem GS {x:Rat}(h0:x.num<0):(x⁻¹).num= -(x.den:Int)∧((x⁻¹).den:Int)= -x.num:=by
 obtain⟨d,hd⟩:∃d:Nat,x.num= -(d:Int):=⟨(-x.num).toNat,by omega⟩;have hc:(-(x.den:Int)).natAbs.Coprime d:=by
  have:=x.reduced
  rw[hd,Int.natAbs_neg]at this;rw[Int.natAbs_neg];exact this.symm
 obtain⟨r0,S9⟩:∃r0:Rat,r0=⟨-(x.den:Int),d,by omega,hc⟩:=⟨_,rfl⟩;have e1:r0.num= -(x.den:Int):=by rw[S9]
 have e2:r0.den=d:=by rw[S9]
 have e3:mkRat (-(x.den:Int)) d=r0:=by rw[←e1,←e2];exact Rat.mkRat_self r0
 rw[inv_neg hd,e3,e1,e2,hd];exact⟨rfl,by omega⟩
theorem Bb (x:Rat)(hx:qm x<2^40)(h0:x≠0):Pr prog 131 [QV x] (QV x⁻¹):=by
 have hn:x.num≠0:=fun h=>h0 (Rat.num_eq_zero.1 h);unfold qm at hx;have n1:=nI (x.den:Int) (by rw[aF];omega);have n2:=nI x.num (by omega)
 by_cases hp:0<x.num
 ·have hz:zs x.num=false:=dF.2 (by omega);obtain⟨e1,e2⟩:=GJ hp;have e:=F9 e1 e2;unfold QV;rw[e];refine pw func131 ⟨[0,1,2,5],[]⟩ ?_;simp only[Tryz.f131,ntmps131,iz,seval];simp only[vx,T,seval,QC];refine⟨fun h=>(by rw[hz]at h;cases h),fun _=>Lg ?_⟩;simp only[vx,T,seval,QC];exact Ve rfl
 have hz:zs x.num=true:=kN.2 (by omega);obtain⟨e1,e2⟩:=GS (by omega:x.num<0);have e:=F9 e1 e2;unfold QV;rw[e];refine pw func131 ⟨[0,1,2,5],[]⟩ ?_;simp only[Tryz.f131,ntmps131,iz,seval];simp only[vx,T,seval,QC];refine⟨fun _=>Lg ?_,fun h=>(by rw[hz]at h;cases h)⟩;simp only[vx,T,seval,QC];refine Cg n1 ?_;simp only[vx,T,seval,QC,ZV];refine Cg n2 ?_;simp only[vx,T,seval,QC,ZV];exact Ve rfl
theorem BW (n:Int)(d:Nat)(hn:zn n<2^40)(hd:nl d<2^40)(h0:0<d):Pr prog 50 [ZV n,ZV (d:Int)] (QV (mkRat n d)):=by
 have hg:(0:Int)<(Int.gcd n d:Nat):=by have:=xK (n:=n) h0;omega
 have Yl:zn (Int.gcd n d)≤nl d:=rL (b:=(d:Int)) (by
  have:=Nat.gcd_le_right n.natAbs (show 0<(d:Int).natAbs by omega)
  exact this)
 have c:=eG n (d:Int) (by omega) (by rw[aF];omega);have s:=gE (d:Int) (by rw[aF];omega);rw[show b9 (d:Int)=1 by unfold b9;rw[if_neg (by omega),if_neg (by omega)]]at s;have q1:=bC n (Int.gcd n d) (by omega) (by omega) (by omega);have q2:=bC d (Int.gcd n d) (by rw[aF];omega) (by omega) (by omega);rw[yz h0]at q1;rw[yr h0]at q2;refine pw func50 ⟨[0,1,2,3,4,5,11],[]⟩ ?_;simp only[Tryz.f50,ntmps50,iz,seval];simp only[vx,T,seval,ZV];refine Cg c ?_;simp only[vx,T,seval,ZV];refine Cg s ?_;simp only[vx,T,seval,ZV];refine Cg q1 ?_;simp only[vx,T,seval,ZV];refine Cg q2 ?_;simp only[vx,T,seval,ZV];refine Va ?_;simp only[cU,aY,ry,seval,QV,QC]
theorem oi (n:Int)(d:Nat)(hn: -9223372036854775808≤n∧n≤9223372036854775807)(hd:d≤9223372036854775807)(h0:0<d)(k1:zn n<2^39)(k2:nl d<2^39):
  Pr prog 22 [.one (.int .i64 n),.one (.int .i64 d)] (QV (mkRat n d)):=by
 have c1:=fD n hn.1 hn.2;have c2:=fD (d:Int) (by omega) (by omega);have m:=BW n d (by omega) (by omega) h0;refine pw func22 ⟨[0,1,4,6],[]⟩ ?_;simp only[Tryz.f22,ntmps22,iz,seval];simp only[vx,T,seval,ZV];refine⟨fun h=>absurd h (by omega),fun _=>Lg ?_⟩;simp only[vx,T,seval,ZV];refine Cg c1 ?_;simp only[vx,T,seval,ZV];refine Cg c2 ?_;simp only[vx,T,seval,ZV];refine Cg m ?_;simp only[vx,T,seval,ZV,QV,QC];exact Ve rfl
def Oa (a b:Rat):Int:=b9 (a.num*b.den-b.num*a.den)
theorem vo {a b:Rat}:Oa a b=0↔a=b:=by
 unfold Oa
 have e:b9 (a.num*b.den-b.num*a.den)=0↔a.num*b.den-b.num*a.den=0:=by unfold b9;(repeat' split)<;>omega
 rw[e]
 constructor
 ·intro h;have h2:a.num*b.den=b.num*a.den:=by omega
  rw[←Rat.mkRat_self a,←Rat.mkRat_self b];exact(Rat.mkRat_eq_iff a.den_nz b.den_nz).2 h2
 rintro rfl;omega
theorem AS (a b:Rat)(ha:qm a<2^38)(hb:qm b<2^38):Pr prog 186 [QV a,QV b] (.one (.int .i64 (Oa a b))):=by
 have na:zn a.num<2^38∧nl a.den<2^38:=by unfold qm at ha;omega
 have nb:zn b.num<2^38∧nl b.den<2^38:=by unfold qm at hb;omega
 have ma:=bo a.num (b.den:Int) (by omega) (by rw[aF];omega);have mb:=bo b.num (a.den:Int) (by omega) (by rw[aF];omega);have e1:=cY a.num (b.den:Int);have e2:=cY b.num (a.den:Int);rw[aF]at e1 e2;have cc:=Ef (a.num*b.den) (b.num*a.den) (by omega) (by omega);refine pw func186 ⟨[0,1,2,3,4],[]⟩ ?_;simp only[Tryz.f186,ntmps186,iz,seval];simp only[vx,T,seval,QV,QC];refine Cg ma ?_;simp only[vx,T,seval,ZV];refine Cg mb ?_;simp only[vx,T,seval,ZV];refine Cg cc ?_;simp only[vx,T,seval,ZV];exact Ve rfl
theorem NW {x:Rat}(h:AH x=none)(h0:0≤x.num):cI x.num.natAbs*cI x.num.natAbs≠x.num.natAbs∨cI x.den*cI x.den≠x.den:=by
 unfold AH at h
 split at h
 ·cases h
 rename_i hc
 by_cases k1:cI x.num.natAbs*cI x.num.natAbs=x.num.natAbs
 ·by_cases k2:cI x.den*cI x.den=x.den
  ·exact absurd ⟨h0,k1,k2⟩ hc
  exact .inr k2
 exact .inl k1
theorem yH (x:Rat)(hx:qm x<2^38):Pr prog 157 [QV x] (match AH x with
  |some r=>.aB [QV r,.one (.bool true)]
  |none=>.aB [.agg [.bool false,.nil,.bool false,.nil],.one (.bool false)]):=by
 have hx':=hx;unfold qm at hx'
 by_cases h0:0≤x.num
 ·have hz:zs x.num=false:=dF.2 h0;have s1:=uw x.num h0 (by omega);have s2:=uw (x.den:Int) (by omega) (by rw[aF];omega);rw[Int.natAbs_natCast]at s2;have l1:nl (cI x.num.natAbs)≤zn x.num:=bf (AU _);have l2:nl (cI x.den)≤nl x.den:=bf (AU _);have m1:=bo (cI x.num.natAbs:Nat) (cI x.num.natAbs:Nat) (by rw[aF];omega) (by rw[aF];omega);have m2:=bo (cI x.den:Nat) (cI x.den:Nat) (by rw[aF];omega) (by rw[aF];omega);have e1:=cY (cI x.num.natAbs:Nat) (cI x.num.natAbs:Nat);have e2:=cY (cI x.den:Nat) (cI x.den:Nat);rw[aF]at e1 e2;have t1:=ob (((cI x.num.natAbs:Nat):Int)*(cI x.num.natAbs:Nat)) x.num (by omega) (by omega);have t2:=ob (((cI x.den:Nat):Int)*(cI x.den:Nat)) (x.den:Int) (by omega) (by rw[aF];omega);have q1:(((cI x.num.natAbs:Nat):Int)*(cI x.num.natAbs:Nat)=x.num)↔cI x.num.natAbs*cI x.num.natAbs=x.num.natAbs:=by
   rw[←Int.natCast_mul]
   generalize cI x.num.natAbs*cI x.num.natAbs=m
   omega
  have q2:(((cI x.den:Nat):Int)*(cI x.den:Nat)=(x.den:Int))↔cI x.den*cI x.den=x.den:=by
   rw[←Int.natCast_mul]
   generalize cI x.den*cI x.den=m
   omega
  cases hq:AH x with
  |some r=>
   obtain⟨_,_,k1,k2,k3,k4⟩:=pP hq;rw[decide_eq_true (q1.2 k1)]at t1;rw[decide_eq_true (q2.2 k2)]at t2;have er:=F9 k3 (show(r.den:Int)=(cI x.den:Nat) by rw[k4]);simp only;rw[show QV r= .agg _ from congrArg V.agg er];refine pw func157 ⟨[0,1,2,3,4,6,10,39],[]⟩ ?_;simp only[Tryz.f157,ntmps157,iz,seval];simp only[vx,T,seval,QV,QC];refine⟨fun h=>(by rw[hz]at h;cases h),fun _=>Lg ?_⟩;simp only[vx,T,seval,QV,QC];refine Cg s1 ?_;simp only[vx,T,seval,QV,QC,ZV];refine Cg s2 ?_;simp only[vx,T,seval,QV,QC,ZV];refine Cg m1 ?_;simp only[vx,T,seval,QV,QC,ZV];refine Cg t1 ?_;simp only[vx,T,seval,QV,QC,ZV];refine Cg m2 ?_;simp only[vx,T,seval,QV,QC,ZV];refine Cg t2 ?_;simp only[vx,T,seval,QV,ZV];exact Ve rfl
  |none=>
   simp only
   by_cases k1:cI x.num.natAbs*cI x.num.natAbs=x.num.natAbs
   ·have k2:=(NW hq h0).resolve_left fun h=>h k1;rw[decide_eq_true (q1.2 k1)]at t1;rw[decide_eq_false fun h=>k2 (q2.1 h)]at t2;refine pw func157 ⟨[0,1,2,3,4,6,10,39],[]⟩ ?_;simp only[Tryz.f157,ntmps157,iz,seval];simp only[vx,T,seval,QV,QC];refine⟨fun h=>(by rw[hz]at h;cases h),fun _=>Lg ?_⟩;simp only[vx,T,seval,QV,QC];refine Cg s1 ?_;simp only[vx,T,seval,QV,QC,ZV];refine Cg s2 ?_;simp only[vx,T,seval,QV,QC,ZV];refine Cg m1 ?_;simp only[vx,T,seval,QV,QC,ZV];refine Cg t1 ?_;simp only[vx,T,seval,QV,QC,ZV];refine Cg m2 ?_;simp only[vx,T,seval,QV,QC,ZV];refine Cg t2 ?_;simp only[vx,T,seval,QV,ZV];exact Ve rfl
   rw[decide_eq_false fun h=>k1 (q1.1 h)]at t1;refine pw func157 ⟨[0,1,2,3,4,6,10,39],[]⟩ ?_;simp only[Tryz.f157,ntmps157,iz,seval];simp only[vx,T,seval,QV,QC];refine⟨fun h=>(by rw[hz]at h;cases h),fun _=>Lg ?_⟩;simp only[vx,T,seval,QV,QC];refine Cg s1 ?_;simp only[vx,T,seval,QV,QC,ZV];refine Cg s2 ?_;simp only[vx,T,seval,QV,QC,ZV];refine Cg m1 ?_;simp only[vx,T,seval,QV,QC,ZV];refine Cg t1 ?_;simp only[vx,T,seval,QV,QC,ZV];exact Ve rfl
 have hz:zs x.num=true:=kN.2 (by omega);have hq:AH x=none:=by unfold AH;rw[if_neg fun h=>h0 h.1]
 rw[hq];refine pw func157 ⟨[0,1,2,3,4,6,10,39],[]⟩ ?_;simp only[Tryz.f157,ntmps157,iz,seval];simp only[vx,T,seval,QV,QC];refine⟨fun _=>Lg ?_,fun h=>(by rw[hz]at h;cases h)⟩;simp only[vx,T,seval,QV,QC];exact Ve rfl
open Go Go.Eng
open Go.Tw (El aE aH zE ai au ar aq aa QB cJ ah ag aO aJ tB aU ay dN)
theorem CC (q:Rat)(hq:qm q<2^40):Pr prog 134 [QV q] (QV (-q)):=by
 have c:=nI q.num (by unfold qm at hq;omega);refine pw func134 ⟨[0,1,2],[]⟩ ?_;simp only[Tryz.f134,ntmps134,iz,seval];simp only[vx,T,seval,QV,QC];refine Cg c ?_;simp only[vx,T,seval,ZV];exact Ve rfl
theorem Dq {ks:El}{k:Nat}(hk:ks.length=k)(q:Rat):∀(i j:Nat),i<k+1→j<4→
  (if i<k then fQ ks i j else[C.bool (zs q.num),C.ints .u32 (zm q.num),C.bool (zs (q.den:Int)),C.ints .u32 (zm (q.den:Int))].getD ((i-k)*4+j) C.any)=fQ (ks++[q]) i j:=by
 subst hk;intro i j hi hj
 by_cases h:i<ks.length
 ·rw[if_pos h];unfold fQ;rw[X7,X7,List.getElem?_append_left h]
 have:i=ks.length:=by omega
 subst this;rw[if_neg h,Nat.sub_self,Nat.zero_mul,Nat.zero_add];exact dH q (by rw[X7,List.getElem?_append_right (Nat.le_refl _),Nat.sub_self];rfl) j
theorem take_add {a b:El}{i:Nat}(h:i<a.length)(Tp:b.length=a.length):(aE a b).take (i+1)=(aE a b).take i++[a.getD i default+b.getD i default]:=by
 rw[eN h,eN (by omega:i<b.length),List.take_add_one];show _++(List.zipWith (· + ·) a b)[i]?.toList=_;rw[List.getElem?_zipWith,X8 h,X8 (by omega:i<b.length)];rfl
theorem H7 {a:El}{i:Nat}(h:i<a.length):(aH a).take (i+1)=(aH a).take i++[-(a.getD i default)]:=by
 rw[eN h,List.take_add_one];show _++(List.map (- ·) a)[i]?.toList=_;rw[List.getElem?_map,X8 h];rfl
theorem ux {h:Nat}{t:List El}(a b:El)(hl:a.length<2^30)(Tp:b.length=a.length)(Ul:Qk a)(Th:Qk b):Fr prog 78 [tV h t,eV a,eV b] (.rows 62 4 (aE a b).length (fQ (aE a b))):=by
 have hlen:(aE a b).length=a.length:=by unfold aE;rw[List.length_zipWith];omega
 refine fw func78 ⟨[1,2,6,7,8,12],[]⟩ ?_;simp only[Tryz.f78,ntmps78,iz,seval];simp only[vx,T,seval,eV,ae];refine Lk (fun y:{i:Nat//i≤a.length}=>⟨[(1,eV a),(2,eV b),(6,.one .nil),(7,.one (.own 1 4 0 y.1)),(8,.one (.int .i64 y.1))],[(1,⟨.rows 62 4 y.1 (fQ ((aE a b).take y.1)),true⟩)],2,28⟩) (fun y=>a.length-y.1) ⟨0,Nat.zero_le _⟩ ?_ (fun⟨i,hi⟩=>?_)
 ·refine Sa ?_;simp only[ry,seval,rz,eV,ae]
 have i1:=wI i (by omega);simp only[vx,T,seval,eV,ae];refine⟨fun h1=>Lg ?_,fun h1=>Lg ?_⟩
 ·have RP:i<a.length:=by omega
  have UA:=Ul.get i;have V7:=Th.get i;have RW:=take_add RP Tp;obtain⟨x,hx⟩:∃x,x=a.getD i default:=⟨_,rfl⟩;obtain⟨y,hy⟩:∃y,y=b.getD i default:=⟨_,rfl⟩;rw[←hx]at UA;rw[←hy]at V7;rw[←hx,←hy]at RW;simp only[vx,T,seval,eV,ae,←hx,←hy,qC];refine⟨by omega,by omega,Cg (BH x y UA V7) ?_⟩;simp only[vx,T,seval,QV,QC];simp only[i1];refine⟨⟨by omega,by omega⟩,Lq ⟨i+1,by omega⟩ ?_ ?_⟩
  ·refine Sa ?_;simp only[ry,seval,rz,eV,ae];rw[RW];exact Dq (by rw[X5];omega) (x+y)
  simp only;omega
 have RP:i=a.length:=by omega
 subst RP;have e:(aE a b).take a.length=aE a b:=by rw[←hlen,List.take_length]
 simp only[vx,T,seval,e];exact⟨hlen.symm,rfl,hlen.symm,fun _ _ _ _=>rfl⟩
theorem zj {h:Nat}{t:List El}(a:El)(hl:a.length<2^30)(Ul:Qk a):Fr prog 96 [tV h t,eV a] (.rows 62 4 (aH a).length (fQ (aH a))):=by
 have hlen:(aH a).length=a.length:=by unfold Go.Tw.aH;rw[List.length_map]
 refine fw func96 ⟨[1,4,5,6,10],[]⟩ ?_;simp only[Tryz.f96,ntmps96,iz,seval];simp only[vx,T,seval,eV,ae];refine Lk (fun y:{i:Nat//i≤a.length}=>⟨[(1,eV a),(4,.one .nil),(5,.one (.own 1 4 0 y.1)),(6,.one (.int .i64 y.1))],[(1,⟨.rows 62 4 y.1 (fQ ((aH a).take y.1)),true⟩)],2,22⟩) (fun y=>a.length-y.1) ⟨0,Nat.zero_le _⟩ ?_ (fun⟨i,hi⟩=>?_)
 ·refine Sa ?_;simp only[ry,seval,rz,eV,ae]
 have i1:=wI i (by omega);simp only[vx,T,seval,eV,ae];refine⟨fun h1=>Lg ?_,fun h1=>Lg ?_⟩
 ·have RP:i<a.length:=by omega
  have UA:=Ul.get i;have RW:=H7 RP;obtain⟨x,hx⟩:∃x,x=a.getD i default:=⟨_,rfl⟩;rw[←hx]at UA;rw[←hx]at RW;simp only[vx,T,seval,eV,ae,←hx,qC];refine⟨by omega,Cg (CC x (by omega)) ?_⟩;simp only[vx,T,seval,QV,QC];simp only[i1];refine⟨⟨by omega,by omega⟩,Lq ⟨i+1,by omega⟩ ?_ ?_⟩
  ·refine Sa ?_;simp only[ry,seval,rz,eV,ae];rw[RW];exact Dq (by rw[X5];omega) (-x)
  simp only;omega
 have RP:i=a.length:=by omega
 subst RP;have e:(aH a).take a.length=aH a:=by rw[←hlen,List.take_length]
 simp only[vx,T,seval,e];exact⟨hlen.symm,rfl,hlen.symm,fun _ _ _ _=>rfl⟩
theorem IQ {h:Nat}{t:List El}(a b:El)(hl:a.length<2^30)(Tp:b.length=a.length)(Ul:Qk a)(Th:Qk b):Fr prog 159 [tV h t,eV a,eV b] (.rows 62 4 (aE a (aH b)).length (fQ (aE a (aH b)))):=by
 have Z5:Qk (aH b):=fun x hx=>by
  obtain⟨y,hy,rfl⟩:=List.mem_map.1 hx;rw[Go.Tw.A8];exact Th y hy
 have n:=(zj (h:=h) (t:=t) b (by omega) Th).rows;have s:=ux (h:=h) (t:=t) a (aH b) hl (by rw[ar];exact Tp) Ul Z5;refine fw func159 ⟨[0,1,2,6],[]⟩ ?_;simp only[Tryz.f159,ntmps159,iz,seval];simp only[vx,T,seval,tV,tC,eV,ae];refine Cg n ?_;simp only[vx,T,seval,tV,tC,eV,ae];refine cK.fresh s ?_;simp only[vx,T,seval,tV,tC,eV,ae];exact⟨rfl,rfl,fun _ _ _ _=>rfl⟩
theorem CI {x:Rat}:(0:Int)<((zm x.num).length:Nat)↔x≠0:=by
 rw[aV];have h:zn x.num=0↔x.num=0:=ey;have h2:x.num=0↔x=0:=Rat.num_eq_zero
 constructor
 ·intro k e
  have:=h.2 (h2.2 e)
  omega
 intro k
 have:¬zn x.num=0:=fun e=>k (h2.1 (h.1 e))
 omega
theorem DD {a:El}:a=zE a.length↔∀i,i<a.length→a.getD i default=0:=by
 constructor
 ·intro h i hi;rw[h];unfold zE;rw[X7,List.getElem?_replicate]
  split<;>rfl
 intro h;refine List.ext_getElem (by rw[au]) fun i h1 h2=>?_
 have:=h i h1
 rw[eN h1]at this;rw[this];exact(List.eq_of_mem_replicate (List.getElem_mem h2)).symm
theorem jt (a:El)(hl:a.length<2^38):Pr prog 76 [eV a] (.one (.bool (decide (a=zE a.length)))):=by
 refine pw func76 ⟨[0,2,3,7,17],[]⟩ ?_;simp only[Tryz.f76,ntmps76,iz,seval];simp only[vx,T,seval,eV,ae];refine Lk (fun y:{i:Nat//i≤a.length∧∀j,j<i→a.getD j default=0}=>⟨[(0,eV a),(2,.one (.bool false)),(3,.one (.int .i64 y.1))],[],1,18⟩) (fun y=>a.length-y.1) ⟨0,Nat.zero_le _,fun j hj=>absurd hj (Nat.not_lt_zero _)⟩ ?_ (fun⟨i,hi,hz⟩=>?_)
 ·refine Sa ?_;simp only[ry,seval,rz,eV,ae]
 have i1:=wI i (by omega);simp only[vx,T,seval,eV,ae];refine⟨fun h1=>Lg ?_,fun h1=>Lg ?_⟩
 ·have RP:i<a.length:=by omega
  have key:a.getD i default≠0→(decide (a=zE a.length))=false:=fun h=>decide_eq_false fun e=>h (DD.1 e i RP);have SA:∀x,x=a.getD i default→x=0→∀j,j<i+1→a.getD j default=0:=fun x hx h0 j hj=>by
   by_cases To:j<i
   ·exact hz j To
   obtain rfl:j=i:=by omega
   rw[←hx,h0]
  obtain⟨x,hx⟩:∃x,x=a.getD i default:=⟨_,rfl⟩;rw[←hx]at key;simp only[vx,T,seval,eV,ae,←hx,qC];refine⟨by omega,fun g=>Lg ?_,fun g=>Lg ?_⟩
  ·rw[key (CI.1 g)];simp only[vx,T,seval,eV,ae];exact Ve rfl
  have h0:x=0:=Classical.byContradiction fun h=>g (CI.2 h);simp only[vx,T,seval,eV,ae,i1];refine Lq ⟨i+1,by omega,SA x hx h0⟩ ?_ (by show a.length-(i+1)<a.length-i;omega);refine Sa ?_;simp only[ry,seval,rz,eV,ae]
 have RP:i=a.length:=by omega
 subst RP;rw[decide_eq_true (DD.2 hz)];simp only[vx,T,seval,eV,ae];exact Ve rfl
end Go.Proofs.YtchkplkghknabaaGreat
namespace Go.Tw
open Go Go.R Go.Eng
section
variable {A:List R}
def jβ:Nat:=2^20
def jμ:Nat:=12288
def jB (F:Nat):Nat:=mF F jβ jμ
theorem PE:∀F,F≤6→∀k,k≤F→jB F<2^37∧jX F (jB F) k<2^37:=by decide+kernel
theorem ax.Qp (S:Src 64 A)(hA:j9 A){t U rs:List El}{a:El}{x:R}{β μ:Nat}(h:ax A t a x β μ)(h1:β≤jβ)(h2:μ≤jμ)(E:Ext A t t.length U rs):
  ∃B X,B<2^37∧X<2^37∧QB B a∧QU B X U.length t.length U rs:=by
 obtain⟨F,I,_⟩:=h.tg.rj S hA;obtain⟨n1,n2⟩:=PE F I.le t.length (I.mx _ h.tg);exact⟨jB F,jX F (jB F) t.length,n1,n2,(h.Q3 S hA I).mono (Lu h1 h2),E.QQ S hA (fun i hi=>h.tg.mem i hi) I (Nat.le_refl _)⟩
end
end Go.Tw
namespace Go.Tw
open Go Go.R Go.Eng
def wo (i:Nat)(a:El):Nat→El
 |0=>[]
 |k+1=>if k/2^i%2=0 then wo i a k++[a.getD k 0]else wo i a k
def Oc (i:Nat)(a:El):Prop:=∃k,k<a.length∧k/2^i%2=1∧a.getD k 0≠0
theorem sM {a b:El}{k:Nat}(h:k<a.length):(a++b).getD k 0=a.getD k 0:=by
 rw[X7,List.getElem?_append_left h,←X7]
theorem oL {a b:El}{k:Nat}:(a++b).getD (a.length+k) 0=b.getD k 0:=by
 rw[X7,List.getElem?_append_right (by omega),←X7,Nat.add_sub_cancel_left]
theorem B8 {i:Nat}{a:El}:∀{n:Nat},n≤a.length→∀c∈wo i a n,c∈a
 |0,_,c,h=>by cases h
 |n+1,hn,c,h=>by
  rw[wo]at h
  split at h
  ·rcases List.mem_append.1 h with h|h
   ·exact B8 (by omega) c h
   rw[List.mem_singleton.1 h,X7,X8 (by omega)];exact List.getElem_mem _
  exact B8 (by omega) c h
theorem HZ {i:Nat}{a:El}:∀{n:Nat},(wo i a n).length≤n
 |0=>Nat.le_refl _
 |n+1=>by
  have:=HZ (i:=i) (a:=a) (n:=n)
  rw[wo]
  split
  ·rw[X6];show _+1≤_;omega
  omega
theorem DX {i:Nat}{a b:El}:∀{n:Nat},n≤a.length→wo i (a++b) n=wo i a n
 |0,_=>rfl
 |n+1,hn=>by rw[wo,wo,DX (by omega),sM (by omega)]
theorem D3 {i h n:Nat}(hi:i<h):(2^h+n)/2^i%2=n/2^i%2:=by
 have e:2^h=2^i*(2*2^(h-i-1)):=by
  rw[←Nat.mul_assoc,Nat.mul_comm (2^i) 2,←Nat.pow_succ',←Nat.pow_add]
  congr 1;omega
 rw[e,Nat.mul_add_div (Nat.two_pow_pos i)];omega
theorem Ao {i h:Nat}{a b:El}(hi:i<h)(ha:a.length=2^h):∀{n:Nat},wo i (a++b) (2^h+n)=wo i a (2^h)++wo i b n
 |0=>by rw[Nat.add_zero,DX (by omega),wo,List.append_nil]
 |n+1=>by
  rw[←Nat.add_assoc,wo,wo,Ao hi ha,D3 hi];rw[show (a++b).getD (2^h+n) 0=b.getD n 0 by rw[←ha];exact oL]
  split
  ·rw[List.append_assoc]
  rfl
theorem BU {i:Nat}{a:El}:∀{n:Nat},n≤2^i→n≤a.length→wo i a n=a.take n
 |0,_,_=>by rw[wo,List.take_zero]
 |n+1,h1,h2=>by
  rw[wo,BU (by omega) (by omega),Nat.div_eq_of_lt (by omega),if_pos rfl,List.take_add_one,X7,X8 (by omega)];rfl
theorem BN {i:Nat}{a:El}:∀{n:Nat},n≤2^i→wo i a (2^i+n)=wo i a (2^i)
 |0,_=>rfl
 |n+1,h=>by
  have e:(2^i+n)/2^i%2=1:=by
   have:=Nat.add_div_left n (Nat.two_pow_pos i)
   rw[this,Nat.div_eq_of_lt (by omega)]
  rw[←Nat.add_assoc,wo,if_neg (by omega),BN (by omega)]
theorem Oc.left {i:Nat}{a b:El}(h:Oc i a):Oc i (a++b):=by
 obtain⟨k,h1,h2,h3⟩:=h;exact⟨k,by rw[X6];omega,h2,by rw[sM h1];exact h3⟩
theorem Oc.right {i h:Nat}{a b:El}(hi:i<h)(ha:a.length=2^h)(H:Oc i b):Oc i (a++b):=by
 obtain⟨k,h1,h2,h3⟩:=H;exact⟨2^h+k,by rw[X6,ha];omega,by rw[D3 hi];exact h2,by rw[←ha,oL];exact h3⟩
theorem zD {h:Nat}{a b:El}(ha:a.length=2^h)(hb:b.length=2^h)(H:¬Oc h (a++b)):b=zE (2^h):=by
 refine List.ext_getElem (by rw[hb,au]) fun k h1 h2=>?_;have e:(2^h+k)/2^h%2=1:=by
  have:=Nat.add_div_left k (Nat.two_pow_pos h)
  rw[this,Nat.div_eq_of_lt (by omega)]
 have:b.getD k 0=0:=Classical.byContradiction fun h0=>H ⟨2^h+k,by rw[X6];omega,e,by rw[←ha,oL];exact h0⟩
 rw[X7,X8 h1]at this;rw[show b[k]=0 from this];exact(List.getElem_replicate _).symm
theorem NX {t t':List El}{i n:Nat}(h1:∀k,k<i→t'.getD k []=t.getD k [])
  (h2:∀k,i≤k→k+1<n→t'.getD k []=wo i (t.getD (k+1) []) (2^(k+1))∧(t.getD (k+1) []).length=2^(k+1)∧¬Oc i (t.getD (k+1) [])):
  ∀(h:Nat),i≤h→h+1≤n→∀a:El,a.length=2^(h+1)→¬Oc i a→(wo i a (2^(h+1))).length=2^h∧val h t' (wo i a (2^(h+1)))=val (h+1) t a:=by
 intro h
 induction h with
 |zero=>
  intro hi _ a ha hn;obtain rfl:i=0:=by omega
  have e:a=a.take (2^0)++a.drop (2^0):=(List.take_append_drop _ a).symm;have z:=zD (ah ha) (ag ha) (e▸hn);have w:wo 0 a (2^(0+1))=a.take (2^0):=by
   rw[Nat.pow_succ,Nat.mul_two,BN (Nat.le_refl _),BU (Nat.le_refl _) (by rw[ha];decide)]
  rw[w];refine⟨ah ha,?_⟩;show val 0 t' _=val 0 t (a.take (2^0))+val 0 t (a.drop (2^0))*_;rw[z,val_zero,zero_mul,add_zero];rfl
 |succ h ih=>
  intro hi hn a ha no;have e:a=a.take (2^(h+1))++a.drop (2^(h+1)):=(List.take_append_drop _ a).symm;have p2:2^(h+1+1)=2^(h+1)+2^(h+1):=by rw[Nat.pow_succ,Nat.mul_two]
  by_cases k:i=h+1
  ·subst k;have z:=zD (ah ha) (ag ha) (e▸no);have w:wo (h+1) a (2^(h+1+1))=a.take (2^(h+1)):=by
    rw[p2,BN (Nat.le_refl _),BU (Nat.le_refl _) (by rw[ha,p2];omega)]
   rw[w];refine⟨ah ha,?_⟩;rw[val_congr (z:=t) h1,show val (h+1+1) t a=val (h+1) t (a.take (2^(h+1)))+val (h+1) t (a.drop (2^(h+1)))*sqrt (val (h+1) t (t.getD (h+1) []))from rfl,z,val_zero,zero_mul,add_zero]
  have Tm:i≤h:=by omega
  have n1:¬Oc i (a.take (2^(h+1))):=fun H=>no (e▸H.left);have n2:¬Oc i (a.drop (2^(h+1))):=fun H=>no (e▸H.right (by omega) (ah ha));have w:wo i a (2^(h+1+1))=wo i (a.take (2^(h+1))) (2^(h+1))++wo i (a.drop (2^(h+1))) (2^(h+1)):=by
   conv=>lhs;rw[e,p2]
   exact Ao (by omega) (ah ha)
  obtain⟨l1,v1⟩:=ih Tm (by omega) _ (ah ha) n1;obtain⟨l2,v2⟩:=ih Tm (by omega) _ (ag ha) n2;obtain⟨r1,r2,r3⟩:=h2 h Tm (by omega);obtain⟨_,v3⟩:=ih Tm (by omega) _ r2 r3;rw[w];refine⟨by rw[X6,l1,l2,←Nat.mul_two,←Nat.pow_succ],?_⟩;rw[gh l1,v1,v2,r1,v3];rfl
def fx (i:Nat)(t:List El):List El:=(List.range (t.length-1)).map fun k=>if k<i then t.getD k []else wo i (t.getD (k+1) []) (2^(k+1))
theorem kg {i:Nat}{t:List El}:(fx i t).length=t.length-1:=by unfold fx;simp
theorem js {i k:Nat}{t:List El}(h:k<t.length-1):(fx i t).getD k []=if k<i then t.getD k []else wo i (t.getD (k+1) []) (2^(k+1)):=by
 unfold fx;rw[X7,List.getElem?_map,List.getElem?_range h];rfl
section
variable {A:List R}{t:List El}{i:Nat}
theorem TG.wo (T:TG A t)(hi:i<t.length)(no:∀k,i<k→k<t.length→¬Oc i (t.getD k [])){h:Nat}(h1:i≤h)(h2:h<t.length){a:El}(ha:a.length=2^(h+1))(na:¬Oc i a):
  (Tw.wo i a (2^(h+1))).length=2^h∧val h (fx i t) (Tw.wo i a (2^(h+1)))=val (h+1) t a:=
 NX (n:=t.length) (fun k hk=>by rw[js (by omega),if_pos hk]) (fun k hk hn=>⟨by rw[js (by omega),if_neg (by omega)],(T.rd.rl (k+1) hn).1,no _ (by omega) hn⟩) h h1 h2 a ha na
theorem TG.drop (T:TG A t)(hi:i<t.length)(no:∀k,i<k→k<t.length→¬Oc i (t.getD k [])):TG A (fx i t):=by
 have low:∀k,k<i→(fx i t).getD k []=t.getD k []:=fun k hk=>by rw[js (by omega),if_pos hk]
 have lowv:∀k,k≤i→∀a,val k (fx i t) a=val k t a:=fun k hk a=>val_congr (fun j hj=>low j (by omega)) a;have high:∀k,i≤k→k<t.length-1→((fx i t).getD k []).length=2^k∧val k (fx i t) ((fx i t).getD k [])=val (k+1) t (t.getD (k+1) []):=fun k hk hn=>by
  rw[js hn,if_neg (by omega)];exact T.wo hi no hk (by omega) (T.rd.rl (k+1) (by omega)).1 (no _ (by omega) (by omega))
 have root:∀j,j<t.length-1→∀m,m<j→In (if j<i then j else j+1) t (R.sqrt (val m (fx i t) ((fx i t).getD m []))):=fun j hj m hm=>by
  by_cases k:m<i
  ·rw[low m k,lowv m (by omega)]
   exact(In.root (h:=m) (t:=t)).le (by split<;>omega)
  rw[(high m (by omega) (by omega)).2,if_neg (by omega)];exact(In.root (h:=m+1) (t:=t)).le (by omega)
 refine⟨⟨fun k hk=>?_,fun k hk x hx=>?_⟩,fun k hk=>?_⟩
 all_goals rw[kg]at hk
 ·by_cases g:k<i
  ·rw[low k g,lowv k (by omega)];exact T.rd.rl k (by omega)
  obtain⟨e1,e2⟩:=high k (by omega) hk;exact⟨e1,by rw[e2];exact(T.rd.rl (k+1) (by omega)).2⟩
 ·by_cases g:k<i
  ·rw[low k g,lowv k (by omega)];refine T.rd.ns k (by omega) x ?_;obtain⟨a,ha,e⟩:=hx;exact⟨a,ha,by rw[←e,lowv k (by omega)]⟩
  rw[(high k (by omega) hk).2];refine T.rd.ns (k+1) (by omega) x (In.mM (T.rd.le (by omega)) (fun m hm=>?_) hx)
  have:=root k hk m hm
  rwa [if_neg g]at this
 by_cases g:k<i
 ·rw[low k g,lowv k (by omega)];exact T.mem k (by omega)
 rw[(high k (by omega) hk).2];exact T.mem (k+1) (by omega)
end
structure bO (A:List R) (B:Nat) (t:List El) (a:El) (x:R):Prop where
 tg:TG A t
 len:a.length=2^t.length
 val:val t.length t a=x
 bits:gW B a
 tb:∀j,j<t.length→gW B (t.getD j [])
theorem gW.wo {B i n:Nat}{a:El}(h:gW B a)(hn:n≤a.length):gW B (Tw.wo i a n):=fun c hc=>h c (B8 hn c hc)
theorem bO.drop {A:List R}{B:Nat}{t:List El}{a:El}{x:R}(h:bO A B t a x){i:Nat}(hi:i<t.length)(no:∀k,i<k→k<t.length→¬Oc i (t.getD k []))(na:¬Oc i a):
  bO A B (fx i t) (Tw.wo i a a.length) x:=by
 obtain⟨n,hn⟩:∃n,t.length=n+1:=⟨t.length-1,by omega⟩;have hl:=h.len;rw[hn]at hl;have hv:=h.val;rw[hn]at hv;obtain⟨e1,e2⟩:=h.tg.wo hi no (h:=n) (by omega) (by omega) hl na;have hd:(fx i t).length=n:=by rw[kg];omega
 refine⟨h.tg.drop hi no,by rw[hd,hl];exact e1,by rw[hd,hl,e2,hv],h.bits.wo (Nat.le_refl _),fun j hj=>?_⟩;rw[hd]at hj;rw[js (by omega)]
 split
 ·exact h.tb j (by omega)
 exact(h.tb (j+1) (by omega)).wo (by rw[(h.tg.rd.rl (j+1) (by omega)).1];exact Nat.le_refl _)
theorem bO.num {A:List R}{B:Nat}{t:List El}{a:El}{x:R}(h:bO A B t a x):ax A t a x ((B+1)*2^t.length) (2^t.length):=by
 rw[←h.val];exact .short h.tg h.len h.bits
theorem bO.sub {A A':List R}{B:Nat}{t:List El}{a:El}{x:R}(hA:∀a,a∈A→a∈A')(h:bO A B t a x):bO A' B t a x:=⟨h.tg.sub hA,h.len,h.val,h.bits,h.tb⟩
end Go.Tw
namespace Go.Proofs.YtchkplkghknabaaGreat
open Go.Proofs.Tryz
open Go Go.Eng
open Go.Tw (El Oc wo)
theorem r7 {k i:Nat}(hi:i≤8):(k:Int).fdiv (2^(if i≤64 then i else 64))=((k/2^i:Nat):Int):=by
 rw[if_pos (by omega),Int.fdiv_eq_ediv_of_nonneg _ (Int.pow_nonneg (by decide)),show ((2:Int)^i)=((2^i:Nat):Int) by rw[Int.natCast_pow];rfl];rfl
theorem HD {x:Rat}(h:b9 x.num=0):x=0:=Rat.num_eq_zero.1 (vq.1 h)
theorem D0 (m:Nat):(m:Int).tmod 2=((m%2:Nat):Int):=rfl
theorem zK (a:El)(i:Nat)(hi:i≤8)(hl:a.length<2^38)(ha:Qk a){b:Bool}(hb:b=true↔Oc i a):Pr prog 97 [eV a,.one (.int .i64 i)] (.one (.bool b)):=by
 refine pw func97 ⟨[0,1,4,5,9,24],[]⟩ ?_;simp only[Tryz.f97,ntmps97,iz,seval];simp only[vx,T,seval,eV,ae];refine Lk (fun y:{k:Nat//k≤a.length∧∀j,j<k→j/2^i%2=1→a.getD j default=0}=>⟨[(0,eV a),(1,.one (.int .i64 i)),(4,.one (.bool false)),(5,.one (.int .i64 y.1))],[],1,25⟩) (fun y=>a.length-y.1) ⟨0,Nat.zero_le _,fun j hj=>absurd hj (Nat.not_lt_zero _)⟩ ?_ (fun⟨k,hk,hz⟩=>?_)
 ·refine Sa ?_;simp only[ry,seval,rz,eV,ae]
 have i1:=wI k (by omega);simp only[vx,T,seval,eV,ae,r7 hi,D0];refine⟨fun g=>Lg ?_,fun g=>Lg ?_⟩
 ·have TY:k<a.length:=by omega
  have c:=rJ (a.getD k default) (by have:=ha.get k;omega);have Tu:k/2^i%2=1→a.getD k default≠0→b=true:=fun h1 h2=>hb.2 ⟨k,TY,h1,h2⟩;have SA:(k/2^i%2=1→a.getD k default=0)→∀j,j<k+1→j/2^i%2=1→a.getD j default=0:=fun h0 j hj h1=>by
   by_cases Vc:j<k
   ·exact hz j Vc h1
   obtain rfl:j=k:=by omega
   exact h0 h1
  obtain⟨x,hx⟩:∃x,x=a.getD k default:=⟨_,rfl⟩;rw[←hx]at c Tu SA;simp only[vx,T,seval,eV,ae,r7 hi,D0];refine⟨by omega,fun g2=>Lg ?_,fun g2=>Lg ?_⟩
  ·simp only[vx,T,seval,eV,ae,←hx,qC];refine⟨by omega,Cg c ?_⟩;simp only[vx,T,seval,eV,ae];refine⟨fun h=>Lg ?_,fun h=>Lg ?_⟩
   ·rw[Tu (by omega) (fun e=>h (by rw[e];rfl))];simp only[vx,T,seval,eV,ae];exact Ve rfl
   simp only[vx,T,seval,eV,ae,i1];refine Lq ⟨k+1,by omega,SA fun _=>HD (by omega)⟩ ?_ (by show a.length-(k+1)<a.length-k;omega);refine Sa ?_;simp only[ry,seval,rz,eV,ae]
  simp only[vx,T,seval,eV,ae,i1];refine Lq ⟨k+1,by omega,SA fun e=>absurd e (by omega)⟩ ?_ (by show a.length-(k+1)<a.length-k;omega);refine Sa ?_;simp only[ry,seval,rz,eV,ae]
 have TY:k=a.length:=by omega
 have e:b=false:=by
  cases b with
  |false=>rfl
  |true=>
   obtain⟨j,h1,h2,h3⟩:=hb.1 rfl;exact absurd (hz j (by omega) h2) h3
 rw[e];simp only[vx,T,seval,eV,ae];exact Ve rfl
theorem Kj {i:Nat}{a:El}{k:Nat}(h:k/2^i%2=0):wo i a (k+1)=wo i a k++[a.getD k default]:=by rw[wo,if_pos h];rfl
theorem Ke {i:Nat}{a:El}{k:Nat}(h:k/2^i%2≠0):wo i a (k+1)=wo i a k:=by rw[wo,if_neg h]
theorem vk (a:El)(i:Nat)(hi:i≤8)(hl:a.length<2^38):Fr prog 98 [eV a,.one (.int .i64 i)] (.rows 62 4 (wo i a a.length).length (fQ (wo i a a.length))):=by
 refine fw func98 ⟨[0,1,4,5,6,10,17],[]⟩ ?_;simp only[Tryz.f98,ntmps98,iz,seval];simp only[vx,T,seval,eV,ae];refine Lk (fun y:{k:Nat//k≤a.length}=>⟨[(0,eV a),(1,.one (.int .i64 i)),(4,.one .nil),(5,.one (.own 1 4 0 (wo i a y.1).length)),(6,.one (.int .i64 y.1))],[(1,⟨.rows 62 4 (wo i a y.1).length (fQ (wo i a y.1)),true⟩)],2,26⟩) (fun y=>a.length-y.1) ⟨0,Nat.zero_le _⟩ ?_ (fun⟨k,hk⟩=>?_)
 ·refine Sa ?_;simp only[ry,seval,rz,eV,ae];exact⟨rfl,rfl⟩
 have i1:=wI k (by omega);simp only;have wl:=Go.Tw.HZ (i:=i) (a:=a) (n:=k);simp only[vx,T,seval,eV,ae,r7 hi,D0];refine⟨fun g=>Lg ?_,fun g=>Lg ?_⟩
 ·have TY:k<a.length:=by omega
  simp only[vx,T,seval,eV,ae,r7 hi,D0];refine⟨by omega,fun g2=>Lg ?_,fun g2=>Lg ?_⟩
  ·have RW:=Kj (a:=a) (show k/2^i%2=0 by omega);have RF:=congrArg List.length RW;rw[X6]at RF;obtain⟨x,hx⟩:∃x,x=a.getD k default:=⟨_,rfl⟩;rw[←hx]at RW;simp only[vx,T,seval,eV,ae,←hx,qC];simp only[i1];refine⟨by omega,⟨by omega,by omega⟩,Lq ⟨k+1,by omega⟩ ?_ ?_⟩
   ·refine Sa ?_;simp only[ry,seval,rz,eV,ae];rw[RW];exact⟨by simp,by simp,Dq rfl x⟩
   simp only;omega
  have RW:=Ke (a:=a) (show k/2^i%2≠0 by omega);simp only[vx,T,seval,eV,ae,i1];refine Lq ⟨k+1,by omega⟩ ?_ ?_
  ·refine Sa ?_;simp only[ry,seval,rz,eV,ae,RW]
  simp only;omega
 have TY:k=a.length:=by omega
 subst TY;simp only[vx,T,seval,eV,ae];exact⟨rfl,rfl,fun _ _ _ _=>rfl⟩
open Go Go.Eng
open Go.Tw (El)
def nD (n:Nat)(c:Rat):Prop:=n<zn c.num∨n<nl c.den
def Po (n:Nat)(x:List El×El):Prop:=(∃i,i<x.2.length∧nD n (x.2.getD i default))∨∃j,j<x.1.length∧∃i,i<(x.1.getD j []).length∧nD n ((x.1.getD j []).getD i default)
theorem vv (x o:List El×El):Pr prog 56 [nX x,.one (.int .i64 0),nX o] (nX x):=by
 refine pw func56 ⟨[0,1,2,3,5,6,8],[]⟩ ?_;simp only[Tryz.f56,ntmps56,iz,seval];simp only[vx,T,seval,nX,nV,tC,ae];exact Ve rfl
theorem Cp (o:List El×El):Pr prog 56 [.agg [.nil,.nil],.one (.int .i64 6),nX o] (nX o):=by
 refine pw func56 ⟨[0,1,2,3,5,6,8],[]⟩ ?_;simp only[Tryz.f56,ntmps56,iz,seval];simp only[vx,T,seval,nX,nV,tC,ae];exact Ve rfl
theorem Oq (x:List El×El)(hl:x.2.length<2^38)(hh:x.1.length<2^38)(ht:∀j,j<x.1.length→(x.1.getD j []).length<2^38){b:Bool}(hb:b=true↔Po 2 x):Pr prog 61 [nX x] (.one (.bool b)):=by
 obtain⟨t,a⟩:=x;simp only at hl hh ht;refine pw func61 ⟨[0,1,2,3,4,5,6,11,33,38,48,70],[]⟩ ?_;simp only[Tryz.f61,ntmps61,iz,seval];simp only[vx,T,seval,nX,nV,tC,ae];refine Lk (fun y:{i:Nat//i≤a.length∧∀j,j<i→¬nD 2 (a.getD j default)}=>⟨[(1,.one (.ptr 1 0)),(2,.one (.bool false)),(3,.one (.int .i64 y.1))],[(1,⟨.var [tC t.length t,ae a],true⟩)],2,71⟩) (fun y=>a.length-y.1) ⟨0,Nat.zero_le _,fun j hj=>absurd hj (Nat.not_lt_zero _)⟩ ?_ (fun⟨i,hi,hz⟩=>?_)
 ·refine Sa ?_;simp only[ry,seval,rz,tC,ae]
 have i1:=wI i (by omega);simp only[vx,T,seval,tC,ae];refine⟨fun g=>Lg ?_,fun g=>Lg ?_⟩
 ·have RP:i<a.length:=by omega
  have Tu:nD 2 (a.getD i default)→b=true:=fun h=>hb.2 (.inl ⟨i,RP,h⟩);have SA:¬nD 2 (a.getD i default)→∀j,j<i+1→¬nD 2 (a.getD j default):=fun h0 j hj=>by
   by_cases h:j<i
   ·exact hz j h
   obtain rfl:j=i:=by omega
   exact h0
  obtain⟨x,hx⟩:∃x,x=a.getD i default:=⟨_,rfl⟩;rw[←hx]at Tu SA;have ln:(zm x.num).length=zn x.num:=rfl;have ld:(zm (x.den:Int)).length=nl x.den:=rfl;simp only[vx,T,seval,tC,ae,←hx,qC];refine⟨by omega,fun h=>Lg ?_,fun h=>Lg ?_⟩
  ·rw[Tu (.inl (by omega))];simp only[vx,T,seval,tC,ae];exact Ve rfl
  simp only[vx,T,seval,tC,ae,←hx,qC];refine⟨by omega,fun h'=>Lg ?_,fun h'=>Lg ?_⟩
  ·rw[Tu (.inr (by omega))];simp only[vx,T,seval,tC,ae];exact Ve rfl
  simp only[vx,T,seval,tC,ae,i1];refine Lq ⟨i+1,by omega,SA fun h2=>by unfold nD at h2;omega⟩ ?_ (by show a.length-(i+1)<a.length-i;omega);refine Sa ?_;simp only[ry,seval,rz,tC,ae]
 have ha:∀i,i<a.length→¬nD 2 (a.getD i default):=fun j hj=>hz j (by omega);clear hz i1 g;simp only[vx,T,seval,tC,ae];refine Lk (fun y:{j:Nat//j≤t.length∧∀k,k<j→∀i,i<(t.getD k []).length→¬nD 2 ((t.getD k []).getD i default)}=>⟨[(1,.one (.ptr 1 0)),(2,.one (.bool false)),(4,.one (.int .i64 y.1))],[(1,⟨.var [tC t.length t,ae a],true⟩)],2,71⟩) (fun y=>t.length-y.1) ⟨0,Nat.zero_le _,fun j hj=>absurd hj (Nat.not_lt_zero _)⟩ ?_ (fun⟨j,hj,hz⟩=>?_)
 ·refine Sa ?_;simp only[ry,seval,rz,tC,ae]
 have j1:=wI j (by omega);simp only[vx,T,seval,tC,ae];refine⟨fun g=>Lg ?_,fun g=>Lg ?_⟩
 ·have Sf:j<t.length:=by omega
  have Tu:∀i,i<(t.getD j []).length→nD 2 ((t.getD j []).getD i default)→b=true:=fun i hi h=>hb.2 (.inr ⟨j,Sf,i,hi,h⟩);have SA:(∀i,i<(t.getD j []).length→¬nD 2 ((t.getD j []).getD i default))→∀k,k<j+1→∀i,i<(t.getD k []).length→¬nD 2 ((t.getD k []).getD i default):=fun h0 k hk=>by
   by_cases h:k<j
   ·exact hz k h
   obtain rfl:k=j:=by omega
   exact h0
  have Wl:=ht j Sf;obtain⟨e,he⟩:∃e,e=t.getD j []:=⟨_,rfl⟩;rw[←he]at Tu SA Wl;simp only[vx,T,seval,tC,ae];refine Lk (fun y:{i:Nat//i≤e.length∧∀k,k<i→¬nD 2 (e.getD k default)}=>⟨[(1,.one (.ptr 1 0)),(2,.one (.bool false)),(4,.one (.int .i64 j)),(5,.one (.int .i64 y.1))],[(1,⟨.var [tC t.length t,ae a],true⟩)],2,71⟩) (fun y=>e.length-y.1) ⟨0,Nat.zero_le _,fun j hj=>absurd hj (Nat.not_lt_zero _)⟩ ?_ (fun⟨i,hi,hz⟩=>?_)
  ·refine Sa ?_;simp only[ry,seval,rz,tC,ae]
  have i1:=wI i (by omega);simp only[vx,T,seval,tC,ae,←he];refine⟨by omega,fun g=>Lg ?_,fun g=>Lg ?_⟩
  ·have RP:i<e.length:=by omega
   have Tu:=Tu i RP;have SA:¬nD 2 (e.getD i default)→∀j,j<i+1→¬nD 2 (e.getD j default):=fun h0 j hj=>by
    by_cases h:j<i
    ·exact hz j h
    obtain rfl:j=i:=by omega
    exact h0
   obtain⟨x,hx⟩:∃x,x=e.getD i default:=⟨_,rfl⟩;rw[←hx]at Tu SA;have ln:(zm x.num).length=zn x.num:=rfl;have ld:(zm (x.den:Int)).length=nl x.den:=rfl;simp only[vx,T,seval,tC,ae,←he,←hx,qC];refine⟨by omega,by omega,fun h=>Lg ?_,fun h=>Lg ?_⟩
   ·rw[Tu (.inl (by omega))];simp only[vx,T,seval,tC,ae];exact Ve rfl
   simp only[vx,T,seval,tC,ae,←he,←hx,qC];refine⟨fun h'=>Lg ?_,fun h'=>Lg ?_⟩
   ·rw[Tu (.inr (by omega))];simp only[vx,T,seval,tC,ae];exact Ve rfl
   simp only[vx,T,seval,tC,ae,i1];refine Lq ⟨i+1,by omega,SA fun h2=>by unfold nD at h2;omega⟩ ?_ (by show e.length-(i+1)<e.length-i;omega);refine Sa ?_;simp only[ry,seval,rz,tC,ae]
  simp only[vx,T,seval,tC,ae,j1];refine Lq ⟨j+1,by omega,SA fun i hi=>hz i (by omega)⟩ ?_ (by show t.length-(j+1)<t.length-j;omega);refine Sa ?_;simp only[ry,seval,rz,tC,ae]
 rw[show b=false by
  cases TR:b with
  |false=>rfl
  |true=>
   rcases hb.1 TR with⟨i,h1,h2⟩|⟨k,h1,i,h2,h3⟩
   ·exact absurd h2 (ha i h1)
   exact absurd h3 (hz k (by have:k<t.length:=h1;omega) i h2)]
 simp only[vx,T,seval,tC,ae];exact Ve rfl
theorem JA (x:List El×El)(hl:x.2.length<2^38)(hh:x.1.length<2^38)(ht:∀j,j<x.1.length→(x.1.getD j []).length<2^38){b:Bool}(hb:b=false↔Po 6 x):Pr prog 63 [nX x] (.one (.bool b)):=by
 obtain⟨t,a⟩:=x;simp only at hl hh ht;refine pw func63 ⟨[0,1,2,3,4,5,10,32,37,47,75],[]⟩ ?_;simp only[Tryz.f63,ntmps63,iz,seval];simp only[vx,T,seval,nX,nV,tC,ae];refine Lk (fun y:{i:Nat//i≤a.length∧∀j,j<i→¬nD 6 (a.getD j default)}=>⟨[(1,.one (.ptr 1 0)),(2,.one (.bool false)),(3,.one (.int .i64 y.1))],[(1,⟨.var [tC t.length t,ae a],true⟩)],2,76⟩) (fun y=>a.length-y.1) ⟨0,Nat.zero_le _,fun j hj=>absurd hj (Nat.not_lt_zero _)⟩ ?_ (fun⟨i,hi,hz⟩=>?_)
 ·refine Sa ?_;simp only[ry,seval,rz,tC,ae]
 have i1:=wI i (by omega);simp only[vx,T,seval,tC,ae];refine⟨fun g=>Lg ?_,fun g=>Lg ?_⟩
 ·have RP:i<a.length:=by omega
  have Tu:nD 6 (a.getD i default)→b=false:=fun h=>hb.2 (.inl ⟨i,RP,h⟩);have SA:¬nD 6 (a.getD i default)→∀j,j<i+1→¬nD 6 (a.getD j default):=fun h0 j hj=>by
   by_cases h:j<i
   ·exact hz j h
   obtain rfl:j=i:=by omega
   exact h0
  obtain⟨x,hx⟩:∃x,x=a.getD i default:=⟨_,rfl⟩;rw[←hx]at Tu SA;have ln:(zm x.num).length=zn x.num:=rfl;have ld:(zm (x.den:Int)).length=nl x.den:=rfl;simp only[vx,T,seval,tC,ae,←hx,qC];refine⟨by omega,fun h=>Lg ?_,fun h=>Lg ?_⟩
  ·rw[Tu (.inl (by omega))];simp only[vx,T,seval,tC,ae];exact Ve rfl
  simp only[vx,T,seval,tC,ae,←hx,qC];refine⟨by omega,fun h'=>Lg ?_,fun h'=>Lg ?_⟩
  ·rw[Tu (.inr (by omega))];simp only[vx,T,seval,tC,ae];exact Ve rfl
  simp only[vx,T,seval,tC,ae,i1];refine Lq ⟨i+1,by omega,SA fun h2=>by unfold nD at h2;omega⟩ ?_ (by show a.length-(i+1)<a.length-i;omega);refine Sa ?_;simp only[ry,seval,rz,tC,ae]
 have ha:∀i,i<a.length→¬nD 6 (a.getD i default):=fun j hj=>hz j (by omega);clear hz i1 g;simp only[vx,T,seval,tC,ae];refine Lk (fun y:{j:Nat//j≤t.length∧∀k,k<j→∀i,i<(t.getD k []).length→¬nD 6 ((t.getD k []).getD i default)}=>⟨[(1,.one (.ptr 1 0)),(2,.one (.bool false)),(4,.one (.int .i64 y.1))],[(1,⟨.var [tC t.length t,ae a],true⟩)],2,76⟩) (fun y=>t.length-y.1) ⟨0,Nat.zero_le _,fun j hj=>absurd hj (Nat.not_lt_zero _)⟩ ?_ (fun⟨j,hj,hz⟩=>?_)
 ·refine Sa ?_;simp only[ry,seval,rz,tC,ae]
 have j1:=wI j (by omega);simp only[vx,T,seval,tC,ae];refine⟨fun g=>Lg ?_,fun g=>Lg ?_⟩
 ·have Sf:j<t.length:=by omega
  have Tu:∀i,i<(t.getD j []).length→nD 6 ((t.getD j []).getD i default)→b=false:=fun i hi h=>hb.2 (.inr ⟨j,Sf,i,hi,h⟩);have SA:(∀i,i<(t.getD j []).length→¬nD 6 ((t.getD j []).getD i default))→∀k,k<j+1→∀i,i<(t.getD k []).length→¬nD 6 ((t.getD k []).getD i default):=fun h0 k hk=>by
   by_cases h:k<j
   ·exact hz k h
   obtain rfl:k=j:=by omega
   exact h0
  have Wl:=ht j Sf;obtain⟨e,he⟩:∃e,e=t.getD j []:=⟨_,rfl⟩;rw[←he]at Tu SA Wl;simp only[vx,T,seval,tC,ae];refine Lk (fun y:{i:Nat//i≤e.length∧∀k,k<i→¬nD 6 (e.getD k default)}=>⟨[(1,.one (.ptr 1 0)),(2,.one (.bool false)),(4,.one (.int .i64 j)),(5,.one (.int .i64 y.1))],[(1,⟨.var [tC t.length t,ae a],true⟩)],2,76⟩) (fun y=>e.length-y.1) ⟨0,Nat.zero_le _,fun j hj=>absurd hj (Nat.not_lt_zero _)⟩ ?_ (fun⟨i,hi,hz⟩=>?_)
  ·refine Sa ?_;simp only[ry,seval,rz,tC,ae]
  have i1:=wI i (by omega);simp only[vx,T,seval,tC,ae,←he];refine⟨by omega,fun g=>Lg ?_,fun g=>Lg ?_⟩
  ·have RP:i<e.length:=by omega
   have Tu:=Tu i RP;have SA:¬nD 6 (e.getD i default)→∀j,j<i+1→¬nD 6 (e.getD j default):=fun h0 j hj=>by
    by_cases h:j<i
    ·exact hz j h
    obtain rfl:j=i:=by omega
    exact h0
   obtain⟨x,hx⟩:∃x,x=e.getD i default:=⟨_,rfl⟩;rw[←hx]at Tu SA;have ln:(zm x.num).length=zn x.num:=rfl;have ld:(zm (x.den:Int)).length=nl x.den:=rfl;simp only[vx,T,seval,tC,ae,←he,←hx,qC];refine⟨by omega,by omega,fun h=>Lg ?_,fun h=>Lg ?_⟩
   ·rw[Tu (.inl (by omega))];simp only[vx,T,seval,tC,ae];exact Ve rfl
   simp only[vx,T,seval,tC,ae,←he,←hx,qC];refine⟨by omega,by omega,fun h'=>Lg ?_,fun h'=>Lg ?_⟩
   ·rw[Tu (.inr (by omega))];simp only[vx,T,seval,tC,ae];exact Ve rfl
   simp only[vx,T,seval,tC,ae,i1];refine Lq ⟨i+1,by omega,SA fun h2=>by unfold nD at h2;omega⟩ ?_ (by show e.length-(i+1)<e.length-i;omega);refine Sa ?_;simp only[ry,seval,rz,tC,ae]
  simp only[vx,T,seval,tC,ae,j1];refine Lq ⟨j+1,by omega,SA fun i hi=>hz i (by omega)⟩ ?_ (by show t.length-(j+1)<t.length-j;omega);refine Sa ?_;simp only[ry,seval,rz,tC,ae]
 rw[show b=true by
  cases TR:b with
  |true=>rfl
  |false=>
   rcases hb.1 TR with⟨i,h1,h2⟩|⟨k,h1,i,h2,h3⟩
   ·exact absurd h2 (ha i h1)
   exact absurd h3 (hz k (by have:k<t.length:=h1;omega) i h2)]
 simp only[vx,T,seval,tC,ae];exact Ve rfl
open Go Go.Eng
open Go.Tw (El Oc wo fx kg js bO TG gW)
def Nd (i:Nat)(x:List El×El)(k:Nat):Prop:=Oc i x.2∨∃m,i<m∧m<k∧Oc i (x.1.getD m [])
open Classical in
noncomputable def kr:Nat→List El×El→List El×El
 |0,x=>x
 |i+1,x=>if Nd i x x.1.length then kr i x else kr i (fx i x.1,wo i x.2 x.2.length)
theorem l6 {A:List R}{B:Nat}{v:R}:∀(n:Nat) {x:List El×El},n≤x.1.length→bO A B x.1 x.2 v→bO A B (kr n x).1 (kr n x).2 v
 |0,_,_,h=>h
 |n+1,x,hn,h=>by
  rw[kr]
  split
  ·exact l6 n (by omega) h
  rename_i no
  refine l6 n (by show n≤(fx n x.1).length;rw[kg];omega) (h.drop (by omega) (fun k h1 h2 h3=>no (.inr ⟨k,h1,h2,h3⟩)) fun h3=>no (.inl h3))
theorem gW.qk {B:Nat}{a:El}(h:gW B a)(hB:B<2^38):Qk a:=fun c hc=>by
 have:=Go.Tw.ya (h c hc).1 (h c hc).2
 omega
theorem Dz (p:Prop):∃b:Bool,b=true↔p:=by
 by_cases h:p
 ·exact⟨true,fun _=>h,fun _=>rfl⟩
 exact⟨false,fun e=>(by cases e),fun k=>absurd k h⟩
def wR (t:List El)(i k m:Nat):El:=if i<m∧m<k then wo i (t.getD m []) (2^m)else t.getD m []
theorem IH {t:List El}{i m:Nat}:wR t i (i+1) m=t.getD m []:=if_neg (by omega)
theorem KR {t:List El}{i k:Nat}:wR t i k k=t.getD k []:=if_neg (by omega)
theorem Nt {t:List El}{i k m j:Nat}{e:El}(Ud:i<k)(he:e=wo i (t.getD k []) (2^k))(hj:j<1):bt (fun m _=>ae (wR t i k m)) k 0 [ae e] m j=ae (wR t i (k+1) m):=by
 obtain rfl:j=0:=by omega
 unfold bt wR
 by_cases h:m=k
 ·subst h;rw[if_pos rfl,if_pos (Nat.zero_le _),if_pos (by simp),if_pos ⟨Ud,by omega⟩,he];rfl
 rw[if_neg h];simp only
 by_cases h2:i<m∧m<k
 ·rw[if_pos h2,if_pos ⟨h2.1,by omega⟩]
 rw[if_neg h2,if_neg (by omega)]
theorem Lf {t:List El}{i m:Nat}(hi:i<t.length)(hm:m<t.length-1):(if m<i then ae (wR t i t.length m)else ae (wR t i t.length (i+1+(m-i))))=ae ((fx i t).getD m []):=by
 rw[js hm]
 split
 ·unfold wR;rw[if_neg (by omega)]
 unfold wR;rw[show i+1+(m-i)=m+1 by omega,if_pos ⟨by omega,by omega⟩]
section
variable {A:List R}(hA:Go.Tw.j9 A)
include hA
theorem NR (x:List El×El){v:R}(hx:bO A 64 x.1 x.2 v):Pr prog 62 [nX x] (nX (kr x.1.length x)):=by
 obtain⟨R,hR⟩:∃R,R=kr x.1.length x:=⟨_,rfl⟩;rw[←hR];have h3:=hx.tg.nN hA;have w1:IntKind.i64.wrap ((x.1.length:Int)-1)=(x.1.length:Int)-1:=IntWalk.i64_in _ (by omega);refine pw func62 ⟨[0,1,2,3,4,5,6,7,20,33,46,58],[(1,(.opt 7 3 (.cons 3 [4,5] (.cons 6 [] (.cons 8 [] .nil .nil) .nil) .nil) (.cons 3 [4,5] (.cons 6 [] (.cons 7 [] (.cons 8 [] .nil .nil) .nil) (.cons 7 [4,5] (.cons 6 [] (.cons 8 [] .nil .nil) .nil) .nil)) .nil)))]⟩ ?_;simp only[Tryz.f62,ntmps62,iz,seval];simp only[vx,T,seval,nX,nV,tC,ae,w1]
 repeat' (with_reducible refine And.intro ?_ ?_)
 all_goals first|omega|skip
 all_goals refine Lk (fun y:{y:Nat×(List El×El)//y.1≤y.2.1.length∧bO A 64 y.2.1 y.2.2 v∧kr y.1 y.2=R}=>⟨[(2,.one (.ptr 1 0)),(3,.one (.ptr 2 0)),(4,.one (.int .i64 ((y.1.1:Int)-1)))],[(1,⟨.var [.nil,.nil],true⟩),(2,⟨.var [.own 3 1 0 y.1.2.1.length,ae y.1.2.2],true⟩),(3,⟨.rows 35 1 y.1.2.1.length (fun i _=>ae (y.1.2.1.getD i [])),true⟩)],4,85⟩) (fun y=>y.1.1) ⟨(x.1.length,x),Nat.le_refl _,hx,hR.symm⟩ ?_ (fun⟨⟨n,t,a⟩,hn,hs,hr⟩=>?_)
 all_goals first
  |(refine jV [(1,some 2),(2,some 10),(3,some 12)] ?_;simp only[ry,seval,tC,ae,Nat.not_lt_zero,Nat.sub_zero];done)
  |(refine jV [(1,some 2),(2,some 14),(3,some 12)] ?_;simp only[ry,seval,tC,ae,Nat.not_lt_zero,Nat.sub_zero];done)
  |(refine jV [(1,some 2),(2,some 13),(3,some 12)] ?_;simp only[ry,seval,tC,ae,Nat.not_lt_zero,Nat.sub_zero];done)
  |skip
 all_goals
  simp only at hn hs hr;have t3:=hs.tg.nN hA;have al:a.length≤2^6:=by rw[hs.len];exact Nat.pow_le_pow_right (by decide) t3
  have tl:∀m,m<t.length→(t.getD m []).length=2^m:=fun m hm=>(hs.tg.rd.rl m hm).1;simp only[vx,T,seval,tC,ae];refine⟨fun g=>Lg ?_,fun g=>Lg ?_⟩
  ·obtain⟨i,rfl⟩:∃i,n=i+1:=⟨n-1,by omega⟩;have e0:((i+1:Nat):Int)-1=(i:Int):=by omega
   have i1:=wI i (by omega);have i2:IntKind.i64.wrap ((i:Int)-1)=(i:Int)-1:=IntWalk.i64_in _ (by omega);obtain⟨b0,XG⟩:∃b:Bool,b=true↔Oc i a:=Dz _;have c1:=zK a i (by omega) (by omega) (gW.qk hs.bits (by decide)) XG;clear g;simp only[vx,T,seval,tC,ae,e0,i1];refine Cg c1 ?_;simp only[vx,T,seval,tC,ae,e0,i1];refine Lk (fun y:{p:Nat×Bool//i+1≤p.1∧p.1≤t.length∧(p.2=true↔Nd i (t,a) p.1)}=>⟨[(2,.one (.ptr 1 0)),(3,.one (.ptr 2 0)),(4,.one (.int .i64 i)),(5,.one (.bool y.1.2)),(6,.one (.int .i64 y.1.1))],[(1,⟨.var [.nil,.nil],true⟩),(2,⟨.var [.own 3 1 0 t.length,ae a],true⟩),(3,⟨.rows 35 1 t.length (fun i _=>ae (t.getD i [])),true⟩)],4,85⟩) (fun y=>t.length-y.1.1) ⟨(i+1,b0),Nat.le_refl _,hn,XG.trans ⟨.inl,fun h=>h.elim id fun⟨m,h1,h2,_⟩=>absurd h1 (by simp only at h2;omega)⟩⟩ ?_ (fun⟨⟨k,b⟩,Yc,S8,hb⟩=>?_)
   ·refine jV [(1,some 1),(2,some 2),(3,some 3)] ?_;simp only[ry,seval,tC,ae]
   simp only at Yc S8 hb;have k1:=wI k (by omega);simp only[vx,T,seval,tC,ae];refine⟨fun g=>Lg ?_,fun g=>Lg ?_⟩
   ·have TY:k<t.length:=by omega
    have Wl:=tl k TY;have p8:2^k≤2^6:=Nat.pow_le_pow_right (by decide) (by omega);obtain⟨b1,Uq⟩:∃b:Bool,b=true↔Oc i (t.getD k []):=Dz _;have c2:=zK (t.getD k []) i (by omega) (by omega) (gW.qk (hs.tb k TY) (by decide)) Uq;have nx:∀b':Bool,(b'=true↔b=true∨b1=true)→(b'=true↔Nd i (t,a) (k+1)):=fun b' h=>by
     rw[h,hb,Uq]
     constructor
     ·rintro((h|⟨m,h1,h2,h3⟩)|h)
      ·exact .inl h
      ·exact .inr ⟨m,h1,by omega,h3⟩
      exact .inr ⟨k,by omega,by omega,h⟩
     rintro(h|⟨m,h1,h2,h3⟩)
     ·exact .inl (.inl h)
     by_cases hm:m=k
     ·subst hm;exact .inr h3
     exact .inl (.inr ⟨m,h1,by omega,h3⟩)
    obtain⟨e,he⟩:∃e,e=t.getD k []:=⟨_,rfl⟩;rw[←he]at c2;simp only[vx,T,seval,tC,ae,k1];refine⟨fun h=>Lg ?_,fun h=>Lg ?_⟩
    ·simp only[vx,T,seval,tC,ae,k1];refine Lq ⟨(k+1,true),by simp only;omega,TY,nx true ⟨fun _=>.inl h,fun _=>rfl⟩⟩ ?_ (by show t.length-(k+1)<t.length-k;omega);refine jV [(1,some 1),(2,some 2),(3,some 3)] ?_;simp only[ry,seval,tC,ae]
    simp only[vx,T,seval,tC,ae,k1,←he];refine⟨by omega,Cg c2 ?_⟩;simp only[vx,T,seval,tC,ae,k1];refine Lq ⟨(k+1,b1),by simp only;omega,TY,nx b1 ⟨.inr,fun x=>x.elim (fun y=>absurd y (by rw[h];decide)) id⟩⟩ ?_ (by show t.length-(k+1)<t.length-k;omega);refine jV [(1,some 1),(2,some 2),(3,some 3)] ?_;simp only[ry,seval,tC,ae]
   have TY:k=t.length:=by omega
   subst TY;clear g
   cases b with
   |true=>
    have e1:kr i (t,a)=R:=by rw[←hr,kr,if_pos (hb.1 rfl)]
    simp only[vx,T,seval,tC,ae,i2];refine Lq ⟨(i,t,a),by simp only;omega,hs,e1⟩ ?_ (by show i<i+1;omega);refine jV [(1,some 1),(2,some 2),(3,some 3)] ?_;simp only[ry,seval,tC,ae]
   |false=>
    have no:¬Nd i (t,a) t.length:=fun h=>absurd (hb.2 h) (by decide);have na:¬Oc i a:=fun h=>no (.inl h);have nt:∀k,i<k→k<t.length→¬Oc i (t.getD k []):=fun k h1 h2 h3=>no (.inr ⟨k,h1,h2,h3⟩);have e1:kr i (fx i t,wo i a a.length)=R:=by rw[←hr,kr,if_neg no]
    have TX:=hs.drop (by omega) nt na;have c3:=(vk a i (by omega) (by omega)).rows;rw[←GN]at c3;obtain⟨a',Sj⟩:∃a',a'=wo i a a.length:=⟨_,rfl⟩;rw[←Sj]at c3 e1 TX;clear k1 hb XG c1 hr hs no na x hx hR h3 w1;simp only[vx,T,seval,tC,ae,i1];refine Cg c3 ?_;simp only[vx,T,seval,tC,ae,i1];refine Lk (fun y:{k:Nat//i+1≤k∧k≤t.length}=>⟨[(2,.one (.ptr 1 0)),(3,.one (.ptr 2 0)),(4,.one (.int .i64 i)),(7,.one (.int .i64 y.1))],[(1,⟨.var [.nil,.nil],true⟩),(2,⟨.var [.own 3 1 0 t.length,ae a'],true⟩),(3,⟨.rows 35 1 t.length (fun m _=>ae (wR t i y.1 m)),true⟩)],4,85⟩) (fun y=>t.length-y.1) ⟨i+1,Nat.le_refl _,hn⟩ ?_ (fun⟨k,Yc,S8⟩=>?_)
    ·refine jV [(1,some 1),(2,some 2),(3,some 3)] ?_;simp only[ry,seval,tC,ae];exact fun m j _ _=>congrArg ae IH.symm
    simp only;have k1:=wI k (by omega);simp only[vx,T,seval,tC,ae];refine⟨fun g=>Lg ?_,fun g=>Lg ?_⟩
    ·have TY:k<t.length:=by omega
     have Wl:=tl k TY;have p8:2^k≤2^6:=Nat.pow_le_pow_right (by decide) (by omega);have c4:=(vk (t.getD k []) i (by omega) (by omega)).rows;rw[←GN,Wl]at c4;obtain⟨e,he⟩:∃e,e=wo i (t.getD k []) (2^k):=⟨_,rfl⟩;rw[←he,←KR (i:=i)]at c4;obtain⟨u,hu⟩:∃u,u=wR t i k k:=⟨_,rfl⟩;rw[←hu]at c4;simp only[vx,T,seval,tC,ae,k1,←hu];refine⟨by omega,Cg c4 ?_⟩;simp only[vx,T,seval,tC,ae,k1];refine⟨by omega,Lq ⟨k+1,by omega,TY⟩ ?_ (by show t.length-(k+1)<t.length-k;omega)⟩;refine jV [(1,some 1),(2,some 2),(3,some 3)] ?_;simp only[ry,seval,tC,ae];exact fun m j _ hj=>Nt (by omega) he hj
    have TY:k=t.length:=by omega
    subst TY;have dl:(fx i t).length=t.length-1:=kg;have en:i+((t.length:Int)-((i+1:Nat):Int)).toNat=t.length-1:=by omega
    simp only[vx,T,seval,tC,ae,i1,i2,en];refine⟨by omega,by omega,by omega,Lq ⟨(i,fx i t,a'),by simp only[dl];omega,TX,e1⟩ ?_ (by show i<i+1;omega)⟩;refine jV [(1,some 1),(2,some 2),(3,some 22)] ?_;simp only[ry,seval,tC,ae,dl];exact fun m j hm _=>Lf (by omega) hm
  obtain rfl:n=0:=by omega
  obtain rfl:(t,a)=R:=hr;simp only[vx,T,seval,tC,ae];exact Ve rfl
end
open Go Go.Eng
open Go.Tw (El aE aH zE ai au ar aq aa QB cJ ah ag aO aJ tB aU ay dN)
theorem dT {h:Nat}{t:List El}(hh:h≤8)(q:Rat):Fr prog 77 [tV h t,QV q] (.rows 62 4 (aU h q).length (fQ (aU h q))):=by
 have hp:=aN hh;have z:=ba 0 (by decide) (by decide);have hs:=dO (h:=h) hh;have hl:(aU h q).length=2^h:=ay;have h1:1≤2^h:=Nat.two_pow_pos h;have RW:∀k,k+1<2^h→(q::zE k)++[0]=q::zE (k+1):=fun k _=>by
  rw[List.cons_append,←Go.Tw.B5];rfl
 have er:aU h q=q::zE (2^h-1):=rfl;rw[er]at hl⊢;obtain⟨N,hN⟩:∃N,N=2^h:=⟨_,rfl⟩;rw[←hN]at hs hl hp h1 RW⊢;refine fw func77 ⟨[0,1,3,4,5,13],[]⟩ ?_;simp only[Tryz.f77,ntmps77,iz,seval];simp only[vx,T,seval,tV,tC,eV,ae,QV,QC];refine Lk (fun y:{k:Nat//k+1≤N}=>⟨[(0,tV h t),(4,.one .nil),(5,.one (.own 2 4 0 (y.1+1)))],[(2,⟨.rows 62 4 (y.1+1) (fQ (q::zE y.1)),true⟩)],3,19⟩) (fun y=>N-(y.1+1)) ⟨0,by omega⟩ ?_ (fun⟨k,hk⟩=>?_)
 ·refine Sa ?_;simp only[ry,seval,rz,tV,tC,eV,ae];intro i j hi hj;obtain rfl:i=0:=by omega
  rw[Nat.zero_mul,Nat.zero_add];exact dH q rfl j
 simp only;simp only[vx,T,seval,tV,tC,eV,ae,hs];refine⟨by omega,?_⟩;refine⟨fun g=>Lg ?_,fun g=>Lg ?_⟩
 ·simp only[vx,T,seval,tV,tC,eV,ae,hs];refine Cg z ?_;simp only[vx,T,seval,tV,tC,eV,ae,hs,QV,QC];refine⟨⟨by omega,by omega⟩,Lq ⟨k+1,by omega⟩ ?_ (by show N-(k+1+1)<N-(k+1);omega)⟩;refine Sa ?_;simp only[ry,seval,rz,tV,tC,eV,ae,hs];rw[←RW k (by omega)];exact Dq (by rw[List.length_cons,au]) (Rat.ofInt 0)
 simp only[vx,T,seval,tV,tC,eV,ae,hs];have ek:k=N-1:=by omega
 subst ek;exact⟨au.symm,rfl,by rw[au],fun _ _ _ _=>rfl⟩
theorem OL {h:Nat}{U:List El}(h8:h+1≤8):Pr prog 125 [tV (h+1) U,.one (.int .i64 h)] (eV (dN h)):=by
 have TX:=dO (h:=h) (by omega);have hp:=aN h8;have o0:=ba 0 (by decide) (by decide);have o:=ba 1 (by decide) (by decide);have z:=dT (h:=h+1) (t:=U) h8 (Rat.ofInt 0);have e0:aU (h+1) (Rat.ofInt 0)=zE (2^(h+1)):=by
  have:=Nat.two_pow_pos (h+1)
  show(0:Rat)::List.replicate (2^(h+1)-1) 0=List.replicate (2^(h+1)) 0
  rw[←List.replicate_succ];congr 1;omega
 rw[e0]at z;have RE:2^h<2^(h+1):=Nat.pow_lt_pow_right (by decide) (by omega);have hlen:(zE (2^(h+1))).length=2^(h+1):=au;obtain⟨N,hN⟩:∃N,N=2^(h+1):=⟨_,rfl⟩;obtain⟨M,hM⟩:∃M,M=2^h:=⟨_,rfl⟩;have st:=z5 h;rw[←hN]at z RE hlen hp st;rw[←hM]at TX RE st;refine pw func125 ⟨[0,1,4,5],[]⟩ ?_;simp only[Tryz.f125,ntmps125,iz,seval];simp only[vx,T,seval,tV,tC,ae];refine Cg o0 ?_;simp only[vx,T,seval,tV,tC,ae,QV,QC];refine cK.fresh z ?_;simp only[vx,T,seval,tV,tC,ae,TX,hlen];refine⟨by omega,Cg o ?_⟩;simp only[vx,T,seval,tV,tC,ae,QV,QC,TX,hlen];exact⟨⟨by omega,by omega⟩,fB.cell (dB.rows (by rw[Go.Tw.kC,hN]) fun i j _ hj=>.of_eq (st i j hj))⟩
theorem FB (q:Rat)(hq:qm q<2^40):Pr prog 160 [QV q] (.one (.bool true)):=by
 have h:=yn (zs q.num) (zs (q.den:Int)) (zm q.num) (zm (q.den:Int)) (qE _) (qE _) (by unfold qm at hq;rw[aV];omega) (by unfold qm at hq;rw[aV,aF];omega);rw[Md]at h;exact h
theorem DY (a:El)(n:Nat)(hl:a.length=n)(hn:n<2^38)(hq:Qk a):Pr prog 123 [eV a,.one (.int .i64 n)] (.one (.bool true)):=by
 subst hl;refine pw func123 ⟨[0,1,4,5,9,17],[]⟩ ?_;simp only[Tryz.f123,ntmps123,iz,seval];simp only[vx,T,seval,eV,ae];refine Lk (fun y:{i:Nat//i≤a.length}=>⟨[(0,eV a),(1,.one (.int .i64 a.length)),(4,.one (.bool false)),(5,.one (.int .i64 y.1))],[],2,22⟩) (fun y=>a.length-y.1) ⟨0,Nat.zero_le _⟩ ?_ (fun⟨i,hi⟩=>?_)
 ·refine Sa ?_;simp only[ry,seval,rz,eV,ae]
 have i1:=wI i (by omega);simp only[vx,T,seval,eV,ae];refine⟨fun h1=>Lg ?_,fun h1=>Lg ?_⟩
 ·have v:=FB _ (Nat.lt_trans (hq.get i) (by decide));obtain⟨x,hx⟩:∃x,x=a.getD i default:=⟨_,rfl⟩;rw[←hx]at v;simp only[vx,T,seval,eV,ae,←hx,qC];refine⟨by omega,Cg v ?_⟩;simp only[vx,T,seval,eV,ae,i1];refine Lq ⟨i+1,by omega⟩ ?_ (by show a.length-(i+1)<a.length-i;omega);refine Sa ?_;simp only[ry,seval,rz,eV,ae]
 simp only[vx,T,seval,eV,ae];exact Ve rfl
theorem DG {h:Nat}{t:List El}(tk:Tk h t):Pr prog 122 [tV h t] (.one (.bool true)):=by
 have h8:=tk.le8;refine pw func122 ⟨[0,2,3,7,17],[]⟩ ?_;simp only[Tryz.f122,ntmps122,iz,seval];simp only[vx,T,seval,tV,tC];refine Lk (fun y:{i:Nat//i≤h}=>⟨[(0,tV h t),(2,.one (.bool false)),(3,.one (.int .i64 y.1))],[],1,18⟩) (fun y=>h-y.1) ⟨0,Nat.zero_le _⟩ ?_ (fun⟨i,hi⟩=>?_)
 ·refine Sa ?_;simp only[ry,seval,rz,tV,tC]
 have i1:=wI i (by omega);simp only[vx,T,seval,tV,tC];refine⟨fun g=>Lg ?_,fun g=>Lg ?_⟩
 ·have Zn:i<h:=by omega
  have hs:=dO (h:=i) (by omega);have r:=DY (t.getD i []) (2^i) (tk.len i Zn) (aN (by omega)) (tk.q i Zn);simp only[vx,T,seval,tV,tC,ae,hs];refine⟨by omega,by omega,Cg r ?_⟩;simp only[vx,T,seval,tV,tC,i1];refine Lq ⟨i+1,by omega⟩ ?_ (by show h-(i+1)<h-i;omega);refine Sa ?_;simp only[ry,seval,rz,tV,tC]
 simp only[vx,T,seval,tV,tC];exact Ve rfl
theorem tM {h:Nat}{t:List El}(tk:Tk h t)(a:El)(ha:a.length=2^h)(hq:Qk a):Pr prog 85 [tV h t,eV a] (.one (.bool true)):=by
 have hs:=dO (h:=h) tk.le8;have r:=DY a (2^h) ha (aN tk.le8) hq;have tw:=DG tk;refine pw func85 ⟨[0,1,4],[]⟩ ?_;simp only[Tryz.f85,ntmps85,iz,seval];simp only[vx,T,seval,tV,tC,eV,ae,hs];refine Cg tw ?_;simp only[vx,T,seval,tV,tC,eV,ae,hs];refine⟨by omega,Cg r ?_⟩;simp only[vx,T,seval,tV,tC];exact Ve rfl
open Go Go.Eng
open Go.Tw (El aE aH zE ai au ar aq aa QB cJ ah ag aO aJ tB aU ay)
theorem Jt:∀{a:El} {n:Nat},a.length=n→aE (zE n) a=a:=fun h=>by rw[Go.Tw.qQ,Go.Tw.iJ h]
theorem KW {h:Nat}{t:List El}{a b:El}(ha:a.drop (2^h)=zE (2^h))(hb:b.drop (2^h)=zE (2^h)):ai (h+1) t a b=ai h t (a.take (2^h)) (b.take (2^h))++zE (2^h):=by
 rw[ai,ha,hb,Go.Tw.bD,Go.Tw.bD,Go.Tw.iJ aa,Go.Tw.gn,Go.Tw.bD,Go.Tw.iJ au]
theorem JX {h:Nat}{t:List El}{a b:El}(ha:a.drop (2^h)=zE (2^h)):ai (h+1) t a b=ai h t (a.take (2^h)) (b.take (2^h))++ai h t (a.take (2^h)) (b.drop (2^h)):=by
 rw[ai,ha,Go.Tw.bD,Go.Tw.bD,Go.Tw.iJ aa,Go.Tw.bD,Go.Tw.iJ aa]
theorem LI {h:Nat}{t:List El}{a b:El}(hb:b.drop (2^h)=zE (2^h)):ai (h+1) t a b=ai h t (a.take (2^h)) (b.take (2^h))++ai h t (a.drop (2^h)) (b.take (2^h)):=by
 rw[ai,hb,Go.Tw.gn,Go.Tw.bD,Go.Tw.iJ aa,Go.Tw.gn,Jt aa]
theorem OA {a b:El}{t:List El}(ha:a.length=2^0)(hb:b.length=2^0)(qa:Qk a)(qb:Qk b):
  Fr prog 40 [tV 0 t,eV a,eV b] (.rows 62 4 (ai 0 t a b).length (fQ (ai 0 t a b))):=by
 have UA:=qa.get 0;have V7:=qb.get 0;have em:ai 0 t a b=[a.getD 0 default*b.getD 0 default]:=rfl;obtain⟨x,hx⟩:∃x,x=a.getD 0 default:=⟨_,rfl⟩;obtain⟨y,hy⟩:∃y,y=b.getD 0 default:=⟨_,rfl⟩;rw[←hx,←hy]at em;rw[←hx]at UA;rw[←hy]at V7;refine fw func40 ⟨[0,1,2,6,7,8,9,10,11,12,15,57,63,74],[(4,.nil)]⟩ ?_;simp only[Tryz.f40,ntmps40,iz,seval];simp only[vx,T,seval,tV,tC,eV,ae,←hx,←hy,qC];refine⟨by omega,by omega,Cg (Ca x y UA V7) ?_⟩;simp only[vx,T,seval,QV,QC];rw[em];refine⟨rfl,rfl,rfl,fun i j hi hj=>?_⟩;obtain rfl:i=0:=by omega
 show List.getD _ (0*4+j) _=_;rw[Nat.zero_mul,Nat.zero_add];exact dH (x*y) rfl j
def bd (a:El)(n:Nat):C:=.rows 4 n (fun i=>qC (a.getD i default))
def a9 (a:El)(n:Nat):C:=.rows 4 (a.length-n) (fun i=>qC (a.getD (n+i) default))
theorem M0 {t:List El}{X:Nat}(hX:X<2^37){h:Nat}(ih:∀{a b:El},a.length=2^h→b.length=2^h→cJ X h t a b→
  Fr prog 40 [tV h t,eV a,eV b] (.rows 62 4 (ai h t a b).length (fQ (ai h t a b)))) {a b:El} (tk:Tk (h+1) t)
  (ha:a.length=2^(h+1)) (hb:b.length=2^(h+1)) (hm:cJ X (h+1) t a b):
  Fr prog 40 [tV (h+1) t,eV a,eV b] (.rows 62 4 (ai (h+1) t a b).length (fQ (ai (h+1) t a b))):=by
 have hh:=tk.le8;have hp:2^h≤2^8:=Nat.pow_le_pow_right (by decide) (by omega);have h30:2^h<2^30:=Nat.lt_of_le_of_lt hp (by decide);have h38:2^h<2^38:=Nat.lt_of_le_of_lt hp (by decide);obtain⟨_,_,_,k1,k2,k5,k3,k4⟩:=hm;have Ss:=ah ha;have So:=ag ha;have Yn:=ah hb;have Xc:=ag hb;have m1:=ih Ss Yn k1;have m2:=ih So Xc k2;have m3:=ih Ss Xc k3;have m4:=ih So Yn k4;have m5:=ih aa (tk.len h (by omega)) k5;have a1:=ux (h:=h) (t:=t) _ _ (by rw[aa];exact h30) (by rw[aa,aa]) (Qk.of k1.q.2.2 (by omega)) (Qk.of k5.q.2.2 (by omega));have a2:=ux (h:=h) (t:=t) _ _ (by rw[aa];exact h30) (by rw[aa,aa]) (Qk.of k3.q.2.2 (by omega)) (Qk.of k4.q.2.2 (by omega));have za:=jt (a.drop (2^h)) (by rw[So];exact h38);have zb:=jt (b.drop (2^h)) (by rw[Xc];exact h38);have o0:=ba 0 (by decide) (by decide);have fz:=(dT (h:=h) (t:=t) (by omega) (Rat.ofInt 0)).rows;have ez:aU h (Rat.ofInt 0)=zE (2^h):=by
  have:=Nat.two_pow_pos h
  show(0:Rat)::List.replicate (2^h-1) 0=List.replicate (2^h) 0
  rw[←List.replicate_succ];congr 1;omega
 rw[ez]at fz;have U5:(2^h:Nat)≤a.length:=by rw[ha,Nat.pow_succ];omega
 have Z1:(2^h:Nat)≤b.length:=by rw[hb,Nat.pow_succ];omega
 have cTa:=fv U5;have cDa:=eQ (a:=a) (n:=2^h);have cTb:=fv Z1;have cDb:=eQ (a:=b) (n:=2^h);have m1:=fU (xs:=[tV h t,.one (bd a (2^h)),.one (bd b (2^h))]) m1 ⟨.refl _,.cell cTa,.cell cTb,trivial⟩;have m2:=(fU (xs:=[tV h t,.one (a9 a (2^h)),.one (a9 b (2^h))]) m2 ⟨.refl _,.cell cDa,.cell cDb,trivial⟩).rows;have m3:=(fU (xs:=[tV h t,.one (bd a (2^h)),.one (a9 b (2^h))]) m3 ⟨.refl _,.cell cTa,.cell cDb,trivial⟩).rows;have m4:=(fU (xs:=[tV h t,.one (a9 a (2^h)),.one (bd b (2^h))]) m4 ⟨.refl _,.cell cDa,.cell cTb,trivial⟩).rows;have m5:=m5.rows;have a2:=a2.rows;have za:=za.args (xs:=[.one (a9 a (2^h))]) ⟨.cell cDa,trivial⟩;have zb:=zb.args (xs:=[.one (a9 b (2^h))]) ⟨.cell cDb,trivial⟩;have em:=fun(x:a.drop (2^h)=zE (2^h)) (y:b.drop (2^h)=zE (2^h))=>KW (t:=t) x y;have en:=fun(x:a.drop (2^h)=zE (2^h))=>JX (t:=t) (b:=b) x;have eo:=fun(y:b.drop (2^h)=zE (2^h))=>LI (t:=t) (a:=a) y;have ep:ai (h+1) t a b=aE (ai h t (a.take (2^h)) (b.take (2^h))) (ai h t (ai h t (a.drop (2^h)) (b.drop (2^h))) (t.getD h []))++aE (ai h t (a.take (2^h)) (b.drop (2^h))) (ai h t (a.drop (2^h)) (b.take (2^h))):=rfl;have l1:(ai h t (a.take (2^h)) (b.take (2^h))).length=2^h:=aa;have l2:(ai h t (a.drop (2^h)) (b.drop (2^h))).length=2^h:=aa;have l3:(ai h t (a.take (2^h)) (b.drop (2^h))).length=2^h:=aa;have l4:(ai h t (a.drop (2^h)) (b.take (2^h))).length=2^h:=aa;have l5:(ai h t (ai h t (a.drop (2^h)) (b.drop (2^h))) (t.getD h [])).length=2^h:=aa;have lz:(zE (2^h)).length=2^h:=au;rw[So]at za;rw[Xc]at zb;clear k1 k2 k3 k4 k5 ih cTa cDa cTb cDb;obtain⟨p,hP⟩:∃p,p=ai (h+1) t a b:=⟨_,rfl⟩;rw[←hP]at em en eo ep⊢;obtain⟨za',XK⟩:∃z,z=decide (a.drop (2^h)=zE (2^h)):=⟨_,rfl⟩;obtain⟨zb',Ym⟩:∃z,z=decide (b.drop (2^h)=zE (2^h)):=⟨_,rfl⟩;rw[←XK]at za;rw[←Ym]at zb;have em:za'=true→zb'=true→p=ai h t (a.take (2^h)) (b.take (2^h))++zE (2^h):=fun x y=>em (of_decide_eq_true (XK▸x)) (of_decide_eq_true (Ym▸y));have en:za'=true→p=ai h t (a.take (2^h)) (b.take (2^h))++ai h t (a.take (2^h)) (b.drop (2^h)):=fun x=>en (of_decide_eq_true (XK▸x));have eo:zb'=true→p=ai h t (a.take (2^h)) (b.take (2^h))++ai h t (a.drop (2^h)) (b.take (2^h)):=fun y=>eo (of_decide_eq_true (Ym▸y));clear XK Ym hP;obtain⟨p1,Ug⟩:∃p,p=ai h t (a.take (2^h)) (b.take (2^h)):=⟨_,rfl⟩;obtain⟨p2,TH⟩:∃p,p=ai h t (a.drop (2^h)) (b.drop (2^h)):=⟨_,rfl⟩;obtain⟨p3,UQ⟩:∃p,p=ai h t (a.take (2^h)) (b.drop (2^h)):=⟨_,rfl⟩;obtain⟨p4,XL⟩:∃p,p=ai h t (a.drop (2^h)) (b.take (2^h)):=⟨_,rfl⟩;obtain⟨r,hr⟩:∃r,r=t.getD h []:=⟨_,rfl⟩;rw[←TH,←hr]at m5 l5;rw[←TH,←hr,←Ug]at a1;rw[←TH,←hr,←Ug,←UQ,←XL]at ep;rw[←Ug]at m1 em en eo l1;rw[←TH]at m2 l2;rw[←UQ]at m3 en l3;rw[←XL]at m4 eo l4;rw[←UQ,←XL]at a2;obtain⟨p5,Zo⟩:∃p,p=ai h t p2 r:=⟨_,rfl⟩;rw[←Zo]at m5 a1 ep l5;obtain⟨s1,UB⟩:∃p,p=aE p1 p5:=⟨_,rfl⟩;obtain⟨s2,TZ⟩:∃p,p=aE p3 p4:=⟨_,rfl⟩;have ls1:s1.length=2^h:=by rw[UB];exact aq l1 l5
 have ls2:s2.length=2^h:=by rw[TZ];exact aq l3 l4
 rw[←UB]at a1 ep;rw[←TZ]at a2 ep;obtain⟨n,RS⟩:∃n,n=2^h:=⟨_,rfl⟩;obtain⟨zn,Ti⟩:∃zn,zn=zE (2^h):=⟨_,rfl⟩;rw[←Ti]at fz em lz;have R4:a.length=2*n:=by rw[ha,Nat.pow_succ,RS];omega
 have Sn:b.length=2*n:=by rw[hb,Nat.pow_succ,RS];omega
 rw[←RS]at hp za zb m1 m2 m3 m4 l1 l2 l3 l4 l5 ls1 ls2 lz;clear h30 h38 Ss So Yn Xc U5 Z1 Ug TH UQ XL Zo UB TZ ez Ti hX ha hb RS tk;have w1:IntKind.i64.wrap (((h+1:Nat):Int)-1)=(h:Int):=by rw[IntWalk.i64_in _ (by omega)];omega
 have w2:IntKind.i64.wrap (((a.length:Nat):Int).tdiv 2)=(n:Int):=by
  rw[R4,Int.tdiv_eq_ediv_of_nonneg (by omega),IntWalk.i64_in _ (by omega)];omega
 have w4:((a.length:Int)-(n:Int)).toNat=a.length-n:=by omega
 have w5:((b.length:Int)-(n:Int)).toNat=b.length-n:=by omega
 refine fw func40 ⟨[0,1,2,6,7,8,9,10,11,12,15,57,63,74],[(4,.nil)]⟩ ?_;simp only[Tryz.f40,ntmps40,iz,seval];simp only[vx,T,seval,tV,tC,eV,ae,bd,a9,QV,QC,w1,w2,w4,w5,←hr];refine⟨fun h=>absurd h (by omega),fun _=>Lg ?_⟩;simp only[vx,T,seval,tV,tC,eV,ae,bd,a9,QV,QC,w1,w2,w4,w5,←hr];refine⟨⟨by omega,by omega⟩,⟨by omega,by omega⟩,⟨by omega,by omega,by omega⟩,Cg za ?_⟩;simp only[vx,T,seval,tV,tC,eV,ae,bd,a9,QV,QC,w1,w2,w4,w5,←hr];refine⟨⟨by omega,by omega,by omega⟩,Cg zb ?_⟩;simp only[vx,T,seval,tV,tC,eV,ae,bd,a9,QV,QC,w1,w2,w4,w5,←hr];refine⟨⟨by omega,by omega⟩,⟨by omega,by omega⟩,cK.fresh m1 ?_⟩
 cases za' with
 |true=>
  cases zb' with
  |true=>
   rw[em rfl rfl];simp only[vx,T,seval,tV,tC,eV,ae,bd,a9,QV,QC,w1,w2,w4,w5,←hr];refine Cg o0 ?_;simp only[vx,T,seval,tV,tC,eV,ae,bd,a9,QV,QC,w1,w2,w4,w5,←hr];refine Cg fz ?_;simp only[vx,T,seval,tV,tC,eV,ae,bd,a9,QV,QC,w1,w2,w4,w5,←hr];exact⟨⟨by omega,by omega⟩,List.length_append.symm,rfl,List.length_append.symm,fun i j _ _=>kU p1 zn i j⟩
  |false=>
   rw[en rfl];simp only[vx,T,seval,tV,tC,eV,ae,bd,a9,QV,QC,w1,w2,w4,w5,←hr];refine⟨⟨by omega,by omega⟩,⟨by omega,by omega,by omega⟩,Cg m3 ?_⟩;simp only[vx,T,seval,tV,tC,eV,ae,bd,a9,QV,QC,w1,w2,w4,w5,←hr];exact⟨⟨by omega,by omega⟩,List.length_append.symm,rfl,List.length_append.symm,fun i j _ _=>kU p1 p3 i j⟩
 |false=>
  cases zb' with
  |true=>
   rw[eo rfl];simp only[vx,T,seval,tV,tC,eV,ae,bd,a9,QV,QC,w1,w2,w4,w5,←hr];refine⟨⟨by omega,by omega,by omega⟩,⟨by omega,by omega⟩,Cg m4 ?_⟩;simp only[vx,T,seval,tV,tC,eV,ae,bd,a9,QV,QC,w1,w2,w4,w5,←hr];exact⟨⟨by omega,by omega⟩,List.length_append.symm,rfl,List.length_append.symm,fun i j _ _=>kU p1 p4 i j⟩
  |false=>
   rw[ep];simp only[vx,T,seval,tV,tC,eV,ae,bd,a9,QV,QC,w1,w2,w4,w5,←hr];refine⟨⟨by omega,by omega,by omega⟩,⟨by omega,by omega,by omega⟩,Cg m2 ?_⟩;simp only[vx,T,seval,tV,tC,eV,ae,bd,a9,QV,QC,w1,w2,w4,w5,←hr];refine Cg m5 ?_;simp only[vx,T,seval,tV,tC,eV,ae,bd,a9,QV,QC,w1,w2,w4,w5,←hr];refine cK.fresh a1 ?_;simp only[vx,T,seval,tV,tC,eV,ae,bd,a9,QV,QC,w1,w2,w4,w5,←hr];refine⟨⟨by omega,by omega⟩,⟨by omega,by omega,by omega⟩,Cg m3 ?_⟩;simp only[vx,T,seval,tV,tC,eV,ae,bd,a9,QV,QC,w1,w2,w4,w5,←hr];refine⟨⟨by omega,by omega,by omega⟩,⟨by omega,by omega⟩,Cg m4 ?_⟩;simp only[vx,T,seval,tV,tC,eV,ae,bd,a9,QV,QC,w1,w2,w4,w5,←hr];refine Cg a2 ?_;simp only[vx,T,seval,tV,tC,eV,ae,bd,a9,QV,QC,w1,w2,w4,w5,←hr];exact⟨⟨by omega,by omega⟩,List.length_append.symm,rfl,List.length_append.symm,fun i j _ _=>kU s1 s2 i j⟩
theorem fV {t:List El}{X:Nat}(hX:X<2^37):∀{h:Nat} {a b:El},Tk h t→a.length=2^h→b.length=2^h→cJ X h t a b→
  Fr prog 40 [tV h t,eV a,eV b] (.rows 62 4 (ai h t a b).length (fQ (ai h t a b)))
 |0,a,b,_,ha,hb,hm=>OA ha hb (.of hm.1 (by omega)) (.of hm.2.1 (by omega))
 |h+1,a,b,tk,ha,hb,hm=>M0 hX (fun la lb gs=>fV hX (tk.le (Nat.le_succ h)) la lb gs) tk ha hb hm
open Go Go.Eng
open Go.Tw (El aE aH zE ai au ar aq aa QB cJ ah ag aO aJ tB aU ay cA lL xA val Rd)
theorem CW {h X:Nat}{t:List El}(W:TQ (h+1) t)(a:El)(ha:a.length=2^(h+1))(hX:X<2^37)(hN:xA X h t a):Pr prog 132 [tV (h+1) t,eV a] (eV (aO h t a)):=by
 have W':=W.le (Nat.le_succ h);have h3:=W.h6;have Ss:=ah ha;have So:=ag ha;have hp:2^h≤64:=Nat.pow_le_pow_right (n:=2) (by decide) (show h≤6 by omega);have hr:=W.tk.len h (by omega);obtain⟨k1,k2,k3⟩:=hN;have m1:=fV hX W'.tk Ss Ss k1;have m2:=fV hX W'.tk So So k2;have m3:=(fV hX W'.tk aa hr k3).rows;have sb:=(IQ (h:=h) (t:=t) _ _ (by rw[aa];omega) (by rw[aa,aa]) (Qk.of k1.q.2.2 (by omega)) (Qk.of k3.q.2.2 (by omega))).rows;have hn:(2^h:Nat)≤a.length:=by rw[ha,Nat.pow_succ];omega
 have cT:=fv hn;have cD:=eQ (a:=a) (n:=2^h);have m1:=(fU (xs:=[tV h t,.one (bd a (2^h)),.one (bd a (2^h))]) m1 ⟨.refl _,.cell cT,.cell cT,trivial⟩).rows;have m2:=(fU (xs:=[tV h t,.one (a9 a (2^h)),.one (a9 a (2^h))]) m2 ⟨.refl _,.cell cD,.cell cD,trivial⟩).rows;have em:aO h t a=aE (ai h t (a.take (2^h)) (a.take (2^h))) (aH (ai h t (ai h t (a.drop (2^h)) (a.drop (2^h))) (t.getD h []))):=rfl;rw[←em]at sb;clear em;obtain⟨e,he⟩:∃e,e=aO h t a:=⟨_,rfl⟩;rw[←he]at sb⊢;obtain⟨n,RS⟩:∃n,n=2^h:=⟨_,rfl⟩;obtain⟨p1,Ug⟩:∃p,p=ai h t (a.take (2^h)) (a.take (2^h)):=⟨_,rfl⟩;obtain⟨p2,TH⟩:∃p,p=ai h t (a.drop (2^h)) (a.drop (2^h)):=⟨_,rfl⟩;obtain⟨r,RM⟩:∃r,r=t.getD h []:=⟨_,rfl⟩;rw[←Ug]at m1 sb;rw[←TH]at m2 m3 sb;rw[←RM]at m3 sb;obtain⟨p3,UQ⟩:∃p,p=ai h t p2 r:=⟨_,rfl⟩;rw[←UQ]at m3 sb;have R4:a.length=2*n:=by rw[ha,Nat.pow_succ,RS];omega
 have w1:IntKind.i64.wrap (((h+1:Nat):Int)-1)=(h:Int):=by rw[IntWalk.i64_in _ (by omega)];omega
 have w2:IntKind.i64.wrap (((a.length:Nat):Int).tdiv 2)=(n:Int):=by
  rw[R4,Int.tdiv_eq_ediv_of_nonneg (by omega),IntWalk.i64_in _ (by omega)];omega
 have w4:((a.length:Int)-(n:Int)).toNat=a.length-n:=by omega
 rw[←RS]at m1 m2;refine pw func132 ⟨[0,1,4,5,6,7],[(2,.nil)]⟩ ?_;simp only[Tryz.f132,ntmps132,iz,seval];simp only[vx,T,seval,tV,tC,eV,ae,bd,a9,QV,QC,w1,w2,w4,←RM];refine⟨⟨by omega,by omega⟩,⟨by omega,by omega⟩,⟨by omega,by omega⟩,⟨by omega,by omega⟩,Cg m1 ?_⟩;simp only[vx,T,seval,tV,tC,eV,ae,bd,a9,QV,QC,w1,w2,w4,←RM];refine⟨⟨by omega,by omega,by omega⟩,⟨by omega,by omega,by omega⟩,Cg m2 ?_⟩;simp only[vx,T,seval,tV,tC,eV,ae,bd,a9,QV,QC,w1,w2,w4,←RM];refine Cg m3 ?_;simp only[vx,T,seval,tV,tC,eV,ae,bd,a9,QV,QC,w1,w2,w4,←RM];refine Cg sb ?_;simp only[vx,T,seval,tV,tC,eV,ae,bd,a9,QV,QC,w1,w2,w4,←RM];exact Ve rfl
def LQ (h:Nat)(t:List El)(a:El)(f:FuncId):Prop:=
 (∀n,cA h t a=some n→dL prog f [tV h t,eV a] (.rows 62 4 n.length (fQ n)) (.int .i64 0))∧
 (cA h t a=none→Pr prog f [tV h t,eV a] (.aB [.one .nil,.one (.int .i64 6)]))
theorem M6 {X:Nat}{t:List El}(hX:X<2^37){a:El}(ha:a.length=2^0)(hq:QB X a):LQ 0 t a 94:=by
 obtain⟨x,rfl⟩:=Go.Tw.bx ha;have hx:qm x≤X:=hq x (by simp);have e:cA 0 t [x]=if x=0 then none else some [x⁻¹]:=rfl
 have hz:=@CI x;unfold LQ;rw[e]
 by_cases h0:x=0
 ·rw[if_pos h0];have hl:(zm x.num).length=0:=by rw[aV];exact ey.2 (by rw[h0];rfl)
  refine⟨fun n h=>(by cases h),fun _=>?_⟩;refine pw func94 ⟨[0,1,4,5,6,7,8,9,10,11,14,21,38,48,64],[]⟩ ?_;simp only[Tryz.f94,ntmps94,iz,seval];simp only[vx,T,seval,tV,tC,eV,ae,qC,X0,hl];exact Ve rfl
 rw[if_neg h0];have hl:¬((zm x.num).length:Int)=0:=by have:=hz.2 h0;omega
 refine⟨fun n h=>?_,fun h=>(by cases h)⟩;obtain rfl:=Option.some.inj h;have d:=Bb x (by omega) h0;refine tw func94 ⟨[0,1,4,5,6,7,8,9,10,11,14,21,38,48,64],[]⟩ ?_;simp only[Tryz.f94,ntmps94,iz,seval];simp only[vx,T,seval,tV,tC,eV,ae,qC,X0];refine⟨fun h=>absurd h hl,fun _=>Lg ?_⟩;simp only[vx,T,seval,tV,tC,eV,ae,qC,X0];refine Cg d ?_;simp only[vx,T,seval,QV,QC];refine⟨rfl,rfl,fun i j hi hj=>?_⟩;obtain rfl:i=0:=by omega
 show List.getD _ (0*4+j) _=_;rw[Nat.zero_mul,Nat.zero_add];exact dH x⁻¹ rfl j
theorem Oy {X h:Nat}{t:List El}{a n:El}(hX:X<2^37)(W:TQ (h+1) t)(ha:a.length=2^(h+1))(hv:a.drop (2^h)=zE (2^h))(ln:n.length=2^h)
  (c:dL prog 94 [tV h t,eV (a.take (2^h))] (.rows 62 4 n.length (fQ n)) (.int .i64 0)):
  dL prog 94 [tV (h+1) t,eV a] (.rows 62 4 (n++zE (2^h)).length (fQ (n++zE (2^h)))) (.int .i64 0):=by
 have h3:=W.h6;have hp:2^h≤64:=Nat.pow_le_pow_right (n:=2) (by decide) (show h≤6 by omega);have lz:(zE (2^h)).length=2^h:=au;have U5:(2^h:Nat)≤a.length:=by rw[ha,Nat.pow_succ];omega
 have cT:=fv U5;have cD:=eQ (a:=a) (n:=2^h);have z:=jt (a.drop (2^h)) (by rw[ag ha];omega);rw[decide_eq_true (by rw[ag ha];exact hv)]at z;have z:=z.args (xs:=[.one (a9 a (2^h))]) ⟨.cell cD,trivial⟩;have c:=c.args (xs:=[tV h t,.one (bd a (2^h))]) ⟨.refl _,.cell cT,trivial⟩;have o0:=ba 0 (by decide) (by decide);have fz:=(dT (h:=h) (t:=t) (by omega) (Rat.ofInt 0)).rows;have ez:aU h (Rat.ofInt 0)=zE (2^h):=by
  have:=Nat.two_pow_pos h
  show(0:Rat)::List.replicate (2^h-1) 0=List.replicate (2^h) 0
  rw[←List.replicate_succ];congr 1;omega
 rw[ez]at fz;obtain⟨zn,Ti⟩:∃zn,zn=zE (2^h):=⟨_,rfl⟩;rw[←Ti]at fz lz⊢;obtain⟨n',RS⟩:∃n,n=2^h:=⟨_,rfl⟩;have R4:a.length=2*n':=by rw[ha,Nat.pow_succ,RS];omega
 have w1:IntKind.i64.wrap (((h+1:Nat):Int)-1)=(h:Int):=by rw[IntWalk.i64_in _ (by omega)];omega
 have hp8:n'≤64:=by omega
 have w2:IntKind.i64.wrap (((a.length:Nat):Int).tdiv 2)=(n':Int):=by
  rw[R4,Int.tdiv_eq_ediv_of_nonneg (by omega),IntWalk.i64_in _ (by omega)];omega
 have w4:((a.length:Int)-(n':Int)).toNat=a.length-n':=by omega
 rw[←RS]at z c hp ln lz;clear hv Ti ez cT cD U5 ha;refine tw func94 ⟨[0,1,4,5,6,7,8,9,10,11,14,21,38,48,64],[]⟩ ?_;simp only[Tryz.f94,ntmps94,iz,seval];simp only[vx,T,seval,tV,tC,eV,ae,bd,a9,QV,QC,w1,w2,w4];refine⟨fun h=>absurd h (by omega),fun _=>Lg ?_⟩;simp only[vx,T,seval,tV,tC,eV,ae,bd,a9,QV,QC,w1,w2,w4];refine⟨⟨by omega,by omega⟩,⟨by omega,by omega,by omega⟩,Cg z ?_⟩;simp only[vx,T,seval,tV,tC,eV,ae,bd,a9,QV,QC,w1,w2,w4];refine⟨⟨by omega,by omega⟩,cK.Cz c ?_⟩;simp only[vx,T,seval,tV,tC,eV,ae,bd,a9,QV,QC,w1,w2,w4];refine Cg o0 ?_;simp only[vx,T,seval,tV,tC,eV,ae,bd,a9,QV,QC,w1,w2,w4];refine Cg fz ?_;simp only[vx,T,seval,tV,tC,eV,ae,bd,a9,QV,QC,w1,w2,w4];exact⟨⟨by omega,by omega⟩,List.length_append.symm,rfl,List.length_append.symm,fun i j _ _=>kU n zn i j⟩
theorem Lc {X h:Nat}{t:List El}{a:El}(hX:X<2^37)(W:TQ (h+1) t)(ha:a.length=2^(h+1))(hv:a.drop (2^h)=zE (2^h))
  (c:Pr prog 94 [tV h t,eV (a.take (2^h))] (.aB [.one .nil,.one (.int .i64 6)])):
  Pr prog 94 [tV (h+1) t,eV a] (.aB [.one .nil,.one (.int .i64 6)]):=by
 have h3:=W.h6;have hp:2^h≤64:=Nat.pow_le_pow_right (n:=2) (by decide) (show h≤6 by omega);have U5:(2^h:Nat)≤a.length:=by rw[ha,Nat.pow_succ];omega
 have cT:=fv U5;have cD:=eQ (a:=a) (n:=2^h);have z:=jt (a.drop (2^h)) (by rw[ag ha];omega);rw[decide_eq_true (by rw[ag ha];exact hv)]at z;have z:=z.args (xs:=[.one (a9 a (2^h))]) ⟨.cell cD,trivial⟩;have c:=c.args (xs:=[tV h t,.one (bd a (2^h))]) ⟨.refl _,.cell cT,trivial⟩;obtain⟨n',RS⟩:∃n,n=2^h:=⟨_,rfl⟩;have R4:a.length=2*n':=by rw[ha,Nat.pow_succ,RS];omega
 have w1:IntKind.i64.wrap (((h+1:Nat):Int)-1)=(h:Int):=by rw[IntWalk.i64_in _ (by omega)];omega
 have hp8:n'≤64:=by omega
 have w2:IntKind.i64.wrap (((a.length:Nat):Int).tdiv 2)=(n':Int):=by
  rw[R4,Int.tdiv_eq_ediv_of_nonneg (by omega),IntWalk.i64_in _ (by omega)];omega
 have w4:((a.length:Int)-(n':Int)).toNat=a.length-n':=by omega
 rw[←RS]at z c hp;clear hv cT cD U5 ha;refine pw func94 ⟨[0,1,4,5,6,7,8,9,10,11,14,21,38,48,64],[]⟩ ?_;simp only[Tryz.f94,ntmps94,iz,seval];simp only[vx,T,seval,tV,tC,eV,ae,bd,a9,QV,QC,w1,w2,w4];refine⟨fun h=>absurd h (by omega),fun _=>Lg ?_⟩;simp only[vx,T,seval,tV,tC,eV,ae,bd,a9,QV,QC,w1,w2,w4];refine⟨⟨by omega,by omega⟩,⟨by omega,by omega,by omega⟩,Cg z ?_⟩;simp only[vx,T,seval,tV,tC,eV,ae,bd,a9,QV,QC,w1,w2,w4];refine⟨⟨by omega,by omega⟩,Cg c ?_⟩;simp only[vx,T,seval,tV,tC,eV,ae,bd,a9,QV,QC,w1,w2,w4];exact Ve rfl
theorem NK {X h:Nat}{t:List El}{a n:El}(hX:X<2^37)(W:TQ (h+1) t)(ha:a.length=2^(h+1))(hq:QB X a)(hN:xA X h t a)(qn:cJ X h t (a.take (2^h)) n∧cJ X h t (a.drop (2^h)) n)(hv:a.drop (2^h)≠zE (2^h))(ln:n.length=2^h)
  (c:dL prog 94 [tV h t,eV (aO h t a)] (.rows 62 4 n.length (fQ n)) (.int .i64 0)):
  dL prog 94 [tV (h+1) t,eV a] (.rows 62 4 (ai h t (a.take (2^h)) n++aH (ai h t (a.drop (2^h)) n)).length (fQ (ai h t (a.take (2^h)) n++aH (ai h t (a.drop (2^h)) n)))) (.int .i64 0):=by
 have h3:=W.h6;have W':=W.le (Nat.le_succ h);have hp:2^h≤64:=Nat.pow_le_pow_right (n:=2) (by decide) (show h≤6 by omega);have U5:(2^h:Nat)≤a.length:=by rw[ha,Nat.pow_succ];omega
 have cT:=fv U5;have cD:=eQ (a:=a) (n:=2^h);have z:=jt (a.drop (2^h)) (by rw[ag ha];omega);rw[decide_eq_false (by rw[ag ha];exact hv)]at z;have z:=z.args (xs:=[.one (a9 a (2^h))]) ⟨.cell cD,trivial⟩;have cn:=CW W a ha hX hN;have m1:=fU (xs:=[tV h t,.one (bd a (2^h)),eV n]) (fV hX W'.tk (ah ha) ln qn.1) ⟨.refl _,.cell cT,.refl _,trivial⟩;have ng:=(fU (xs:=[tV h t,.one (a9 a (2^h))]) (zj (h:=h) (t:=t) (a.drop (2^h)) (by rw[ag ha];omega) (.of (hq.drop _) (by omega))) ⟨.refl _,.cell cD,trivial⟩).rows;have lneg:(aH (a.drop (2^h))).length=2^h:=by rw[ar,ag ha]
 have m2:=(fV hX W'.tk lneg ln (qn.2.neg (ag ha))).rows;rw[Go.Tw.pX (ag ha)]at m2;have l1:(ai h t (a.take (2^h)) n).length=2^h:=aa;have l2:(aH (ai h t (a.drop (2^h)) n)).length=2^h:=by rw[ar,aa]
 obtain⟨e,he⟩:∃e,e=aO h t a:=⟨_,rfl⟩;obtain⟨s1,UB⟩:∃s,s=ai h t (a.take (2^h)) n:=⟨_,rfl⟩;obtain⟨s2,TZ⟩:∃s,s=aH (ai h t (a.drop (2^h)) n):=⟨_,rfl⟩;obtain⟨y,hy⟩:∃y,y=aH (a.drop (2^h)):=⟨_,rfl⟩;rw[←he]at c cn;rw[←UB]at m1 l1⊢;rw[←hy]at ng m2 lneg;rw[←TZ]at m2 l2⊢;obtain⟨n',RS⟩:∃n,n=2^h:=⟨_,rfl⟩;have R4:a.length=2*n':=by rw[ha,Nat.pow_succ,RS];omega
 have w1:IntKind.i64.wrap (((h+1:Nat):Int)-1)=(h:Int):=by rw[IntWalk.i64_in _ (by omega)];omega
 have hp8:n'≤64:=by omega
 have w2:IntKind.i64.wrap (((a.length:Nat):Int).tdiv 2)=(n':Int):=by
  rw[R4,Int.tdiv_eq_ediv_of_nonneg (by omega),IntWalk.i64_in _ (by omega)];omega
 have w4:((a.length:Int)-(n':Int)).toNat=a.length-n':=by omega
 rw[←RS]at z m1 ng hp ln l1 l2 lneg;clear hv cT cD U5 ha he UB TZ hy hq hN qn W';refine tw func94 ⟨[0,1,4,5,6,7,8,9,10,11,14,21,38,48,64],[]⟩ ?_;simp only[Tryz.f94,ntmps94,iz,seval];simp only[vx,T,seval,tV,tC,eV,ae,bd,a9,QV,QC,w1,w2,w4];refine⟨fun h=>absurd h (by omega),fun _=>Lg ?_⟩;simp only[vx,T,seval,tV,tC,eV,ae,bd,a9,QV,QC,w1,w2,w4];refine⟨⟨by omega,by omega⟩,⟨by omega,by omega,by omega⟩,Cg z ?_⟩;simp only[vx,T,seval,tV,tC,eV,ae,bd,a9,QV,QC,w1,w2,w4];refine Cg cn ?_;simp only[vx,T,seval,tV,tC,eV,ae,bd,a9,QV,QC,w1,w2,w4];refine cK.Cz c ?_;simp only[vx,T,seval,tV,tC,eV,ae,bd,a9,QV,QC,w1,w2,w4];refine⟨⟨by omega,by omega⟩,cK.fresh m1 ?_⟩;simp only[vx,T,seval,tV,tC,eV,ae,bd,a9,QV,QC,w1,w2,w4];refine⟨⟨by omega,by omega,by omega⟩,Cg ng ?_⟩;simp only[vx,T,seval,tV,tC,eV,ae,bd,a9,QV,QC,w1,w2,w4];refine Cg m2 ?_;simp only[vx,T,seval,tV,tC,eV,ae,bd,a9,QV,QC,w1,w2,w4];exact⟨⟨by omega,by omega⟩,List.length_append.symm,rfl,List.length_append.symm,fun i j _ _=>kU s1 s2 i j⟩
theorem JL {X h:Nat}{t:List El}{a:El}(hX:X<2^37)(W:TQ (h+1) t)(ha:a.length=2^(h+1))(hN:xA X h t a)(hv:a.drop (2^h)≠zE (2^h))
  (c:Pr prog 94 [tV h t,eV (aO h t a)] (.aB [.one .nil,.one (.int .i64 6)])):
  Pr prog 94 [tV (h+1) t,eV a] (.aB [.one .nil,.one (.int .i64 6)]):=by
 have h3:=W.h6;have hp:2^h≤64:=Nat.pow_le_pow_right (n:=2) (by decide) (show h≤6 by omega);have U5:(2^h:Nat)≤a.length:=by rw[ha,Nat.pow_succ];omega
 have cT:=fv U5;have cD:=eQ (a:=a) (n:=2^h);have z:=jt (a.drop (2^h)) (by rw[ag ha];omega);rw[decide_eq_false (by rw[ag ha];exact hv)]at z;have z:=z.args (xs:=[.one (a9 a (2^h))]) ⟨.cell cD,trivial⟩;have cn:=CW W a ha hX hN;obtain⟨e,he⟩:∃e,e=aO h t a:=⟨_,rfl⟩;rw[←he]at c cn;obtain⟨n',RS⟩:∃n,n=2^h:=⟨_,rfl⟩;have R4:a.length=2*n':=by rw[ha,Nat.pow_succ,RS];omega
 have w1:IntKind.i64.wrap (((h+1:Nat):Int)-1)=(h:Int):=by rw[IntWalk.i64_in _ (by omega)];omega
 have hp8:n'≤64:=by omega
 have w2:IntKind.i64.wrap (((a.length:Nat):Int).tdiv 2)=(n':Int):=by
  rw[R4,Int.tdiv_eq_ediv_of_nonneg (by omega),IntWalk.i64_in _ (by omega)];omega
 have w4:((a.length:Int)-(n':Int)).toNat=a.length-n':=by omega
 rw[←RS]at z hp;clear hv cT cD U5 ha he hN;refine pw func94 ⟨[0,1,4,5,6,7,8,9,10,11,14,21,38,48,64],[]⟩ ?_;simp only[Tryz.f94,ntmps94,iz,seval];simp only[vx,T,seval,tV,tC,eV,ae,bd,a9,QV,QC,w1,w2,w4];refine⟨fun h=>absurd h (by omega),fun _=>Lg ?_⟩;simp only[vx,T,seval,tV,tC,eV,ae,bd,a9,QV,QC,w1,w2,w4];refine⟨⟨by omega,by omega⟩,⟨by omega,by omega,by omega⟩,Cg z ?_⟩;simp only[vx,T,seval,tV,tC,eV,ae,bd,a9,QV,QC,w1,w2,w4];refine Cg cn ?_;simp only[vx,T,seval,tV,tC,eV,ae,bd,a9,QV,QC,w1,w2,w4];refine Cg c ?_;simp only[vx,T,seval,tV,tC,eV,ae,bd,a9,QV,QC,w1,w2,w4];exact Ve rfl
theorem vD {X:Nat}(hX:X<2^37){t:List El}:∀{h:Nat} {a:El},TQ h t→Rd h t→a.length=2^h→lL X h t a→LQ h t a 94
 |0,a,_,_,ha,hi=>M6 hX ha hi
 |h+1,a,W,D,ha,hi=>by
  have W':=W.le (Nat.le_succ h);have D':=D.le (Nat.le_succ h);have Ul:=hi.qb;obtain⟨_,hN,i2,i3,_,i5⟩:=hi;have ev:cA (h+1) t a=(cA h t (aO h t a)).map fun n=>ai h t (a.take (2^h)) n++aH (ai h t (a.drop (2^h)) n):=rfl
  by_cases hv:a.drop (2^h)=zE (2^h)
  ·have ih:=vD hX W' D' (ah ha) i2;have vl:=Go.Tw.rZ (t:=t) hv;refine⟨fun n hn=>?_,fun hn=>?_⟩
   ·obtain⟨ln,en⟩:=Go.Tw.dh D.rl ha hn;rw[vl]at en;have h0:val h t (a.take (2^h))≠R.q 0:=fun e=>by rw[e,R.zero_mul]at en;exact R.il en.symm
    obtain⟨m,hm,lm,em⟩:=Go.Tw.jf D' (ah ha) h0;have We:n=m++zE (2^h):=by
     refine Go.Tw.val_inj D ln (by rw[X6,lm,au,Nat.pow_succ];omega) ?_;rw[Go.Tw.kS lm];refine R.gB (z:=val h t (a.take (2^h))) ?_ h0;rw[R.mul_comm,en,R.mul_comm,em]
    rw[We];exact Oy hX W ha hv lm (ih.1 m hm)
   have e0:=Go.Tw.mU D ha hn;rw[vl]at e0;refine Lc hX W ha hv (ih.2 ?_)
   cases hk:cA h t (a.take (2^h))with
   |none=>rfl
   |some m=>
    have:=(Go.Tw.dh D'.rl (ah ha) hk).2
    rw[e0,R.zero_mul]at this;exact absurd this.symm R.il
  have ih:=vD hX W' D' aJ i3;unfold LQ;rw[ev]
  cases hn:cA h t (aO h t a)with
  |none=>exact⟨fun n h=>(by cases h),fun _=>JL hX W ha hN hv (ih.2 hn)⟩
  |some n=>
   refine⟨fun n' hh=>?_,fun hh=>(by cases hh)⟩;obtain rfl:=Option.some.inj hh;exact NK hX W ha Ul hN (i5 n hn) hv (Go.Proofs.YtchkplkghknabaaGreat.jh hn) (ih.1 n hn)
open Go Go.Eng
open Go.Tw (El aE aH zE ai au ar aq aa QB cJ ah ag aO aJ tB aU ay bn g9 dE sB)
theorem KO {t:List El}{a:El}(ha:a.length=2^0)(hq:Qk a):Pr prog 133 [tV 0 t,eV a] (.one (.int .i64 (bn 0 t a))):=by
 obtain⟨x,rfl⟩:=Go.Tw.bx ha;have hx:qm x<2^38:=hq x (by simp);have e:bn 0 t [x]=b9 x.num:=sB x;have c:=rJ x (by omega);rw[e];refine pw func133 ⟨[0,1,4,5,6,7,8,9,12,46,49],[(4,.nil)]⟩ ?_;simp only[Tryz.f133,ntmps133,iz,seval];simp only[vx,T,seval,tV,tC,eV,ae,qC,X0];refine Cg c ?_;simp only[vx,T,seval,ae];exact Ve rfl
theorem qI {X:Nat}(hX:X<2^37){t:List El}:∀{h:Nat} {a:El},TQ h t→a.length=2^h→g9 X h t a→Pr prog 133 [tV h t,eV a] (.one (.int .i64 (bn h t a)))
 |0,a,_,ha,hi=>KO ha (.of hi.qb (by omega))
 |h+1,a,W,ha,hi=>by
  have W':=W.le (Nat.le_succ h);obtain⟨Ul,hN,i1,i2,i3⟩:=hi;have v1:=qI hX W' (ah ha) i1;have v2:=qI hX W' (ag ha) i2;have v3:=qI hX W' aJ i3;have h3:=W.h6;have hp:2^h≤64:=Nat.pow_le_pow_right (n:=2) (by decide) (show h≤6 by omega);have cn:=CW W a ha hX hN;have hn:(2^h:Nat)≤a.length:=by rw[ha,Nat.pow_succ];omega
  have cT:=fv hn;have cD:=eQ (a:=a) (n:=2^h);have v1:=v1.args (xs:=[tV h t,.one (bd a (2^h))]) ⟨.refl _,.cell cT,trivial⟩;have v2:=v2.args (xs:=[tV h t,.one (a9 a (2^h))]) ⟨.refl _,.cell cD,trivial⟩;have e:bn (h+1) t a=if bn h t (a.drop (2^h))=0∨bn h t (a.take (2^h))=bn h t (a.drop (2^h))then bn h t (a.take (2^h))else if bn h t (a.take (2^h))=0 then bn h t (a.drop (2^h))else bn h t (a.take (2^h))*bn h t (aO h t a):=rfl
  have r1:=@dE h t (a.take (2^h));have r3:=@dE h t (aO h t a);obtain⟨n,RS⟩:∃n,n=2^h:=⟨_,rfl⟩;have R4:a.length=2*n:=by rw[ha,Nat.pow_succ,RS];omega
  obtain⟨m,hm⟩:∃m,m=aO h t a:=⟨_,rfl⟩;obtain⟨s1,UB⟩:∃s,s=bn h t (a.take (2^h)):=⟨_,rfl⟩;obtain⟨s2,TZ⟩:∃s,s=bn h t (a.drop (2^h)):=⟨_,rfl⟩;rw[←hm]at v3 e cn r3;obtain⟨s3,XM⟩:∃s,s=bn h t m:=⟨_,rfl⟩;rw[←UB,←TZ,←XM]at e;rw[←UB]at v1 r1;rw[←TZ]at v2;rw[←XM]at v3 r3;rw[e];rw[←RS]at v1 v2 hp;clear Ul hN i1 i2 i3 UB TZ XM cT cD W hm hn ha;have w1:IntKind.i64.wrap (((h+1:Nat):Int)-1)=(h:Int):=by rw[IntWalk.i64_in _ (by omega)];omega
  have w2:IntKind.i64.wrap (((a.length:Nat):Int).tdiv 2)=(n:Int):=by
   rw[R4,Int.tdiv_eq_ediv_of_nonneg (by omega),IntWalk.i64_in _ (by omega)];omega
  have w4:((a.length:Int)-(n:Int)).toNat=a.length-n:=by omega
  have w3:IntKind.i64.wrap (s1*s3)=s1*s3:=by
   rw[IntWalk.i64_in]
   have:s1= -1∨s1=0∨s1=1:=by omega
   rcases this with h|h|h<;>rw [h]<;>omega
  refine pw func133 ⟨[0,1,4,5,6,7,8,9,12,46,49],[(4,.nil)]⟩ ?_;simp only[Tryz.f133,ntmps133,iz,seval];simp only[vx,T,seval,tV,tC,eV,ae,bd,a9,w1,w2,w3,w4];refine⟨fun h=>absurd h (by omega),fun _=>Lg ?_⟩;simp only[vx,T,seval,tV,tC,eV,ae,bd,a9,w1,w2,w3,w4];refine⟨⟨by omega,by omega⟩,⟨by omega,by omega,by omega⟩,⟨by omega,by omega⟩,Cg v1 ?_⟩;simp only[vx,T,seval,tV,tC,eV,ae,bd,a9,w1,w2,w3,w4];refine⟨⟨by omega,by omega⟩,Cg v2 ?_⟩;simp only[vx,T,seval,tV,tC,eV,ae,bd,a9,w1,w2,w3,w4];refine⟨fun k2=>Lg ?_,fun k2=>Lg ?_⟩
  ·rw[if_pos (.inl k2)];simp only[vx,T,seval,tV,tC,eV,ae,bd,a9,w1,w2,w3,w4];exact Ve rfl
  simp only[vx,T,seval,tV,tC,eV,ae,bd,a9,w1,w2,w3,w4];refine⟨fun k3=>Lg ?_,fun k3=>Lg ?_⟩
  ·rw[if_pos (.inr k3)];simp only[vx,T,seval,tV,tC,eV,ae,bd,a9,w1,w2,w3,w4];exact Ve rfl
  rw[if_neg (not_or.2 ⟨k2,k3⟩)];simp only[vx,T,seval,tV,tC,eV,ae,bd,a9,w1,w2,w3,w4];refine⟨fun k1=>Lg ?_,fun k1=>Lg ?_⟩
  ·rw[if_pos k1];simp only[vx,T,seval,tV,tC,eV,ae,bd,a9,w1,w2,w3,w4];exact Ve rfl
  rw[if_neg k1];simp only[vx,T,seval,tV,tC,eV,ae,bd,a9,w1,w2,w3,w4];refine⟨⟨by omega,by omega⟩,Cg cn ?_⟩;simp only[vx,T,seval,tV,tC,eV,ae,bd,a9,w1,w2,w3,w4];refine Cg v3 ?_;simp only[vx,T,seval,tV,tC,eV,ae,bd,a9,w1,w2,w3,w4];exact Ve rfl
theorem N2 {X h:Nat}(hX:X<2^37){t:List El}{a:El}(W:TQ h t)(ha:a.length=2^h)(hs:g9 X h t a):Pr prog 95 [tV h t,eV a] (.one (.int .i64 (bn h t a))):=by
 have c:=qI hX W ha hs;refine pw func95 ⟨[0,1,4],[]⟩ ?_;simp only[Tryz.f95,ntmps95,iz,seval];simp only[vx,T,seval,tV,tC,eV,ae];refine Cg c ?_;simp only[vx,T,seval,ae];exact Ve rfl
theorem OI {X h:Nat}(hX:X<2^37){t:List El}(W:xu X h t):Pr prog 156 [tV h t] (.one (.bool true)):=by
 have h3:=W.tq.h6;have f:=DG W.tq.tk;have v:∀i,i<h→Pr prog 133 [tV i t,eV (t.getD i [])] (.one (.int .i64 1)):=fun i hi=>by
  have c:=qI hX (W.tq.le (show i≤h by omega)) (W.tq.tk.len i hi) (W.s i hi);have p:=W.p i hi;have q:=@dE i t (t.getD i [])
  rwa [show bn i t (t.getD i [])=1 by omega]at c
 refine pw func156 ⟨[0,2,3,6,10,21],[]⟩ ?_;simp only[Tryz.f156,ntmps156,iz,seval];simp only[vx,T,seval,tV,tC,ae];refine Cg f ?_;simp only[vx,T,seval,tV,tC,ae];refine Lk (fun y:{i:Nat//i≤h}=>⟨[(0,tV h t),(2,.one (.bool false)),(3,.one (.int .i64 y.1))],[],2,22⟩) (fun y=>h-y.1) ⟨0,Nat.zero_le _⟩ ?_ (fun⟨i,hi⟩=>?_)
 ·refine Sa ?_;simp only[ry,seval,rz,tV,tC,ae]
 simp only;have wi:=wI i (by omega);simp only[vx,T,seval,tV,tC,ae];refine⟨fun k=>Lg ?_,fun k=>Lg ?_⟩
 ·have vi:=v i (by omega);obtain⟨r,hr⟩:∃r,r=t.getD i []:=⟨_,rfl⟩;rw[←hr]at vi;simp only[vx,T,seval,tV,tC,ae,←hr];refine⟨⟨by omega,by omega⟩,⟨by omega,by omega⟩,Cg vi ?_⟩;simp only[vx,T,seval,tV,tC,ae,wi];refine Lq ⟨i+1,by omega⟩ ?_ (by show h-(i+1)<h-i;omega);refine Sa ?_;simp only[ry,seval,rz,tV,tC,ae]
 simp only[vx,T,seval,tV,tC,ae];exact Ve rfl
theorem kP {X h:Nat}(hX:X<2^37){t:List El}{a:El}(W:xu X h t)(ha:a.length=2^h)(hs:g9 X h t a):Pr prog 120 [tV h t,eV a] (.one (.int .i64 (bn h t a))):=by
 have v:=qI hX W.tq ha hs;have f:=tM W.tq.tk a ha (.of hs.qb (by omega));have g:=OI hX W;refine pw func120 ⟨[0,1,4,13],[]⟩ ?_;simp only[Tryz.f120,ntmps120,iz,seval];simp only[vx,T,seval,tV,tC,eV,ae];refine Cg f ?_;simp only[vx,T,seval,tV,tC,eV,ae];refine Cg g ?_;simp only[vx,T,seval,tV,tC,eV,ae];refine Cg v ?_;simp only[vx,T,seval,tV,tC,eV,ae];exact Ve rfl
open Go Go.Eng
open Go.Tw (El aE aH zE ai au ar aq aa QB cJ ah ag aO aJ tB aU ay cA lL j8 g9 val In Rd lU bn cE dE)
theorem CM (a b:El)(hl:a.length+b.length<2^38):Pr prog 158 [eV a,eV b] (eV (a++b)):=by
 refine pw func158 ⟨[0,1,4],[]⟩ ?_;simp only[Tryz.f158,ntmps158,iz,seval];simp only[vx,T,seval,eV,ae];refine⟨⟨by omega,by omega⟩,⟨by omega,by omega⟩,fB.cell (dB.rows List.length_append.symm fun i j hi hj=>.of_eq ?_)⟩;have e:=kU a b i j;unfold fQ at e;rw[if_neg (Nat.not_lt_zero _),Nat.sub_zero];exact e
theorem FA {t:List El}{a:El}(ha:a.length=2^0)(hq:Qk a):Kb 0 t a 121:=by
 obtain⟨x,rfl⟩:=Go.Tw.bx ha;have hx:qm x<2^38:=hq x (by simp);have c:=yH x hx
 cases h:AH x with
 |some r=>
  rw[h]at c;refine .inl ⟨[r],rfl,?_,?_⟩
  ·show R.q r*R.q r=R.q x;rw[←R.dr,(pP h).1]
  refine pw func121 ⟨[0,1,4,5,6,7,8,9,10,11,12,13,14,15,16,17,19,20,21,22,23,24,25,26,27,28,32,46,70,77,96,120,125,140],[(7,.nil),(9,.nil)]⟩ ?_;simp only[Tryz.f121,ntmps121,iz,seval];simp only[vx,T,seval,QV,QC,tV,tC,eV,ae,qC,X0];refine Cg c ?_;simp only[vx,T,seval,QV,QC,tV,tC,eV,ae,qC,X0];refine fB.aB ⟨.cell (.rows rfl fun i j hi _=>.of_eq ?_),.refl _,trivial⟩;obtain rfl:i=0:=by omega
  rw[Nat.zero_mul,Nat.zero_add];exact dH r rfl j
 |none=>
  rw[h]at c;refine .inr ⟨?_,[fun j=>[C.bool false,.nil,.bool false,.nil].getD j .any],Nat.le_refl _,?_⟩
  ·rintro z ⟨b,hb,rfl⟩ e;obtain⟨y,rfl⟩:=Go.Tw.bx hb;have e:R.q y*R.q y=R.q x:=e;rw[←R.dr]at e;exact z6 h y (R.jT e)
  refine pw func121 ⟨[0,1,4,5,6,7,8,9,10,11,12,13,14,15,16,17,19,20,21,22,23,24,25,26,27,28,32,46,70,77,96,120,125,140],[(7,.nil),(9,.nil)]⟩ ?_;simp only[Tryz.f121,ntmps121,iz,seval];simp only[vx,T,seval,QV,QC,tV,tC,eV,ae,qC,X0];refine Cg c ?_;simp only[vx,T,seval,QV,QC,tV,tC,eV,ae,qC,X0];refine fB.aB ⟨.cell (.rows rfl fun i j hi _=>.of_eq ?_),.refl _,trivial⟩;obtain rfl:i=0:=by omega
  rw[Nat.zero_mul,Nat.zero_add];rfl
theorem O7 {X h:Nat}(hX:X<2^37){t:List El}{a:El}(W:xu X (h+1) t)(ha:a.length=2^(h+1))(hs:g9 X (h+1) t a)(TN:bn (h+1) t a<0):Pr prog 121 [tV (h+1) t,eV a] (.aB [.one .nil,.one (.bool false)]):=by
 have sg:=kP hX W ha hs;obtain⟨sgn',U6⟩:∃s,s=bn (h+1) t a:=⟨_,rfl⟩;rw[←U6]at sg TN;refine pw func121 ⟨[0,1,4,5,6,7,8,9,10,11,12,13,14,15,16,17,19,20,21,22,23,24,25,26,27,28,32,46,70,77,96,120,125,140],[(7,.nil),(9,.nil)]⟩ ?_;simp only[Tryz.f121,ntmps121,iz,seval];simp only[vx,T,seval,tV,tC,eV,ae];refine⟨fun h=>absurd h (by omega),fun _=>Lg ?_⟩;simp only[vx,T,seval,tV,tC,eV,ae];refine Cg sg ?_;simp only[vx,T,seval,tV,tC,eV,ae];refine⟨fun _=>Lg ?_,fun h=>absurd TN h⟩;simp only[vx,T,seval,tV,tC,eV,ae];exact Ve rfl
theorem MZ {X h:Nat}(hX:X<2^37){t:List El}{a w:El}(W:xu X (h+1) t)(ha:a.length=2^(h+1))(hs:g9 X (h+1) t a)(TN:¬bn (h+1) t a<0)(hv:a.drop (2^h)=zE (2^h))(hw:w.length=2^h)
  (c:Pr prog 121 [tV h t,eV (a.take (2^h))] (.aB [eV w,.one (.bool true)])):
  Pr prog 121 [tV (h+1) t,eV a] (.aB [eV (w++zE (2^h)),.one (.bool true)]):=by
 have W':=W.tq.le (Nat.le_succ h);have h3:=W.tq.h6;have hp:2^h≤64:=Nat.pow_le_pow_right (n:=2) (by decide) (show h≤6 by omega);have sg:=kP hX W ha hs;have z:=jt (a.drop (2^h)) (by rw[ag ha];omega);have o0:=ba 0 (by decide) (by decide);have fz:=(dT (h:=h) (t:=t) (by omega) (Rat.ofInt 0)).rows;rw[Cq]at fz;have lz:(zE (2^h)).length=2^h:=au;rw[decide_eq_true (by rw[ag ha];exact hv)]at z;have hn:(2^h:Nat)≤a.length:=by rw[ha,Nat.pow_succ];omega
 have cT:=fv hn;have cD:=eQ (a:=a) (n:=2^h);have z:=z.args (xs:=[.one (a9 a (2^h))]) ⟨.cell cD,trivial⟩;have k:=CM w (zE (2^h)) (by rw[hw,lz];omega);have c:=c.args (xs:=[tV h t,.one (bd a (2^h))]) ⟨.refl _,.cell cT,trivial⟩;obtain⟨n,RS⟩:∃n,n=2^h:=⟨_,rfl⟩;have R4:a.length=2*n:=by rw[ha,Nat.pow_succ,RS];omega
 have w1:IntKind.i64.wrap (((h+1:Nat):Int)-1)=(h:Int):=by rw[IntWalk.i64_in _ (by omega)];omega
 have hn8:n≤64:=by omega
 have w2:IntKind.i64.wrap (((a.length:Nat):Int).tdiv 2)=(n:Int):=by
  rw[R4,Int.tdiv_eq_ediv_of_nonneg (by omega),IntWalk.i64_in _ (by omega)];omega
 have w4:((a.length:Int)-(n:Int)).toNat=a.length-n:=by omega
 obtain⟨sgn',U6⟩:∃s,s=bn (h+1) t a:=⟨_,rfl⟩;obtain⟨r,RM⟩:∃r,r=t.getD h []:=⟨_,rfl⟩;obtain⟨zn,Ti⟩:∃z,z=zE (2^h):=⟨_,rfl⟩;rw[←Ti]at fz lz;rw[←U6]at sg TN;rw[←Ti]at k⊢;rw[←RS]at z c hp lz hw;clear hv RS Ti cT cD hn ha hs W W';refine pw func121 ⟨[0,1,4,5,6,7,8,9,10,11,12,13,14,15,16,17,19,20,21,22,23,24,25,26,27,28,32,46,70,77,96,120,125,140],[(7,.nil),(9,.nil)]⟩ ?_;simp only[Tryz.f121,ntmps121,iz,seval];simp only[vx,T,seval,tV,tC,eV,ae,bd,a9,QV,QC,GC,w1,w2,w4,←RM];refine⟨fun h=>absurd h (by omega),fun _=>Lg ?_⟩;simp only[vx,T,seval,tV,tC,eV,ae,bd,a9,QV,QC,GC,w1,w2,w4,←RM];refine Cg sg ?_;simp only[vx,T,seval,tV,tC,eV,ae,bd,a9,QV,QC,GC,w1,w2,w4,←RM];refine⟨fun h=>absurd h (by omega),fun _=>Lg ?_⟩;simp only[vx,T,seval,tV,tC,eV,ae,bd,a9,QV,QC,GC,w1,w2,w4,←RM];refine⟨⟨by omega,by omega⟩,⟨by omega,by omega⟩,⟨by omega,by omega⟩,⟨by omega,by omega,by omega⟩,Cg o0 ?_⟩;simp only[vx,T,seval,tV,tC,eV,ae,bd,a9,QV,QC,GC,w1,w2,w4,←RM];refine Cg fz ?_;simp only[vx,T,seval,tV,tC,eV,ae,bd,a9,QV,QC,GC,w1,w2,w4,←RM];refine Cg z ?_;simp only[vx,T,seval,tV,tC,eV,ae,bd,a9,QV,QC,GC,w1,w2,w4,←RM];refine Cg c ?_;simp only[vx,T,seval,tV,tC,eV,ae,bd,a9,QV,QC,GC,w1,w2,w4,←RM];refine Cg k ?_;simp only[vx,T,seval,tV,tC,eV,ae,bd,a9,QV,QC,GC,w1,w2,w4,←RM];exact Ve rfl
theorem N0 {X h:Nat}(hX:X<2^37){t:List El}{a i w:El}(W:xu X (h+1) t)(ha:a.length=2^(h+1))(hs:g9 X (h+1) t a)(TN:¬bn (h+1) t a<0)(hv:a.drop (2^h)=zE (2^h)){l:List (Nat→C)}(D':Rd h t)(hw:w.length=2^h)
  (c:Pr prog 121 [tV h t,eV (a.take (2^h))] (.aB [.one (GC l),.one (.bool false)])) (hr:lL X h t (t.getD h [])) (hi:cA h t (t.getD h [])=some i) (qi:cJ X h t (a.take (2^h)) i)
  (c2:Pr prog 121 [tV h t,eV (ai h t (a.take (2^h)) i)] (.aB [eV w,.one (.bool true)])):
  Pr prog 121 [tV (h+1) t,eV a] (.aB [eV (zE (2^h)++w),.one (.bool true)]):=by
 have W':=W.tq.le (Nat.le_succ h);have h3:=W.tq.h6;have hp:2^h≤64:=Nat.pow_le_pow_right (n:=2) (by decide) (show h≤6 by omega);have sg:=kP hX W ha hs;have z:=jt (a.drop (2^h)) (by rw[ag ha];omega);have o0:=ba 0 (by decide) (by decide);have fz:=(dT (h:=h) (t:=t) (by omega) (Rat.ofInt 0)).rows;rw[Cq]at fz;have lz:(zE (2^h)).length=2^h:=au;rw[decide_eq_true (by rw[ag ha];exact hv)]at z;have hn:(2^h:Nat)≤a.length:=by rw[ha,Nat.pow_succ];omega
 have cT:=fv hn;have cD:=eQ (a:=a) (n:=2^h);have z:=z.args (xs:=[.one (a9 a (2^h))]) ⟨.cell cD,trivial⟩;have k:=CM (zE (2^h)) w (by rw[hw,lz];omega);have c:=c.args (xs:=[tV h t,.one (bd a (2^h))]) ⟨.refl _,.cell cT,trivial⟩;have lr:=W.tq.tk.len h (by omega);have li:=Go.Proofs.YtchkplkghknabaaGreat.jh hi;have iv:=((vD hX W' D' lr hr).1 i hi).rows;have m:=(fV hX W'.tk (ah ha) li qi).rows;have m:=m.args (xs:=[tV h t,.one (bd a (2^h)),eV i]) ⟨.refl _,.cell cT,.refl _,trivial⟩;obtain⟨y,hy⟩:∃y,y=ai h t (a.take (2^h)) i:=⟨_,rfl⟩;rw[←hy]at m c2;obtain⟨n,RS⟩:∃n,n=2^h:=⟨_,rfl⟩;have R4:a.length=2*n:=by rw[ha,Nat.pow_succ,RS];omega
 have w1:IntKind.i64.wrap (((h+1:Nat):Int)-1)=(h:Int):=by rw[IntWalk.i64_in _ (by omega)];omega
 have hn8:n≤64:=by omega
 have w2:IntKind.i64.wrap (((a.length:Nat):Int).tdiv 2)=(n:Int):=by
  rw[R4,Int.tdiv_eq_ediv_of_nonneg (by omega),IntWalk.i64_in _ (by omega)];omega
 have w4:((a.length:Int)-(n:Int)).toNat=a.length-n:=by omega
 obtain⟨sgn',U6⟩:∃s,s=bn (h+1) t a:=⟨_,rfl⟩;obtain⟨r,RM⟩:∃r,r=t.getD h []:=⟨_,rfl⟩;obtain⟨zn,Ti⟩:∃z,z=zE (2^h):=⟨_,rfl⟩;rw[←Ti]at fz lz;rw[←U6]at sg TN;rw[←Ti]at k⊢;rw[←RM]at iv;rw[←RS]at z c m hp lz hw;clear hv RS Ti cT cD hn ha hs W W' hr hi qi lr li hy;refine pw func121 ⟨[0,1,4,5,6,7,8,9,10,11,12,13,14,15,16,17,19,20,21,22,23,24,25,26,27,28,32,46,70,77,96,120,125,140],[(7,.nil),(9,.nil)]⟩ ?_;simp only[Tryz.f121,ntmps121,iz,seval];simp only[vx,T,seval,tV,tC,eV,ae,bd,a9,QV,QC,GC,w1,w2,w4,←RM];refine⟨fun h=>absurd h (by omega),fun _=>Lg ?_⟩;simp only[vx,T,seval,tV,tC,eV,ae,bd,a9,QV,QC,GC,w1,w2,w4,←RM];refine Cg sg ?_;simp only[vx,T,seval,tV,tC,eV,ae,bd,a9,QV,QC,GC,w1,w2,w4,←RM];refine⟨fun h=>absurd h (by omega),fun _=>Lg ?_⟩;simp only[vx,T,seval,tV,tC,eV,ae,bd,a9,QV,QC,GC,w1,w2,w4,←RM];refine⟨⟨by omega,by omega⟩,⟨by omega,by omega⟩,⟨by omega,by omega⟩,⟨by omega,by omega,by omega⟩,Cg o0 ?_⟩;simp only[vx,T,seval,tV,tC,eV,ae,bd,a9,QV,QC,GC,w1,w2,w4,←RM];refine Cg fz ?_;simp only[vx,T,seval,tV,tC,eV,ae,bd,a9,QV,QC,GC,w1,w2,w4,←RM];refine Cg z ?_;simp only[vx,T,seval,tV,tC,eV,ae,bd,a9,QV,QC,GC,w1,w2,w4,←RM];refine Cg c ?_;simp only[vx,T,seval,tV,tC,eV,ae,bd,a9,QV,QC,GC,w1,w2,w4,←RM];refine Cg iv ?_;simp only[vx,T,seval,tV,tC,eV,ae,bd,a9,QV,QC,GC,w1,w2,w4,←RM];refine Cg m ?_;simp only[vx,T,seval,tV,tC,eV,ae,bd,a9,QV,QC,GC,w1,w2,w4,←RM];refine Cg c2 ?_;simp only[vx,T,seval,tV,tC,eV,ae,bd,a9,QV,QC,GC,w1,w2,w4,←RM];refine Cg k ?_;simp only[vx,T,seval,tV,tC,eV,ae,bd,a9,QV,QC,GC,w1,w2,w4,←RM];exact Ve rfl
theorem NU {X h:Nat}(hX:X<2^37){t:List El}{a i:El}(W:xu X (h+1) t)(ha:a.length=2^(h+1))(hs:g9 X (h+1) t a)(TN:¬bn (h+1) t a<0)(hv:a.drop (2^h)=zE (2^h)){l p:List (Nat→C)}(D':Rd h t)
  (c:Pr prog 121 [tV h t,eV (a.take (2^h))] (.aB [.one (GC l),.one (.bool false)])) (hr:lL X h t (t.getD h [])) (hi:cA h t (t.getD h [])=some i) (qi:cJ X h t (a.take (2^h)) i)
  (c2:Pr prog 121 [tV h t,eV (ai h t (a.take (2^h)) i)] (.aB [.one (GC p),.one (.bool false)])):
  Pr prog 121 [tV (h+1) t,eV a] (.aB [.one .nil,.one (.bool false)]):=by
 have W':=W.tq.le (Nat.le_succ h);have h3:=W.tq.h6;have hp:2^h≤64:=Nat.pow_le_pow_right (n:=2) (by decide) (show h≤6 by omega);have sg:=kP hX W ha hs;have z:=jt (a.drop (2^h)) (by rw[ag ha];omega);have o0:=ba 0 (by decide) (by decide);have fz:=(dT (h:=h) (t:=t) (by omega) (Rat.ofInt 0)).rows;rw[Cq]at fz;have lz:(zE (2^h)).length=2^h:=au;rw[decide_eq_true (by rw[ag ha];exact hv)]at z;have hn:(2^h:Nat)≤a.length:=by rw[ha,Nat.pow_succ];omega
 have cT:=fv hn;have cD:=eQ (a:=a) (n:=2^h);have z:=z.args (xs:=[.one (a9 a (2^h))]) ⟨.cell cD,trivial⟩;have c:=c.args (xs:=[tV h t,.one (bd a (2^h))]) ⟨.refl _,.cell cT,trivial⟩;have lr:=W.tq.tk.len h (by omega);have li:=Go.Proofs.YtchkplkghknabaaGreat.jh hi;have iv:=((vD hX W' D' lr hr).1 i hi).rows;have m:=(fV hX W'.tk (ah ha) li qi).rows;have m:=m.args (xs:=[tV h t,.one (bd a (2^h)),eV i]) ⟨.refl _,.cell cT,.refl _,trivial⟩;obtain⟨y,hy⟩:∃y,y=ai h t (a.take (2^h)) i:=⟨_,rfl⟩;rw[←hy]at m c2;obtain⟨n,RS⟩:∃n,n=2^h:=⟨_,rfl⟩;have R4:a.length=2*n:=by rw[ha,Nat.pow_succ,RS];omega
 have w1:IntKind.i64.wrap (((h+1:Nat):Int)-1)=(h:Int):=by rw[IntWalk.i64_in _ (by omega)];omega
 have hn8:n≤64:=by omega
 have w2:IntKind.i64.wrap (((a.length:Nat):Int).tdiv 2)=(n:Int):=by
  rw[R4,Int.tdiv_eq_ediv_of_nonneg (by omega),IntWalk.i64_in _ (by omega)];omega
 have w4:((a.length:Int)-(n:Int)).toNat=a.length-n:=by omega
 obtain⟨sgn',U6⟩:∃s,s=bn (h+1) t a:=⟨_,rfl⟩;obtain⟨r,RM⟩:∃r,r=t.getD h []:=⟨_,rfl⟩;obtain⟨zn,Ti⟩:∃z,z=zE (2^h):=⟨_,rfl⟩;rw[←Ti]at fz lz;rw[←U6]at sg TN;rw[←RM]at iv;rw[←RS]at z c m hp lz;clear hv RS Ti cT cD hn ha hs W W' hr hi qi lr li hy;refine pw func121 ⟨[0,1,4,5,6,7,8,9,10,11,12,13,14,15,16,17,19,20,21,22,23,24,25,26,27,28,32,46,70,77,96,120,125,140],[(7,.nil),(9,.nil)]⟩ ?_;simp only[Tryz.f121,ntmps121,iz,seval];simp only[vx,T,seval,tV,tC,eV,ae,bd,a9,QV,QC,GC,w1,w2,w4,←RM];refine⟨fun h=>absurd h (by omega),fun _=>Lg ?_⟩;simp only[vx,T,seval,tV,tC,eV,ae,bd,a9,QV,QC,GC,w1,w2,w4,←RM];refine Cg sg ?_;simp only[vx,T,seval,tV,tC,eV,ae,bd,a9,QV,QC,GC,w1,w2,w4,←RM];refine⟨fun h=>absurd h (by omega),fun _=>Lg ?_⟩;simp only[vx,T,seval,tV,tC,eV,ae,bd,a9,QV,QC,GC,w1,w2,w4,←RM];refine⟨⟨by omega,by omega⟩,⟨by omega,by omega⟩,⟨by omega,by omega⟩,⟨by omega,by omega,by omega⟩,Cg o0 ?_⟩;simp only[vx,T,seval,tV,tC,eV,ae,bd,a9,QV,QC,GC,w1,w2,w4,←RM];refine Cg fz ?_;simp only[vx,T,seval,tV,tC,eV,ae,bd,a9,QV,QC,GC,w1,w2,w4,←RM];refine Cg z ?_;simp only[vx,T,seval,tV,tC,eV,ae,bd,a9,QV,QC,GC,w1,w2,w4,←RM];refine Cg c ?_;simp only[vx,T,seval,tV,tC,eV,ae,bd,a9,QV,QC,GC,w1,w2,w4,←RM];refine Cg iv ?_;simp only[vx,T,seval,tV,tC,eV,ae,bd,a9,QV,QC,GC,w1,w2,w4,←RM];refine Cg m ?_;simp only[vx,T,seval,tV,tC,eV,ae,bd,a9,QV,QC,GC,w1,w2,w4,←RM];refine Cg c2 ?_;simp only[vx,T,seval,tV,tC,eV,ae,bd,a9,QV,QC,GC,w1,w2,w4,←RM];exact Ve rfl
theorem M4 {X h:Nat}(hX:X<2^37){t:List El}{a:El}(W:xu X (h+1) t)(ha:a.length=2^(h+1))(hs:g9 X (h+1) t a)(TN:¬bn (h+1) t a<0)(hv:a.drop (2^h)≠zE (2^h)){l:List (Nat→C)}
  (c:Pr prog 121 [tV h t,eV (aO h t a)] (.aB [.one (GC l),.one (.bool false)])):
  Pr prog 121 [tV (h+1) t,eV a] (.aB [.one .nil,.one (.bool false)]):=by
 have W':=W.tq.le (Nat.le_succ h);have h3:=W.tq.h6;have hp:2^h≤64:=Nat.pow_le_pow_right (n:=2) (by decide) (show h≤6 by omega);have sg:=kP hX W ha hs;have z:=jt (a.drop (2^h)) (by rw[ag ha];omega);have o0:=ba 0 (by decide) (by decide);have fz:=(dT (h:=h) (t:=t) (by omega) (Rat.ofInt 0)).rows;rw[Cq]at fz;have lz:(zE (2^h)).length=2^h:=au;rw[decide_eq_false (by rw[ag ha];exact hv)]at z;have hn:(2^h:Nat)≤a.length:=by rw[ha,Nat.pow_succ];omega
 have cT:=fv hn;have cD:=eQ (a:=a) (n:=2^h);have z:=z.args (xs:=[.one (a9 a (2^h))]) ⟨.cell cD,trivial⟩;have S9:=W.tq.tk.len h (by omega);have Ss:=ah ha;have So:=ag ha;have hqs:=hs.qb;obtain⟨_,⟨n1,n2,n3⟩,_⟩:=hs;have m1:=(fV hX W'.tk Ss Ss n1).rows;have m2:=(fV hX W'.tk So So n2).rows;have m3:=(fV hX W'.tk S9 aa n3.comm).rows;have sb:=(IQ (h:=h) (t:=t) _ _ (by rw[aa];omega) (by rw[aa,aa]) (Qk.of n1.q.2.2 (by omega)) (Qk.of n3.comm.q.2.2 (by omega))).rows;rw[Go.Tw.nf]at sb;have m1:=m1.args (xs:=[tV h t,.one (bd a (2^h)),.one (bd a (2^h))]) ⟨.refl _,.cell cT,.cell cT,trivial⟩;have m2:=m2.args (xs:=[tV h t,.one (a9 a (2^h)),.one (a9 a (2^h))]) ⟨.refl _,.cell cD,.cell cD,trivial⟩;obtain⟨e,he⟩:∃e,e=aO h t a:=⟨_,rfl⟩;obtain⟨p1,Ug⟩:∃p,p=ai h t (a.take (2^h)) (a.take (2^h)):=⟨_,rfl⟩;obtain⟨p2,TH⟩:∃p,p=ai h t (a.drop (2^h)) (a.drop (2^h)):=⟨_,rfl⟩;rw[←he]at sb c;rw[←Ug]at m1 sb;rw[←TH]at m2 m3 sb;obtain⟨p3,UQ⟩:∃p,p=ai h t (t.getD h []) p2:=⟨_,rfl⟩;rw[←UQ]at m3 sb;obtain⟨n,RS⟩:∃n,n=2^h:=⟨_,rfl⟩;have R4:a.length=2*n:=by rw[ha,Nat.pow_succ,RS];omega
 have w1:IntKind.i64.wrap (((h+1:Nat):Int)-1)=(h:Int):=by rw[IntWalk.i64_in _ (by omega)];omega
 have hn8:n≤64:=by omega
 have w2:IntKind.i64.wrap (((a.length:Nat):Int).tdiv 2)=(n:Int):=by
  rw[R4,Int.tdiv_eq_ediv_of_nonneg (by omega),IntWalk.i64_in _ (by omega)];omega
 have w4:((a.length:Int)-(n:Int)).toNat=a.length-n:=by omega
 obtain⟨sgn',U6⟩:∃s,s=bn (h+1) t a:=⟨_,rfl⟩;obtain⟨r,RM⟩:∃r,r=t.getD h []:=⟨_,rfl⟩;obtain⟨zn,Ti⟩:∃z,z=zE (2^h):=⟨_,rfl⟩;rw[←Ti]at fz lz;rw[←U6]at sg TN;rw[←RM]at m3;rw[←RS]at z m1 m2 hp lz;clear hv RS Ti cT cD hn ha hqs W W' S9 Ss So n1 n2 n3 he Ug TH UQ;refine pw func121 ⟨[0,1,4,5,6,7,8,9,10,11,12,13,14,15,16,17,19,20,21,22,23,24,25,26,27,28,32,46,70,77,96,120,125,140],[(7,.nil),(9,.nil)]⟩ ?_;simp only[Tryz.f121,ntmps121,iz,seval];simp only[vx,T,seval,tV,tC,eV,ae,bd,a9,QV,QC,GC,w1,w2,w4,←RM];refine⟨fun h=>absurd h (by omega),fun _=>Lg ?_⟩;simp only[vx,T,seval,tV,tC,eV,ae,bd,a9,QV,QC,GC,w1,w2,w4,←RM];refine Cg sg ?_;simp only[vx,T,seval,tV,tC,eV,ae,bd,a9,QV,QC,GC,w1,w2,w4,←RM];refine⟨fun h=>absurd h (by omega),fun _=>Lg ?_⟩;simp only[vx,T,seval,tV,tC,eV,ae,bd,a9,QV,QC,GC,w1,w2,w4,←RM];refine⟨⟨by omega,by omega⟩,⟨by omega,by omega⟩,⟨by omega,by omega⟩,⟨by omega,by omega,by omega⟩,Cg o0 ?_⟩;simp only[vx,T,seval,tV,tC,eV,ae,bd,a9,QV,QC,GC,w1,w2,w4,←RM];refine Cg fz ?_;simp only[vx,T,seval,tV,tC,eV,ae,bd,a9,QV,QC,GC,w1,w2,w4,←RM];refine Cg z ?_;simp only[vx,T,seval,tV,tC,eV,ae,bd,a9,QV,QC,GC,w1,w2,w4,←RM];refine Cg m1 ?_;simp only[vx,T,seval,tV,tC,eV,ae,bd,a9,QV,QC,GC,w1,w2,w4,←RM];refine Cg m2 ?_;simp only[vx,T,seval,tV,tC,eV,ae,bd,a9,QV,QC,GC,w1,w2,w4,←RM];refine Cg m3 ?_;simp only[vx,T,seval,tV,tC,eV,ae,bd,a9,QV,QC,GC,w1,w2,w4,←RM];refine Cg sb ?_;simp only[vx,T,seval,tV,tC,eV,ae,bd,a9,QV,QC,GC,w1,w2,w4,←RM];refine Cg c ?_;simp only[vx,T,seval,tV,tC,eV,ae,bd,a9,QV,QC,GC,w1,w2,w4,←RM];exact Ve rfl
def mE (m:El):Nat→El
 |0=>m
 |j+1=>aH (mE m j)
theorem Iq {m:El}{n:Nat}(h:m.length=n):∀j,(mE m j).length=n
 |0=>h
 |j+1=>by rw[mE,ar];exact Iq h j
theorem MB {X:Nat}{m:El}(h:QB X m):∀j,QB X (mE m j)
 |0=>h
 |j+1=>(MB h j).neg
theorem A5 {X h:Nat}(hX:X<2^37){t:List El}{a m w i:El}(W:xu X (h+1) t)(ha:a.length=2^(h+1))(hs:g9 X (h+1) t a)(TN:¬bn (h+1) t a<0)(hv:a.drop (2^h)≠zE (2^h))(D':Rd h t){k:Nat}{r:V}(hk:k≤2)
  (c:Pr prog 121 [tV h t,eV (aO h t a)] (.aB [eV m,.one (.bool true)])) (lm:m.length=2^h) (qm:QB X m) (qx:∀j,j<2→cJ X h t (aE (a.take (2^h)) (mE m j)) (aU h (mkRat 1 2)))
  (no:∀j,j<k→∃l:List (Nat→C),Pr prog 121 [tV h t,eV (ai h t (aU h (mkRat 1 2)) (aE (a.take (2^h)) (mE m j)))] (.aB [.one (GC l),.one (.bool false)]))
  (yes:k<2→r= .aB [eV (w++ai h t (aU h (mkRat 1 2)) (ai h t (a.drop (2^h)) i)),.one (.bool true)]∧w.length=2^h∧lL X h t w∧cA h t w=some i∧cJ X h t (a.drop (2^h)) i∧cJ X h t (ai h t (a.drop (2^h)) i) (aU h (mkRat 1 2))∧
   Pr prog 121 [tV h t,eV (ai h t (aU h (mkRat 1 2)) (aE (a.take (2^h)) (mE m k)))] (.aB [eV w,.one (.bool true)]))
  (fin:k=2→r= .aB [.one .nil,.one (.bool false)]):
  Pr prog 121 [tV (h+1) t,eV a] r:=by
 have W':=W.tq.le (Nat.le_succ h);have h3:=W.tq.h6;have hp:2^h≤64:=Nat.pow_le_pow_right (n:=2) (by decide) (show h≤6 by omega);have sg:=kP hX W ha hs;have z:=jt (a.drop (2^h)) (by rw[ag ha];omega);have o0:=ba 0 (by decide) (by decide);have fz:=(dT (h:=h) (t:=t) (by omega) (Rat.ofInt 0)).rows;rw[Cq]at fz;have lz:(zE (2^h)).length=2^h:=au;rw[decide_eq_false (by rw[ag ha];exact hv)]at z;have hn:(2^h:Nat)≤a.length:=by rw[ha,Nat.pow_succ];omega
 have cT:=fv hn;have cD:=eQ (a:=a) (n:=2^h);have z:=z.args (xs:=[.one (a9 a (2^h))]) ⟨.cell cD,trivial⟩;have S9:=W.tq.tk.len h (by omega);have Ss:=ah ha;have So:=ag ha;have hqs:=hs.qb;obtain⟨_,⟨n1,n2,n3⟩,_⟩:=hs;have m1:=(fV hX W'.tk Ss Ss n1).rows;have m2:=(fV hX W'.tk So So n2).rows;have m3:=(fV hX W'.tk S9 aa n3.comm).rows;have sb:=(IQ (h:=h) (t:=t) _ _ (by rw[aa];omega) (by rw[aa,aa]) (Qk.of n1.q.2.2 (by omega)) (Qk.of n3.comm.q.2.2 (by omega))).rows;rw[Go.Tw.nf]at sb;have m1:=m1.args (xs:=[tV h t,.one (bd a (2^h)),.one (bd a (2^h))]) ⟨.refl _,.cell cT,.cell cT,trivial⟩;have m2:=m2.args (xs:=[tV h t,.one (a9 a (2^h)),.one (a9 a (2^h))]) ⟨.refl _,.cell cD,.cell cD,trivial⟩;obtain⟨e,he⟩:∃e,e=aO h t a:=⟨_,rfl⟩;obtain⟨p1,Ug⟩:∃p,p=ai h t (a.take (2^h)) (a.take (2^h)):=⟨_,rfl⟩;obtain⟨p2,TH⟩:∃p,p=ai h t (a.drop (2^h)) (a.drop (2^h)):=⟨_,rfl⟩;rw[←he]at sb c;rw[←Ug]at m1 sb;rw[←TH]at m2 m3 sb;obtain⟨p3,UQ⟩:∃p,p=ai h t (t.getD h []) p2:=⟨_,rfl⟩;rw[←UQ]at m3 sb;have fr:=oi 1 2 (by decide) (by decide) (by decide) (by decide+kernel) (by decide+kernel);have hf:=(dT (h:=h) (t:=t) (by omega) (mkRat 1 2)).rows;have lh:(aU h (mkRat 1 2)).length=2^h:=ay;have lmj:=Iq lm;have qmj:=MB qm;have ad:∀j,Pr prog 78 [tV h t,.one (bd a (2^h)),eV (mE m j)] (eV (aE (a.take (2^h)) (mE m j))):=fun j=>
  (ux (h:=h) (t:=t) (a.take (2^h)) (mE m j) (by rw[Ss];omega) (by rw[Ss,lmj j]) (.of (hqs.take _) (by omega)) (.of (qmj j) (by omega))).rows.args ⟨.refl _,.cell cT,.refl _,trivial⟩
 have mh:∀j,j<2→Pr prog 40 [tV h t,eV (aU h (mkRat 1 2)),eV (aE (a.take (2^h)) (mE m j))] (eV (ai h t (aU h (mkRat 1 2)) (aE (a.take (2^h)) (mE m j)))):=fun j hj=>
  (fV hX W'.tk lh (aq Ss (lmj j)) (qx j hj).comm).rows
 have ng:∀j,Pr prog 96 [tV h t,eV (mE m j)] (eV (mE m (j+1))):=fun j=>
  (zj (h:=h) (t:=t) (mE m j) (by rw[lmj j];omega) (.of (qmj j) (by omega))).rows
 have fn:k<2→∃g,g=ai h t (a.drop (2^h)) i∧Pr prog 94 [tV h t,eV w] (.aB [eV i,.one (.int .i64 0)])∧Pr prog 40 [tV h t,.one (a9 a (2^h)),eV i] (eV g)∧
   Pr prog 40 [tV h t,eV (aU h (mkRat 1 2)),eV g] (eV (ai h t (aU h (mkRat 1 2)) g))∧Pr prog 158 [eV w,eV (ai h t (aU h (mkRat 1 2)) g)] (eV (w++ai h t (aU h (mkRat 1 2)) g)):=fun S8=>by
  obtain⟨_,lw,iw,hi,qi,qg,_⟩:=yes S8;have li:=Go.Proofs.YtchkplkghknabaaGreat.jh hi;refine⟨_,rfl,((vD hX W' D' lw iw).1 i hi).rows,?_,(fV hX W'.tk lh aa qg.comm).rows,CM _ _ (by rw[lw,aa];omega)⟩;exact(fV hX W'.tk So li qi).rows.args ⟨.refl _,.cell cD,.refl _,trivial⟩
 have yes:k<2→∃g,r= .aB [eV (w++ai h t (aU h (mkRat 1 2)) g),.one (.bool true)]∧Pr prog 121 [tV h t,eV (ai h t (aU h (mkRat 1 2)) (aE (a.take (2^h)) (mE m k)))] (.aB [eV w,.one (.bool true)])∧
   Pr prog 94 [tV h t,eV w] (.aB [eV i,.one (.int .i64 0)])∧Pr prog 40 [tV h t,.one (a9 a (2^h)),eV i] (eV g)∧
   Pr prog 40 [tV h t,eV (aU h (mkRat 1 2)),eV g] (eV (ai h t (aU h (mkRat 1 2)) g))∧Pr prog 158 [eV w,eV (ai h t (aU h (mkRat 1 2)) g)] (eV (w++ai h t (aU h (mkRat 1 2)) g)):=fun S8=>by
  obtain⟨g,hg,f1,f2,f3,f4⟩:=fn S8;obtain⟨y1,_,_,_,_,_,y2⟩:=yes S8;exact⟨g,by rw[hg];exact y1,y2,f1,f2,f3,f4⟩
 obtain⟨two,Zw⟩:∃x,x=aU h (mkRat 1 2):=⟨_,rfl⟩;obtain⟨u,hu⟩:∃u,u=a.take (2^h):=⟨_,rfl⟩;rw[←Zw]at hf mh no yes;rw[←hu]at ad mh no yes;obtain⟨n,RS⟩:∃n,n=2^h:=⟨_,rfl⟩;have R4:a.length=2*n:=by rw[ha,Nat.pow_succ,RS];omega
 have w1:IntKind.i64.wrap (((h+1:Nat):Int)-1)=(h:Int):=by rw[IntWalk.i64_in _ (by omega)];omega
 have hn8:n≤64:=by omega
 have w2:IntKind.i64.wrap (((a.length:Nat):Int).tdiv 2)=(n:Int):=by
  rw[R4,Int.tdiv_eq_ediv_of_nonneg (by omega),IntWalk.i64_in _ (by omega)];omega
 have w4:((a.length:Int)-(n:Int)).toNat=a.length-n:=by omega
 obtain⟨sgn',U6⟩:∃s,s=bn (h+1) t a:=⟨_,rfl⟩;obtain⟨r0,RM⟩:∃r,r=t.getD h []:=⟨_,rfl⟩;obtain⟨zn,Ti⟩:∃z,z=zE (2^h):=⟨_,rfl⟩;rw[←Ti]at fz lz;rw[←U6]at sg TN;rw[←RM]at m3;rw[←RS]at z m1 m2 hp lz ad yes;clear hv RS Ti cT cD hn ha hqs W W' S9 Ss So n1 n2 n3 he Ug TH UQ fn lh lmj qmj D' lm qm qx Zw hu;refine pw func121 ⟨[0,1,4,5,6,7,8,9,10,11,12,13,14,15,16,17,19,20,21,22,23,24,25,26,27,28,32,46,70,77,96,120,125,140],[(7,.nil),(9,.nil)]⟩ ?_;simp only[Tryz.f121,ntmps121,iz,seval];simp only[vx,T,seval,tV,tC,eV,ae,bd,a9,QV,QC,GC,w1,w2,w4,←RM];refine⟨fun h=>absurd h (by omega),fun _=>Lg ?_⟩;simp only[vx,T,seval,tV,tC,eV,ae,bd,a9,QV,QC,GC,w1,w2,w4,←RM];refine Cg sg ?_;simp only[vx,T,seval,tV,tC,eV,ae,bd,a9,QV,QC,GC,w1,w2,w4,←RM];refine⟨fun h=>absurd h (by omega),fun _=>Lg ?_⟩;simp only[vx,T,seval,tV,tC,eV,ae,bd,a9,QV,QC,GC,w1,w2,w4,←RM];refine⟨⟨by omega,by omega⟩,⟨by omega,by omega⟩,⟨by omega,by omega⟩,⟨by omega,by omega,by omega⟩,Cg o0 ?_⟩;simp only[vx,T,seval,tV,tC,eV,ae,bd,a9,QV,QC,GC,w1,w2,w4,←RM];refine Cg fz ?_;simp only[vx,T,seval,tV,tC,eV,ae,bd,a9,QV,QC,GC,w1,w2,w4,←RM];refine Cg z ?_;simp only[vx,T,seval,tV,tC,eV,ae,bd,a9,QV,QC,GC,w1,w2,w4,←RM];refine Cg m1 ?_;simp only[vx,T,seval,tV,tC,eV,ae,bd,a9,QV,QC,GC,w1,w2,w4,←RM];refine Cg m2 ?_;simp only[vx,T,seval,tV,tC,eV,ae,bd,a9,QV,QC,GC,w1,w2,w4,←RM];refine Cg m3 ?_;simp only[vx,T,seval,tV,tC,eV,ae,bd,a9,QV,QC,GC,w1,w2,w4,←RM];refine Cg sb ?_;simp only[vx,T,seval,tV,tC,eV,ae,bd,a9,QV,QC,GC,w1,w2,w4,←RM];refine Cg c ?_;simp only[vx,T,seval,tV,tC,eV,ae,bd,a9,QV,QC,GC,w1,w2,w4,←RM];refine Cg fr ?_;simp only[vx,T,seval,tV,tC,eV,ae,bd,a9,QV,QC,GC,w1,w2,w4,←RM];refine Cg hf ?_;simp only[vx,T,seval,tV,tC,eV,ae,bd,a9,QV,QC,GC,w1,w2,w4,←RM];refine Lk (fun y:{j:Nat//j≤k}=>⟨[(4,.one .nil),(5,.one (.bool false)),(9,tV h t),(12,.one (bd a n)),(13,.one (a9 a n)),(22,eV (mE m y.1)),(24,eV two),(25,.one (.int .i64 y.1))],[],2,159⟩) (fun y=>k-y.1) ⟨0,Nat.zero_le _⟩ ?_ (fun⟨j,hj⟩=>?_)
 ·refine Sa ?_;simp only[ry,seval,rz,tV,tC,eV,ae,bd,a9,mE];exact fun _ _ _ _=>rfl
 simp only;have wi:=wI j (by omega);simp only[vx,T,seval,tV,tC,eV,ae,bd,a9,QV,QC,GC,w1,w2,w4,←RM];refine⟨fun g=>Lg ?_,fun g=>Lg ?_⟩
 ·have OW:=ad j;have mhj:=mh j (by omega);have ngj:=ng j;have UC:=no j;obtain⟨mj,hmj⟩:∃x,x=mE m j:=⟨_,rfl⟩;obtain⟨mj',Zx⟩:∃x,x=mE m (j+1):=⟨_,rfl⟩;rw[←hmj,←Zx]at ngj;rw[←hmj]at OW mhj UC⊢;obtain⟨x,hx⟩:∃x,x=aE u mj:=⟨_,rfl⟩;rw[←hx]at OW mhj UC;obtain⟨y,hy⟩:∃y,y=ai h t two x:=⟨_,rfl⟩;rw[←hy]at mhj UC
  by_cases Vc:j<k
  ·obtain⟨l,hl⟩:=UC Vc;simp only[vx,T,seval,tV,tC,eV,ae,bd,a9,QV,QC,GC,w1,w2,w4,wi];refine Cg OW ?_;simp only[vx,T,seval,tV,tC,eV,ae,bd,a9,QV,QC,GC,w1,w2,w4,wi];refine Cg mhj ?_;simp only[vx,T,seval,tV,tC,eV,ae,bd,a9,QV,QC,GC,w1,w2,w4,wi];refine Cg hl ?_;simp only[vx,T,seval,tV,tC,eV,ae,bd,a9,QV,QC,GC,w1,w2,w4,wi];refine Cg ngj ?_;simp only[vx,T,seval,tV,tC,eV,ae,bd,a9,QV,QC,GC,w1,w2,w4,wi];refine Lq ⟨j+1,by omega⟩ ?_ (by show k-(j+1)<k-j;omega);refine Sa ?_;simp only[ry,seval,rz,tV,tC,eV,ae,GC,bd,a9,←Zx]
  obtain rfl:j=k:=by omega
  obtain⟨g',hr,y1,y2,y3,y4,y5⟩:=yes (by omega);rw[←hmj,←hx,←hy]at y1;rw[hr];obtain⟨q,hq⟩:∃q,q=ai h t two g':=⟨_,rfl⟩;rw[←hq]at y4 y5⊢;simp only[vx,T,seval,tV,tC,eV,ae,bd,a9,QV,QC,GC,w1,w2,w4,wi];refine Cg OW ?_;simp only[vx,T,seval,tV,tC,eV,ae,bd,a9,QV,QC,GC,w1,w2,w4,wi];refine Cg mhj ?_;simp only[vx,T,seval,tV,tC,eV,ae,bd,a9,QV,QC,GC,w1,w2,w4,wi];refine Cg y1 ?_;simp only[vx,T,seval,tV,tC,eV,ae,bd,a9,QV,QC,GC,w1,w2,w4,wi];refine Cg y2 ?_;simp only[vx,T,seval,tV,tC,eV,ae,bd,a9,QV,QC,GC,w1,w2,w4,wi];refine Cg y3 ?_;simp only[vx,T,seval,tV,tC,eV,ae,bd,a9,QV,QC,GC,w1,w2,w4,wi];refine Cg y4 ?_;simp only[vx,T,seval,tV,tC,eV,ae,bd,a9,QV,QC,GC,w1,w2,w4,wi];refine Cg y5 ?_;simp only[vx,T,seval,tV,tC,eV,ae,bd,a9,QV,QC,GC,w1,w2,w4,wi];exact Ve rfl
 have S8:k=2:=by omega
 rw[fin S8];simp only[vx,T,seval,tV,tC,eV,ae,bd,a9,QV,QC,GC,w1,w2,w4,←RM];exact Ve rfl
open Go Go.Eng
open Go.Tw (El aE aH zE ai au ar aq aa QB cJ ah ag aO aJ tB aU ay cA lL j8 g9 val In Rd lU bn cE dE FH TG jC dN)
theorem my {h:Nat}{t:List El}(x:El):ai h t (aU h (mkRat 1 2)) x=ai h t x (aU h (mkRat 1 2)):=Go.Tw.kb _ _
theorem Iz {h:Nat}{t:List El}{a:El}(H:Go.Tw.Rl h t)(ha:a.length=2^h)(hs:bn h t a<0):lU h t (val h t a):=by
 intro z _ e;rw[cE H ha]at hs;have h1:=R.Mg z;rw[e]at h1
 rcases R.dg (val h t a)with⟨k,k2⟩|⟨k,k2⟩|⟨k,k2⟩
 ·omega
 ·omega
 exact h1 k
theorem uB {X:Nat}(hX:X<2^37){t:List El}:∀{h:Nat} {a:El},xu X h t→Rd h t→a.length=2^h→j8 X h t a→Kb h t a 121
 |0,a,_,_,ha,hs=>FA ha (.of hs.qb (by omega))
 |h+1,a,W,D,ha,hs=>by
  have W':=W.le (Nat.le_succ h);have D':=D.le (Nat.le_succ h);have ih:=fun{b:El} (hb:b.length=2^h) (k:j8 X h t b)=>uB hX (a:=b) W' D' hb k;have lz:(zE (2^h)).length=2^h:=au;obtain⟨s1,s2,s3⟩:=hs
  by_cases TN:bn (h+1) t a<0
  ·exact .inr ⟨Iz D.rl ha TN,[],Nat.zero_le _,Fa (O7 hX W ha s1 TN)⟩
  by_cases hv:a.drop (2^h)=zE (2^h)
  ·obtain⟨g1,g2,g3⟩:=s2 hv
   rcases ih (ah ha) g1 with⟨w,lw,ew,cw⟩|⟨n1,l,hl,c⟩
   ·obtain⟨k1,k2⟩:=Go.Tw.yB hv lw ew;exact .inl ⟨_,k1,k2,MZ hX W ha s1 TN hv lw cw⟩
   obtain⟨i,hi,_,_⟩:=Go.Tw.jf D' (D.rl h (by omega)).1 (R.iu (D.rl h (by omega)).2);obtain⟨qi,sq⟩:=g3 i hi
   rcases ih aa sq with⟨w,lw,ew,cw⟩|⟨n2,p,hp,c2⟩
   ·obtain⟨k1,k2⟩:=Go.Tw.zW D.rl ha hv hi lw ew;exact .inl ⟨_,k1,k2,N0 hX W ha s1 TN hv D' lw c g2 hi qi cw⟩
   exact .inr ⟨Go.Tw.zA D ha hv hi n1 n2,[],Nat.zero_le _,Fa (NU hX W ha s1 TN hv D' c g2 hi qi c2)⟩
  obtain⟨g1,g2⟩:=s3 hv
  rcases ih aJ g1 with⟨n,ln,en,cn⟩|⟨n1,l,hl,c⟩
  ·have lm:(aH n).length=2^h:=by rw[ar,ln]
   have em:val h t (aH n)*val h t (aH n)=val h t (aO h t a):=by rw[Go.Tw.val_neg ln,R.neg_mul,R.mul_neg,R.neg_neg,en]
   obtain⟨k1,k2,k3,k4⟩:=g2 n ln en;obtain⟨k1',Zr,Zs,Zu⟩:=g2 (aH n) lm em;rw[Ap]at k2 k3 k4 Zr Zs Zu;have qx:∀j,j<2→cJ X h t (aE (a.take (2^h)) (mE n j)) (aU h (mkRat 1 2)):=fun j hj=>by
    match j,hj with
    |0,_=>exact k2
    |1,_=>exact Zr
   have fin:∀{m w:El},m.length=2^h→val h t m*val h t m=val h t (aO h t a)→w.length=2^h→val h t w*val h t w=val h t (ai h t (aE (a.take (2^h)) m) (aU h (mkRat 1 2)))→
     ∃i,cA h t w=some i∧(w++ai h t (aU h (mkRat 1 2)) (ai h t (a.drop (2^h)) i)).length=2^(h+1)∧
      val (h+1) t (w++ai h t (aU h (mkRat 1 2)) (ai h t (a.drop (2^h)) i))*val (h+1) t (w++ai h t (aU h (mkRat 1 2)) (ai h t (a.drop (2^h)) i))=val (h+1) t a:=by
    intro m w lm em lw ew;have h0:=Go.Tw.xy D ha hv lm em ew;obtain⟨i,hi,li,vi⟩:=Go.Tw.jf D' lw h0;refine⟨i,hi,Go.Tw.vp D ha hv lm em lw ew aa ?_⟩;rw[my,Go.Tw.val_mul D'.rl aa ay,Go.Tw.bE,Go.Tw.val_mul D'.rl (ag ha) li,R.mul_comm (val h t w),R.mul_assoc,R.mul_comm (R.q _),←R.mul_assoc,R.mul_assoc (val h t (a.drop (2^h))),R.mul_comm (val h t i),vi,R.mul_one,R.nm]
   rcases ih aa k3 with⟨w,lw,ew,cw⟩|⟨n1,l1,_,c1⟩
   ·obtain⟨i,hi,f1,f2⟩:=fin ln en lw ew;obtain⟨_,m2,_,m4,_⟩:=k4 w lw ew;obtain⟨m5,m6⟩:=m4 i hi;exact .inl ⟨_,f1,f2,A5 hX W ha s1 TN hv D' (k:=0) (by omega) cn ln k1 qx (fun j hj=>absurd hj (Nat.not_lt_zero _)) (fun _=>⟨rfl,lw,m2,hi,m5,m6,by rw[my];exact cw⟩) (fun e=>absurd e (by decide))⟩
   have no1:∀j,j<1→∃l:List (Nat→C),Pr prog 121 [tV h t,eV (ai h t (aU h (mkRat 1 2)) (aE (a.take (2^h)) (mE n j)))] (.aB [.one (GC l),.one (.bool false)]):=fun j hj=>by
    obtain rfl:j=0:=by omega
    rw[my];exact⟨l1,c1⟩
   rcases ih aa Zs with⟨w,lw,ew,cw⟩|⟨n2,l2,_,c2⟩
   ·obtain⟨i,hi,f1,f2⟩:=fin lm em lw ew;obtain⟨_,m2,_,m4,_⟩:=Zu w lw ew;obtain⟨m5,m6⟩:=m4 i hi;exact .inl ⟨_,f1,f2,A5 hX W ha s1 TN hv D' (k:=1) (by omega) cn ln k1 qx no1 (fun _=>⟨rfl,lw,m2,hi,m5,m6,by rw[my];exact cw⟩) (fun e=>absurd e (by decide))⟩
   refine .inr ⟨Go.Tw.wh D ha hv ln en n1 n2,[],Nat.zero_le _,Fa (A5 (w:=[]) (i:=[]) hX W ha s1 TN hv D' (k:=2) (by omega) cn ln k1 qx (fun j hj=>?_) (fun e=>absurd e (by decide)) (fun _=>rfl))⟩;rw[my]
   match j,hj with
   |0,_=>exact⟨l1,c1⟩
   |1,_=>exact⟨l2,c2⟩
  exact .inr ⟨Go.Tw.vm D ha hv n1,[],Nat.zero_le _,Fa (M4 hX W ha s1 TN hv c)⟩
open Go Go.Eng
open Go.Tw (El aE aH zE au ar QB j8 g9 val In FH Rd lU TG jC bn dN cE dE)
section
variable {X h:Nat}(hX:X<2^37){t:List El}{a:El}
include hX
theorem Ag {w:El}(W:GQ X h t)(hw:w.length=2^h)(sw:g9 X h t w)(c:Pr prog 121 [tV h t,eV a] (.aB [eV w,.one (.bool true)])):
  Pr prog 124 [tV h t,eV a] (.aB [eV (if bn h t w<0 then aH w else w),.one (.bool true)]):=by
 have h3:=W.rq.tq.h6;have hp:2^h≤64:=Nat.pow_le_pow_right (n:=2) (by decide) (show h≤6 by omega);have s:=kP hX W.rq hw sw;have n:=(zj (h:=h) (t:=t) w (by omega) (.of sw.qb (by omega))).rows;refine pw func124 ⟨[0,1,4,5,6,7,15,19],[]⟩ ?_;simp only[Tryz.f124,ntmps124,iz,seval];simp only[vx,T,seval,tV,tC,eV,ae];refine Cg c ?_;simp only[vx,T,seval,tV,tC,eV,ae];refine Cg s ?_;simp only[vx,T,seval,tV,tC,eV,ae];refine⟨fun g=>Lg ?_,fun g=>Lg ?_⟩
 ·rw[if_pos g];simp only[vx,T,seval,tV,tC,eV,ae];refine Cg n ?_;simp only[vx,T,seval,tV,tC,eV,ae];exact Ve rfl
 rw[if_neg g];simp only[vx,T,seval,tV,tC,eV,ae];exact Ve rfl
omit hX in
theorem Aj {l:List (Nat→C)}(c:Pr prog 121 [tV h t,eV a] (.aB [.one (GC l),.one (.bool false)])):
  Pr prog 124 [tV h t,eV a] (.aB [.one .nil,.one (.bool false)]):=by
 refine pw func124 ⟨[0,1,4,5,6,7,15,19],[]⟩ ?_;simp only[Tryz.f124,ntmps124,iz,seval];simp only[vx,T,seval,tV,tC,eV,ae];refine Cg c ?_;simp only[vx,T,seval,tV,tC,eV,ae,GC];exact Ve rfl
theorem Nj (W:GQ X h t)(ha:a.length=2^h)(hB:FH X h t a):
  (∃w,w.length=2^h∧val h t w=R.sqrt (val h t a)∧Pr prog 124 [tV h t,eV a] (.aB [eV w,.one (.bool true)]))∨
  (lU h t (val h t a)∧Pr prog 124 [tV h t,eV a] (.aB [.one .nil,.one (.bool false)])):=by
 rcases uB hX W.rq W.rd ha hB.sq with⟨b,lb,eb,cb⟩|⟨no,l,_,c⟩
 ·refine .inl ⟨_,?_,?_,Ag hX W lb (hB.rt b lb eb) cb⟩
  ·split
   ·rw[ar,lb]
   exact lb
  have e:=cE W.rd.rl lb;have nn:∀x,x=val h t b∨x= -val h t b→R.nn x→x=R.sqrt (val h t a):=by
   intro x hx hn;rw[←eb]
   rcases hx with rfl|rfl
   ·exact(R.pE hn).symm
   rw[show val h t b*val h t b= -val h t b* -val h t b by rw[R.neg_mul,R.mul_neg,R.neg_neg]];exact(R.pE hn).symm
  split
  ·rename_i g
   rw[Go.Tw.val_neg lb];refine nn _ (.inr rfl) ?_
   rcases R.dg (val h t b)with⟨k,k2⟩|⟨k,k2⟩|⟨k,k2⟩
   ·rw[k,R.gi];exact R.br.2 (.inl rfl)
   ·omega
   exact R.br.2 (.inr k)
  rename_i g
  refine nn _ (.inl rfl) ?_
  rcases R.dg (val h t b)with⟨k,k2⟩|⟨k,k2⟩|⟨k,k2⟩
  ·rw[k];exact R.br.2 (.inl rfl)
  ·exact R.br.2 (.inr k)
  omega
 exact .inr ⟨no,Aj c⟩
theorem Ep (W:GQ X h t):Pr prog 84 [tV h t] (.one (.bool true)):=by
 have h3:=W.rq.tq.h6;have f:∀i,i<h→Pr prog 85 [tV i t,eV (t.getD i [])] (.one (.bool true)):=fun i hi=>tM (W.rq.tq.tk.le (by omega)) _ (W.rd.rl i hi).1 (W.rq.tq.tk.q i hi);have s:∀i,i<h→Pr prog 120 [tV i t,eV (t.getD i [])] (.one (.int .i64 1)):=fun i hi=>by
  have c:=kP hX (W.rq.le (show i≤h by omega)) (W.rd.rl i hi).1 (W.sq i hi).sg
  rwa [cE (W.rd.rl.le (by omega)) (W.rd.rl i hi).1,R.gM (W.rd.rl i hi).2]at c
 have q:∀i,i<h→∃l,Pr prog 121 [tV i t,eV (t.getD i [])] (.aB [.one (GC l),.one (.bool false)]):=fun i hi=>by
  rcases uB hX (W.rq.le (show i≤h by omega)) (W.rd.le (by omega)) (W.rd.rl i hi).1 (W.sq i hi)with⟨b,lb,eb,_⟩|⟨_,l,_,c⟩
  ·exact absurd eb (W.rd.ns i hi _ (.of lb))
  exact⟨l,c⟩
 refine pw func84 ⟨[0,2,3,5,9,31,43],[(6,.nil)]⟩ ?_;simp only[Tryz.f84,ntmps84,iz,seval];simp only[vx,T,seval,tV,tC,ae];refine Lk (fun y:{i:Nat//i≤h}=>⟨[(0,tV h t),(2,.one (.bool false)),(3,.one (.int .i64 y.1))],[],1,44⟩) (fun y=>h-y.1) ⟨0,Nat.zero_le _⟩ ?_ (fun⟨i,hi⟩=>?_)
 ·refine Sa ?_;simp only[ry,seval,rz,tV,tC,ae]
 simp only;have wi:=wI i (by omega);simp only[vx,T,seval,tV,tC,ae];refine⟨fun k=>Lg ?_,fun k=>Lg ?_⟩
 ·have RE:i<h:=by omega
  have fi:=f i RE;have si:=s i RE;obtain⟨l,qi⟩:=q i RE;obtain⟨r,hr⟩:∃r,r=t.getD i []:=⟨_,rfl⟩;rw[←hr]at fi si qi;simp only[vx,T,seval,tV,tC,ae,←hr];refine⟨⟨by omega,by omega⟩,⟨by omega,by omega⟩,Cg fi ?_⟩;simp only[vx,T,seval,tV,tC,ae,←hr];refine⟨⟨by omega,by omega⟩,⟨by omega,by omega⟩,Cg si ?_⟩;simp only[vx,T,seval,tV,tC,ae,←hr];refine⟨⟨by omega,by omega⟩,⟨by omega,by omega⟩,Cg qi ?_⟩;simp only[vx,T,seval,tV,tC,ae,GC,wi];refine Lq ⟨i+1,by omega⟩ ?_ (by show h-(i+1)<h-i;omega);refine Sa ?_;simp only[ry,seval,rz,tV,tC,ae]
 simp only[vx,T,seval,tV,tC,ae];exact Ve rfl
end
section
variable {A:List R}(S:Go.Tw.Src 64 A)(hA:Go.Tw.j9 A){t:List El}{a:El}
include S hA
theorem Gm (G:TG A t)(ha:a.length=2^t.length)(hn:R.nn (val t.length t a))(hB:FH jC t.length t a):
  (∃w,w.length=2^t.length∧val t.length t w=R.sqrt (val t.length t a)∧Pr prog 86 [tV t.length t,eV a] (.aB [tV t.length t,eV w,.one (.int .i64 0)]))∨
  (lU t.length t (val t.length t a)∧Pr prog 86 [tV t.length t,eV a] (.aB [tV (t.length+1) (t++[a]),eV (dN t.length),.one (.int .i64 0)])):=by
 have W:=Ax S hA G (Nat.le_refl _);have hX:jC<2^37:=by decide
 have h3:=W.rq.tq.h6;have sg:=kP hX W.rq ha hB.sq.sg;have hs:¬bn t.length t a<0:=by
  rw[cE W.rd.rl ha]
  rcases R.dg (val t.length t a)with⟨k,k2⟩|⟨k,k2⟩|⟨k,k2⟩
  ·omega
  ·omega
  exact absurd k hn
 have ro:=OL (h:=t.length) (U:=t++[a]) (by omega);obtain⟨n,RS⟩:∃n,n=t.length:=⟨_,rfl⟩
 rcases Nj hX W ha hB with⟨w,lw,ew,cw⟩|⟨no,c⟩
 ·refine .inl ⟨w,lw,ew,?_⟩;rw[←RS]at sg cw hs⊢;refine pw func86 ⟨[0,1,4,5,6,7,8,9,13,20,25],[]⟩ ?_;simp only[Tryz.f86,ntmps86,iz,seval];simp only[vx,T,seval,tV,tC,eV,ae];refine Cg sg ?_;simp only[vx,T,seval,tV,tC,eV,ae];refine⟨fun h=>absurd h hs,fun _=>Lg ?_⟩;simp only[vx,T,seval,tV,tC,eV,ae];refine Cg cw ?_;simp only[vx,T,seval,tV,tC,eV,ae];exact Ve rfl
 refine .inr ⟨no,?_⟩;obtain⟨u,hu⟩:∃u,u=t++[a]:=⟨_,rfl⟩;have eu:∀i j,i<n+1→j<1→(if i<n then(if i<0 then([]:List C).getD (i*1+j) .any else ae (t.getD (i-0) []))else[ae a].getD ((i-n)*1+j) .any)=ae (u.getD i []):=fun i j hi hj=>by
  obtain rfl:j=0:=by omega
  rw[RS,hu,if_neg (Nat.not_lt_zero i),Nat.sub_zero]
  by_cases h:i<t.length
  ·rw[if_pos h,Go.Tw.df h]
  obtain rfl:i=t.length:=by omega
  rw[if_neg h,Go.Tw.fO,Nat.sub_self];rfl
 rw[←hu]at ro⊢;rw[←RS]at sg c ro hs h3⊢;refine pw func86 ⟨[0,1,4,5,6,7,8,9,13,20,25],[]⟩ ?_;simp only[Tryz.f86,ntmps86,iz,seval];simp only[vx,T,seval,tV,tC,eV,ae];refine Cg sg ?_;simp only[vx,T,seval,tV,tC,eV,ae];refine⟨fun h=>absurd h hs,fun _=>Lg ?_⟩;simp only[vx,T,seval,tV,tC,eV,ae];refine Cg c ?_;simp only[vx,T,seval,tV,tC,eV,ae];refine⟨fun h=>absurd h (by omega),fun _=>Lg ?_⟩;simp only[vx,T,seval,tV,tC,eV,ae];refine⟨⟨by omega,by omega⟩,⟨by omega,by omega⟩,Cg (ro.args ⟨.cell (.rows rfl fun i j hi hj=>.of_eq (eu i j hi hj)),.refl _,trivial⟩) ?_⟩;simp only[vx,T,seval,tV,tC,eV,ae];exact fB.aB ⟨.cell (.rows rfl fun i j hi hj=>.of_eq (eu i j hi hj)),.refl _,.refl _,trivial⟩
theorem tI (G:TG A t)(ha:a.length=2^t.length)(hn:R.nn (val t.length t a))(hB:FH jC t.length t a):
  (∃w,w.length=2^t.length∧val t.length t w=R.sqrt (val t.length t a)∧Pr prog 48 [tV t.length t,eV a] (.aB [tV t.length t,eV w,.one (.int .i64 0)]))∨
  (lU t.length t (val t.length t a)∧Pr prog 48 [tV t.length t,eV a] (.aB [tV (t.length+1) (t++[a]),eV (dN t.length),.one (.int .i64 0)])):=by
 have W:=Ax S hA G (Nat.le_refl _);have hX:jC<2^37:=by decide
 have f:=tM W.rq.tq.tk a ha (.of hB.sq.qb (by omega));have rd:=Ep hX W;have key:∀{m:Nat} {U:List El} {w:El},Pr prog 86 [tV t.length t,eV a] (.aB [tV m U,eV w,.one (.int .i64 0)])→Pr prog 48 [tV t.length t,eV a] (.aB [tV m U,eV w,.one (.int .i64 0)]):=by
  intro m U w c;refine pw func48 ⟨[0,1,4,5,6,15],[]⟩ ?_;simp only[Tryz.f48,ntmps48,iz,seval];simp only[vx,T,seval,tV,tC,eV,ae];refine Cg rd ?_;simp only[vx,T,seval,tV,tC,eV,ae];refine Cg f ?_;simp only[vx,T,seval,tV,tC,eV,ae];refine Cg c ?_;simp only[vx,T,seval,tV,tC,eV,ae];exact Ve rfl
 rcases Gm S hA G ha hn hB with⟨w,lw,ew,cw⟩|⟨no,c⟩
 ·exact .inl ⟨w,lw,ew,key cw⟩
 exact .inr ⟨no,key c⟩
end
end Go.Proofs.YtchkplkghknabaaGreat
