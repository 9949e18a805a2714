/-
  MatrixImage: for every input the law returns true, and each argument reads afterwards as it read before. No condition beyond the cells of the given rows.
  (Text 7 of 9; made by a program out of smaller texts.)
-/
import Derived.Lib.AppendZerosOnto
import Derived.Lib.Walk
import Derived.Test.YthnkehdgnagmnaaGreatP6
set_option linter.unusedSimpArgs false
set_option linter.unusedVariables false
set_option maxHeartbeats 16000000
set_option maxRecDepth 10000
open Nat renaming reduceAdd→J1,reduceMul→J2,reduceSub→J3,reduceEqDiff→J4,reduceLT→J5,reduceLeDiff→J6,reduceBEq→J7,reduceDiv→J8,reduceMod→J9,reducePow→J0
open Int renaming reduceToNat→K1,reduceLE→K2,reduceLT→K3,reduceEq→K4,reducePow→K5,reduceSub→K6,reduceNeg→K7,natCast_add→X2,natCast_one→X3,natCast_zero→X4
open List renaming getD_cons_zero→X0,getD_cons_succ→X1,length_take→X5,length_append→X6,getD_eq_getElem?_getD→X7,getElem?_eq_getElem→X8
namespace Go.Proofs.YthnkehdgnagmnaaGreat
open Go.Proofs.Tryz
open Go Go.Eng
open Go.Tw (El)
abbrev Nb:=List El×El
def ak (n:Nat)(r:Nat→Nb):C:=.rows 2 n (fun i=>bw (r i))
def av (r:Nat)(c:Nat→Nat)(m:Nat→Nat→Nb):C:=.rows 1 r (fun i _=>ak (c i) (m i))
theorem rA (f:Nat→Nb)(k:Nat):∀(i j:Nat),i<k+1→j<2→(if i<k then bw (f i) j else[tC (f k).1.length (f k).1,aa (f k).2].getD ((i-k)*2+j) C.any)=bw (f i) j:=by
 intro i j hi hj
 by_cases h:i<k
 ·rw[if_pos h]
 obtain rfl:i=k:=by omega
 rw[if_neg h,Nat.sub_self,Nat.zero_mul,Nat.zero_add]
 match j,hj with
 |0,_=>rfl
 |1,_=>rfl
theorem MH (F:Nat→C)(k:Nat):∀(i j:Nat),i<k+1→j<1→(if i<k then F i else[F k].getD ((i-k)*1+j) C.any)=F i:=by
 intro i j hi hj
 by_cases h:i<k
 ·rw[if_pos h]
 obtain rfl:i=k:=by omega
 obtain rfl:j=0:=by omega
 rw[if_neg h,Nat.sub_self];rfl
theorem Oj {x y z:Nb}(h:Pr prog 30 [nX x,nX y] (.aF [nX z,.one (.int .i64 0)])):Pr prog 75 [nX x,nX y] (nX z):=by
 refine pw func75 ⟨[0,1,2,3,4,5],[]⟩ ?_;simp only[Tryz.f75,ntmps75,iz,seval];simp only[vx,T,seval,nX,nV,tC,aa];refine Cg h ?_;simp only[vx,T,seval,nX,nV,tC,aa];exact Ve rfl
theorem Oh {x y z:Nb}(h:Pr prog 13 [nX x,nX y] (.aF [nX z,.one (.int .i64 0)])):Pr prog 116 [nX x,nX y] (nX z):=by
 refine pw func116 ⟨[0,1,2,3,4,5],[]⟩ ?_;simp only[Tryz.f116,ntmps116,iz,seval];simp only[vx,T,seval,nX,nV,tC,aa];refine Cg h ?_;simp only[vx,T,seval,nX,nV,tC,aa];exact Ve rfl
theorem HS {x y z:Nb}(h:Pr prog 20 [nX x,nX y] (.aF [nX z,.one (.int .i64 0)])):Pr prog 76 [nX x,nX y] (nX z):=by
 refine pw func76 ⟨[0,1,2,3,4,5],[]⟩ ?_;simp only[Tryz.f76,ntmps76,iz,seval];simp only[vx,T,seval,nX,nV,tC,aa];refine Cg h ?_;simp only[vx,T,seval,nX,nV,tC,aa];exact Ve rfl
theorem NQ {x y z:Nb}(h:Pr prog 32 [nX x,nX y] (.aF [nX z,.one (.int .i64 0)])):Pr prog 115 [nX x,nX y] (nX z):=by
 refine pw func115 ⟨[0,1,2,3,4,5],[]⟩ ?_;simp only[Tryz.f115,ntmps115,iz,seval];simp only[vx,T,seval,nX,nV,tC,aa];refine Cg h ?_;simp only[vx,T,seval,nX,nV,tC,aa];exact Ve rfl
theorem Ob {n n':Nat}(a b s p:Nat→Nb)(hn:n<2^38)(TL:n≤n')(h0:Pr prog 19 [.one (.int .i64 0)] (nX (s 0)))(hm:∀i,i<n→Pr prog 76 [nX (a i),nX (b i)] (nX (p i)))
  (ha:∀i,i<n→Pr prog 75 [nX (s i),nX (p i)] (nX (s (i+1)))):Pr prog 42 [.one (ak n a),.one (ak n' b)] (nX (s n)):=by
 refine pw func42 ⟨[0,1,4,5,6,11],[]⟩ ?_;simp only[Tryz.f42,ntmps42,iz,seval];simp only[vx,T,seval,ak,nX,nV,tC,aa];refine Cg h0 ?_;simp only[vx,T,seval,ak,nX,nV,tC,aa];refine Lk (fun y:{i:Nat//i≤n}=>⟨[(0,.one (ak n a)),(1,.one (ak n' b)),(4,.one (.ptr 1 0)),(5,.one (.ptr 2 0)),(6,.one (.int .i64 y.1))],[(1,⟨.var [.nil,.nil],true⟩),(2,⟨.var [tC (s y.1).1.length (s y.1).1,aa (s y.1).2],true⟩)],3,26⟩) (fun y=>n-y.1) ⟨0,Nat.zero_le _⟩ ?_ (fun⟨i,hi⟩=>?_)
 ·refine Sa ?_;simp only[ry,seval,rz,ak,tC,aa]
 simp only;have wi:=wI i (by omega);simp only[vx,T,seval,ak];refine⟨fun g=>Lg ?_,fun g=>Lg ?_⟩
 ·have c1:=hm i (by omega);have c2:=ha i (by omega);simp only[vx,T,seval,ak,bw,wi,tC,aa];refine⟨by omega,by omega,Cg c1 ?_⟩;simp only[vx,T,seval,nX,nV,ak,bw,wi,tC,aa];refine Cg c2 ?_;simp only[vx,T,seval,nX,nV,ak,bw,wi,tC,aa];refine Lq ⟨i+1,by omega⟩ ?_ (by show n-(i+1)<n-i;omega);refine Sa ?_;simp only[ry,seval,rz,ak,tC,aa]
 obtain rfl:i=n:=by omega
 simp only[vx,T,seval,ak,nX,nV,tC,aa];exact Ve rfl
theorem KX {n m:Nat}(a b:Nat→Nb)(hn:n<2^38)(e:Nat→Bool)(h:n=m→∀i,i<n→Pr prog 55 [nX (a i),nX (b i)] (.one (.bool (e i)))){r:Bool}(hr:r=true↔n=m∧∀i,i<n→e i=true):Pr prog 26 [.one (ak n a),.one (ak m b)] (.one (.bool r)):=by
 refine pw func26 ⟨[0,1,4,5,10,14,26],[]⟩ ?_;simp only[Tryz.f26,ntmps26,iz,seval];simp only[vx,T,seval,ak];refine⟨fun g0=>Lg ?_,fun g0=>Lg ?_⟩
 ·have hb:r=false:=Bool.eq_false_iff.2 fun h=>g0 (by have:=(hr.1 h).1;omega);subst hb;simp only[vx,T,seval];exact Ve rfl
 have Xq:n=m:=by omega
 simp only[vx,T,seval,ak];refine Lk (fun y:{i:Nat//i≤n∧∀j,j<i→e j=true}=>⟨[(0,.one (ak n a)),(1,.one (ak m b)),(4,.one (.bool false)),(5,.one (.int .i64 y.1))],[],1,27⟩) (fun y=>n-y.1) ⟨0,Nat.zero_le _,fun j hj=>absurd hj (Nat.not_lt_zero _)⟩ ?_ (fun⟨i,hi,hz⟩=>?_)
 ·refine Sa ?_;simp only[ry,seval,rz,ak]
 simp only;have wi:=wI i (by omega);simp only[vx,T,seval,ak];refine⟨fun g=>Lg ?_,fun g=>Lg ?_⟩
 ·have c:=h Xq i (by omega);simp only[vx,T,seval,ak,bw,tC,aa,wi];refine⟨by omega,by omega,Cg c ?_⟩
  cases he:e i with
  |false=>
   have hb:r=false:=Bool.eq_false_iff.2 fun h=>by have:=(hr.1 h).2 i (by omega);rw[he]at this;cases this
   subst hb;simp only[vx,T,seval,ak,wi];exact Ve rfl
  |true=>
   simp only[vx,T,seval,ak,wi];refine Lq ⟨i+1,by omega,fun j hj=>?_⟩ ?_ (by show n-(i+1)<n-i;omega)
   ·by_cases k:j<i
    ·exact hz j k
    obtain rfl:j=i:=by omega
    exact he
   refine Sa ?_;simp only[ry,seval,rz,ak]
 have hb:r=true:=hr.2 ⟨Xq,fun j hj=>hz j (by omega)⟩;subst hb;simp only[vx,T,seval,ak];exact Ve rfl
theorem FU {n m:Nat}(c d:Nat→Nat)(a b:Nat→Nat→Nb)(hn:n<2^38)(e:Nat→Bool)(h:n=m→∀i,i<n→Pr prog 26 [.one (ak (c i) (a i)),.one (ak (d i) (b i))] (.one (.bool (e i)))){r:Bool}(hr:r=true↔n=m∧∀i,i<n→e i=true):Pr prog 24 [.one (av n c a),.one (av m d b)] (.one (.bool r)):=by
 refine pw func24 ⟨[0,1,4,5,10,14,26],[]⟩ ?_;simp only[Tryz.f24,ntmps24,iz,seval];simp only[vx,T,seval,av,ak];refine⟨fun g0=>Lg ?_,fun g0=>Lg ?_⟩
 ·have hb:r=false:=Bool.eq_false_iff.2 fun h=>g0 (by have:=(hr.1 h).1;omega);subst hb;simp only[vx,T,seval];exact Ve rfl
 have Xq:n=m:=by omega
 simp only[vx,T,seval,av,ak];refine Lk (fun y:{i:Nat//i≤n∧∀j,j<i→e j=true}=>⟨[(0,.one (av n c a)),(1,.one (av m d b)),(4,.one (.bool false)),(5,.one (.int .i64 y.1))],[],1,27⟩) (fun y=>n-y.1) ⟨0,Nat.zero_le _,fun j hj=>absurd hj (Nat.not_lt_zero _)⟩ ?_ (fun⟨i,hi,hz⟩=>?_)
 ·refine Sa ?_;simp only[ry,seval,rz,av,ak]
 simp only;have wi:=wI i (by omega);simp only[vx,T,seval,av,ak];refine⟨fun g=>Lg ?_,fun g=>Lg ?_⟩
 ·have c:=h Xq i (by omega);simp only[vx,T,seval,av,ak,wi];refine⟨by omega,by omega,Cg c ?_⟩
  cases he:e i with
  |false=>
   have hb:r=false:=Bool.eq_false_iff.2 fun h=>by have:=(hr.1 h).2 i (by omega);rw[he]at this;cases this
   subst hb;simp only[vx,T,seval,av,ak,wi];exact Ve rfl
  |true=>
   simp only[vx,T,seval,av,ak,wi];refine Lq ⟨i+1,by omega,fun j hj=>?_⟩ ?_ (by show n-(i+1)<n-i;omega)
   ·by_cases k:j<i
    ·exact hz j k
    obtain rfl:j=i:=by omega
    exact he
   refine Sa ?_;simp only[ry,seval,rz,av,ak]
 have hb:r=true:=hr.2 ⟨Xq,fun j hj=>hz j (by omega)⟩;subst hb;simp only[vx,T,seval,av,ak];exact Ve rfl
theorem tc {r:Nat}(c:Nat→Nat)(m:Nat→Nat→Nb){k:Nat}(hk:k=if r=0 then 0 else c 0)(hr:r<2^38):Pr prog 6 [.one (av r c m)] (.one (.int .i64 k)):=by
 refine pw func6 ⟨[0,2,5],[]⟩ ?_;simp only[Tryz.f6,ntmps6,iz,seval];simp only[vx,T,seval,av];refine⟨fun g=>Lg ?_,fun g=>Lg ?_⟩
 ·have hb:k=0:=by rw[hk,if_pos (by omega)]
  subst hb;simp only[vx,T,seval];exact Ve rfl
 have hb:k=c 0:=by rw[hk,if_neg (by omega)]
 subst hb;simp only[vx,T,seval,av,ak];refine⟨by omega,?_⟩;exact Ve rfl
theorem G9 {r n:Nat}(c:Nat→Nat)(m:Nat→Nat→Nb)(v o:Nat→Nb)(hn:r<2^38)(h:∀i,i<r→Pr prog 42 [.one (ak (c i) (m i)),.one (ak n v)] (nX (o i))):Pr prog 11 [.one (av r c m),.one (ak n v)] (.one (ak r o)):=by
 refine pw func11 ⟨[0,1,4,5,6,10],[]⟩ ?_;simp only[Tryz.f11,ntmps11,iz,seval];simp only[vx,T,seval,av,ak];refine Lk (fun y:{i:Nat//i≤r}=>⟨[(0,.one (av r c m)),(1,.one (ak n v)),(4,.one .nil),(5,.one (.own 1 2 0 y.1)),(6,.one (.int .i64 y.1))],[(1,⟨.rows 37 2 y.1 (fun i=>bw (o i)),true⟩)],2,23⟩) (fun y=>r-y.1) ⟨0,Nat.zero_le _⟩ ?_ (fun⟨i,hi⟩=>?_)
 ·refine Sa ?_;simp only[ry,seval,rz,av,ak]
 simp only;have wi:=wI i (by omega);simp only[vx,T,seval,av,ak];refine⟨fun g=>Lg ?_,fun g=>Lg ?_⟩
 ·have R6:i<r:=by omega
  have hc:=h i R6;simp only[vx,T,seval,av,ak,wi];refine⟨by omega,Cg hc ?_⟩;simp only[vx,T,seval,av,ak,nX,nV,wi,tC,aa];refine⟨⟨by omega,by omega⟩,Lq ⟨i+1,by omega⟩ ?_ (by show r-(i+1)<r-i;omega)⟩;refine Sa ?_;simp only[ry,seval,rz,av,ak,nX,nV,tC,aa];exact rA _ i
 obtain rfl:i=r:=by omega
 simp only[vx,T,seval,av,ak];exact Ve rfl
theorem D8 {n:Nat}(a o:Nat→Nb)(p:Nb)(hn:n<2^38)(h:∀i,i<n→Pr prog 115 [nX (a i),nX p] (nX (o i))):Pr prog 80 [.one (ak n a),nX p] (.one (ak n o)):=by
 refine pw func80 ⟨[0,1,3,4,5,6,10],[]⟩ ?_;simp only[Tryz.f80,ntmps80,iz,seval];simp only[vx,T,seval,ak,nX,nV,tC,aa];refine Lk (fun y:{i:Nat//i≤n}=>⟨[(0,.one (ak n a)),(3,.one (.ptr 1 0)),(4,.one .nil),(5,.one (.own 2 2 0 y.1)),(6,.one (.int .i64 y.1))],[(1,⟨.var [tC p.1.length p.1,aa p.2],true⟩),(2,⟨.rows 37 2 y.1 (fun i=>bw (o i)),true⟩)],3,23⟩) (fun y=>n-y.1) ⟨0,Nat.zero_le _⟩ ?_ (fun⟨i,hi⟩=>?_)
 ·refine Sa ?_;simp only[ry,seval,rz,ak,nX,nV,tC,aa]
 simp only;have wi:=wI i (by omega);simp only[vx,T,seval,ak,nX,nV,tC,aa];refine⟨fun g=>Lg ?_,fun g=>Lg ?_⟩
 ·have R6:i<n:=by omega
  have hc:=h i R6;simp only[vx,T,seval,ak,bw,wi,tC,aa];refine⟨by omega,Cg hc ?_⟩;simp only[vx,T,seval,ak,nX,nV,wi,tC,aa];refine⟨⟨by omega,by omega⟩,Lq ⟨i+1,by omega⟩ ?_ (by show n-(i+1)<n-i;omega)⟩;refine Sa ?_;simp only[ry,seval,rz,ak,nX,nV,tC,aa,nX,nV,tC,aa];exact rA _ i
 obtain rfl:i=n:=by omega
 simp only[vx,T,seval,ak,nX,nV,tC,aa];exact Ve rfl
theorem HM {n n2:Nat}(a b o q:Nat→Nb)(p:Nb)(hn:n<2^38)(RK:n≤n2)(h1:∀i,i<n→Pr prog 76 [nX (b i),nX p] (nX (q i)))(h2:∀i,i<n→Pr prog 116 [nX (a i),nX (q i)] (nX (o i))):Pr prog 81 [.one (ak n a),.one (ak n2 b),nX p] (.one (ak n o)):=by
 refine pw func81 ⟨[0,1,2,5,6,7,8,12],[]⟩ ?_;simp only[Tryz.f81,ntmps81,iz,seval];simp only[vx,T,seval,ak,nX,nV,tC,aa];refine Lk (fun y:{i:Nat//i≤n}=>⟨[(0,.one (ak n a)),(1,.one (ak n2 b)),(5,.one (.ptr 1 0)),(6,.one .nil),(7,.one (.own 2 2 0 y.1)),(8,.one (.int .i64 y.1))],[(1,⟨.var [tC p.1.length p.1,aa p.2],true⟩),(2,⟨.rows 37 2 y.1 (fun i=>bw (o i)),true⟩)],3,30⟩) (fun y=>n-y.1) ⟨0,Nat.zero_le _⟩ ?_ (fun⟨i,hi⟩=>?_)
 ·refine Sa ?_;simp only[ry,seval,rz,ak,nX,nV,tC,aa]
 simp only;have wi:=wI i (by omega);simp only[vx,T,seval,ak,nX,nV,tC,aa];refine⟨fun g=>Lg ?_,fun g=>Lg ?_⟩
 ·have R6:i<n:=by omega
  have hc:=h1 i R6;have hd:=h2 i R6;simp only[vx,T,seval,ak,bw,wi,tC,aa];refine⟨by omega,by omega,Cg hc ?_⟩;simp only[vx,T,seval,ak,nX,nV,bw,wi,tC,aa];refine Cg hd ?_;simp only[vx,T,seval,ak,nX,nV,wi,tC,aa];refine⟨⟨by omega,by omega⟩,Lq ⟨i+1,by omega⟩ ?_ (by show n-(i+1)<n-i;omega)⟩;refine Sa ?_;simp only[ry,seval,rz,ak,nX,nV,tC,aa,nX,nV,tC,aa];exact rA _ i
 obtain rfl:i=n:=by omega
 simp only[vx,T,seval,ak,nX,nV,tC,aa];exact Ve rfl
theorem Ap {r:Nat}(c:Nat→Nat)(m:Nat→Nat→Nb)(hn:r<2^38)(hc:∀i,i<r→c i<2^38):Fr prog 10 [.one (av r c m)] (.rows 32 1 r (fun i _=>ak (c i) (m i))):=by
 refine fw func10 ⟨[0,2,3,4,8],[]⟩ ?_;simp only[Tryz.f10,ntmps10,iz,seval];simp only[vx,T,seval,av,ak];refine Lk (fun y:{i:Nat//i≤r}=>⟨[(0,.one (av r c m)),(2,.one .nil),(3,.one (.own 1 1 0 y.1)),(4,.one (.int .i64 y.1))],[(1,⟨.rows 32 1 y.1 (fun i _=>ak (c i) (m i)),true⟩)],2,21⟩) (fun y=>r-y.1) ⟨0,Nat.zero_le _⟩ ?_ (fun⟨i,hi⟩=>?_)
 ·refine Sa ?_;simp only[ry,seval,rz,av,ak]
 simp only;have wi:=wI i (by omega);simp only[vx,T,seval,av,ak];refine⟨fun g=>Lg ?_,fun g=>Lg ?_⟩
 ·have R6:i<r:=by omega
  have hci:=hc i R6;simp only[vx,T,seval,av,ak,wi,Nat.not_lt_zero,Nat.sub_zero];refine⟨by omega,by omega,?_⟩;refine⟨⟨by omega,by omega⟩,Lq ⟨i+1,by omega⟩ ?_ (by show r-(i+1)<r-i;omega)⟩;refine Sa ?_;simp only[ry,seval,rz,av,ak];exact MH (fun i=>ak (c i) (m i)) i
 obtain rfl:i=r:=by omega
 simp only[vx,T,seval,av,ak];exact⟨rfl,rfl,fun _ _ _ _=>rfl⟩
theorem JE {r:Nat}(c:Nat→Nat)(m:Nat→Nat→Nb)(hn:r<2^38)(hc:∀i,i<r→c i<2^38):Pr prog 10 [.one (av r c m)] (.one (av r c m)):=(Ap c m hn hc).rows
open Go Go.Eng
open Go.Tw (El)
theorem dK.QR {f:FuncId}{caps:Nat→C}{e:C}(h:caps 0=e):dK (.fn f 1 caps) (.fn f 1 (fun _=>e)):=by
 rintro ok w v ⟨cs,hv,hn,hc⟩;refine⟨cs,hv,hn,fun i hi=>?_⟩;obtain rfl:i=0:=by omega
 rw[←h];exact hc 0 hi
def Eo (c:C):C:=.elt (.rows 1 1 (fun _ j=>Pm ([c].getD j .any))) 1 0 0
theorem kz {r:Nat}(c:Nat→Nat)(m:Nat→Nat→Nb){k:Nat}(hk:k=if r=0 then 0 else c 0)(hr:r<2^38):Pr prog 38 [.one (av r c m)] (.one (.int .i64 k)):=by
 refine pw func38 ⟨[0,2,5],[]⟩ ?_;simp only[Tryz.f38,ntmps38,iz,seval];simp only[vx,T,seval,av];refine⟨fun g=>Lg ?_,fun g=>Lg ?_⟩
 ·have hb:k=0:=by rw[hk,if_pos (by omega)]
  subst hb;simp only[vx,T,seval];exact Ve rfl
 have hb:k=c 0:=by rw[hk,if_neg (by omega)]
 subst hb;simp only[vx,T,seval,av,ak];refine⟨by omega,?_⟩;exact Ve rfl
theorem JB {r n:Nat}(c:Nat→Nat)(m:Nat→Nat→Nb)(a:Nat→Nb){k:Nat}(hk:k=if r=0 then 0 else c 0)(hr:r<2^38):Pr prog 64 [.one (ak n a),.one (Eo (av r c m))] (.one (.bool (decide (n≠k)))):=by
 have h:=kz c m hk hr;unfold Eo;refine pw func64 ⟨[0,1,3],[]⟩ ?_;simp only[Tryz.f64,ntmps64,iz,seval];simp only[vx,T,seval,ak,av];refine Cg h ?_;simp only[vx,T,seval];refine Ve ?_
 congr 2
 rw[decide_eq_decide];omega
theorem Mb {r:Nat}(c:Nat→Nat)(m:Nat→Nat→Nb)(f:FuncId){S:C}{wd io oo:Nat}(p:Nat→Bool)(hr:r<2^38)(hf:∀i,i<r→Pr prog f [.one (ak (c i) (m i)),.one (.elt S wd io oo)] (.one (.bool (p i)))){k:Int}(hk:(k= -1∧∀i,i<r→p i=false)∨∃j:Nat,k=j∧j<r∧p j=true∧∀i,i<j→p i=false):
  Pr prog 67 [.one (av r c m),.one (.fn f 1 (fun _=>.elt S wd io oo))] (.one (.int .i64 k)):=by
 refine pw func67 ⟨[0,1,4,5,7,8,9,16],[]⟩ ?_;simp only[Tryz.f67,ntmps67,iz,seval];simp only[vx,T,seval,av];refine Lk (fun y:{i:Nat//i≤r∧∀j,j<i→p j=false}=>⟨[(0,.one (av r c m)),(1,.one (.fn f 1 (fun _=>.elt S wd io oo))),(4,.one (.int .i64 0)),(7,.one (.int .i64 r)),(8,.one (.int .i64 y.1))],[],1,19⟩) (fun y=>r-y.1) ⟨0,Nat.zero_le _,fun j hj=>absurd hj (Nat.not_lt_zero _)⟩ ?_ (fun⟨i,hi,hz⟩=>?_)
 ·refine Sa ?_;simp only[ry,seval,rz,av]
 simp only;have wi:=wI i (by omega);simp only[vx,T,seval,av];refine⟨fun g=>Lg ?_,fun g=>Lg ?_⟩
 ·have cc:=hf i (by omega);simp only[vx,T,seval,av,ak,wi];refine⟨by omega,Cg cc ?_⟩
  cases hp:p i with
  |true=>
   have hb:k=i:=by
    rcases hk with⟨_,h⟩|⟨j,h1,h2,h3,h4⟩
    ·have:=h i (by omega);rw[hp]at this;cases this
    by_cases e1:j<i
    ·have:=hz j e1;rw[h3]at this;cases this
    by_cases e2:i<j
    ·have:=h4 i e2;rw[hp]at this;cases this
    rw[h1];congr 1;omega
   subst hb;simp only[vx,T,seval,av,ak,wi];exact Ve rfl
  |false=>
   simp only[vx,T,seval,av,ak,wi];refine Lq ⟨i+1,by omega,fun j hj=>?_⟩ ?_ (by show r-(i+1)<r-i;omega)
   ·by_cases e:j<i
    ·exact hz j e
    obtain rfl:j=i:=by omega
    exact hp
   refine Sa ?_;simp only[ry,seval,rz,av]
 have hb:k= -1:=by
  rcases hk with⟨h,_⟩|⟨j,h1,h2,h3,h4⟩
  ·exact h
  have:=hz j (by omega);rw[h3]at this;cases this
 subst hb;simp only[vx,T,seval,av,ak,wi];exact Ve rfl
theorem OW {r:Nat}(c:Nat→Nat)(m:Nat→Nat→Nb)(f:FuncId){S:C}{wd io oo:Nat}(p:Nat→Bool)(hr:r<2^38)(hf:∀i,i<r→Pr prog f [.one (ak (c i) (m i)),.one (.elt S wd io oo)] (.one (.bool (p i)))){b:Bool}(hb:b=true↔∃i,i<r∧p i=true):
  Pr prog 63 [.one (av r c m),.one (.fn f 1 (fun _=>.elt S wd io oo))] (.one (.bool b)):=by
 have first:∃k:Int,((k= -1∧∀i,i<r→p i=false)∨∃j:Nat,k=j∧j<r∧p j=true∧∀i,i<j→p i=false)∧b=decide (0≤k):=by
  cases Se:b with
  |false=>
   refine⟨-1,.inl ⟨rfl,fun i hi=>?_⟩,by decide⟩
   cases hp:p i with
   |false=>rfl
   |true=>have:=hb.2 ⟨i,hi,hp⟩;rw[Se]at this;cases this
  |true=>
   obtain⟨i,hi,hp⟩:=hb.1 Se;have key:∀n i,i<n→p i=true→∃j,j≤i∧p j=true∧∀i',i'<j→p i'=false:=by
    intro n
    induction n with
    |zero=>intro i hi;omega
    |succ n ih=>
     intro i hi hp
     by_cases h:∃i',i'<i∧p i'=true
     ·obtain⟨i',h1,h2⟩:=h;obtain⟨j,g1,g2,g3⟩:=ih i' (by omega) h2;exact⟨j,by omega,g2,g3⟩
     exact⟨i,Nat.le_refl _,hp,fun i' SQ=>by
      cases e:p i' with
      |false=>rfl
      |true=>exact absurd ⟨i',SQ,e⟩ h⟩
   obtain⟨j,g1,g2,g3⟩:=key (i+1) i (by omega) hp;exact⟨j,.inr ⟨j,rfl,by omega,g2,g3⟩,by simp⟩
 obtain⟨k,hk,rfl⟩:=first;have h:=Mb c m f p hr hf hk;refine pw func63 ⟨[0,1,4],[]⟩ ?_;simp only[Tryz.f63,ntmps63,iz,seval];simp only[vx,T,seval,av];refine Cg h ?_;simp only[vx,T,seval];exact Ve (by simp)
theorem qU {r:Nat}(c:Nat→Nat)(m:Nat→Nat→Nb)(hr:r<2^38){b:Bool}(hb:b=true↔∀i,i<r→c i=c 0):Pr prog 37 [.one (av r c m)] (.one (.bool b)):=by
 have h:=OW c m 64 (fun i=>decide (c i≠if r=0 then 0 else c 0)) hr (fun i _=>JB (n:=c i) c m (m i) rfl hr) (b:=!b) (by
  rw[Bool.not_eq_true',←Bool.not_eq_true,hb];refine⟨fun h=>?_,fun⟨i,hi,h⟩ k=>?_⟩
  ·have:∃i,i<r∧c i≠c 0:=Classical.not_forall_not.1 fun k=>h fun i hi=>Classical.byContradiction fun e=>k i ⟨hi,e⟩
   obtain⟨i,hi,e⟩:=this;exact⟨i,hi,by rw[if_neg (by omega)];simpa using e⟩
  rw[if_neg (by omega)]at h;exact absurd (k i hi) (by simpa using h))
 refine pw func37 ⟨[0,1,2],[]⟩ ?_;simp only[Tryz.f37,ntmps37,iz,seval];simp only[vx,T,seval,av];refine Cg (h.args ⟨.refl _,.cell (dK.QR rfl),trivial⟩) ?_;simp only[vx,T,seval,av];exact Ve (by simp)
open Go Go.Proofs Go.RowKit Go.Eng
set_option maxRecDepth 100000 in
theorem CH (k:Nat)(h0:0<k)(hb:k*48≤140737488355328)(w:World)(i:TypeInfo)(z:Value)(hi:prog.info? 37=some i)(hz:i.zero=some z)(hs:i.size=2)(V4:i.bytes=48):
  Calls prog 110 #[.slice none 0 0,.int .i64 k] w fun e w'=>e= .returned (.slice (some ⟨w.heap.size,0,none⟩) 0 (grownCap w k 0 37))∧
   w'=w.drew.alloc (.cells (Builtin.zeroCells z.cells k++Builtin.zeroCells z.cells (grownCap w k 0 37-k)) 37):=by
 have h1:¬((k:Int)<0):=by omega
 have h3:wrap64 ((k:Int)-(((0:Nat):Int)-((0:Nat):Int)))=(k:Int):=by unfold wrap64;omega
 have h4:(k:Int)>0:=by omega
 have Zp:∀ty,(Builtin.append_ #[32,3] ty #[.slice none 0 0,.int .i64 (k:Int)]).run prog w=
   .ok (.slice (some ⟨w.heap.size,0,none⟩) k (grownCap w k 0 37)) (w.drew.alloc (.cells (Builtin.zeroCells z.cells k++Builtin.zeroCells z.cells (grownCap w k 0 37-k)) 37)):=fun ty=>
  Lib.run_append_nil_zeros w 32 3 ty 37 i z .i64 .i64 (by rfl) (by rfl) hi hz k h0 (by omega) (by omega) (by rw[V4];omega)
 obtain⟨G,hG⟩:∃G,G=grownCap w k 0 37:=⟨_,rfl⟩;rw[←hG]at Zp⊢;have hGn:k≤G:=by rw[hG];exact grownCap_ge w _ _ _
 clear hG
 go_enter func110,ntmps110
 go_wp2_with (at_builtin;refine Lib.wpList_append_run _ rfl _ _ _ _ rfl _ _ rfl rfl _ _ (Zp _) ?_)
 all_goals(go_ret;exact⟨rfl,rfl⟩)
set_option maxRecDepth 100000 in
theorem BI (w:World):Calls prog 110 #[.slice none 0 0,.int .i64 0] w fun e w'=>e= .returned (.slice none 0 0)∧w'=w:=by
 go_enter func110,ntmps110
 go_wp2
 go_ret
 exact⟨rfl,rfl⟩
theorem Bt (k:Nat)(hb:k*48≤140737488355328):Fr prog 110 [.one .nil,.one (.int .i64 k)] (.rows 37 2 0 (fun _ _=>.any)):=by
 obtain⟨i,d,z,hi,hu,hz,_,hs,V4,SF,_⟩:=bD BU (show T 37=some _ from rfl);have hs:i.size=2:=hs.symm;have V4:i.bytes=48:=V4.symm;refine⟨⟨_,func110,by rfl,by rfl⟩,trivial,fun ok w vs RW hr=>?_⟩;obtain⟨vs⟩:=vs
 match vs,hr with
 |[v,u],hr=>
  obtain⟨hv,hu,_⟩:=hr;have hv:v= .slice none 0 0:=hv;have hu:u= .int .i64 k:=hu;subst hv hu
  by_cases h0:k=0
  ·subst h0
   refine(BI w).mono ?_
   rintro e w' ⟨rfl,rfl⟩;exact⟨_,⟨none,0⟩,rfl,Go.RowKit.Below.refl _ _,rfl,(fun g o h=>by cases h),(fun j=>by simp[Bk.cell]),trivial,Nat.le_refl _,0,Nat.le_refl _,.inr ⟨rfl,rfl,rfl,rfl⟩⟩
  refine(CH k (by omega) hb w i z hi hz hs V4).mono ?_
  rintro e w' ⟨rfl,rfl⟩;have Tn:z.cells.size=2:=by
   have:=congrArg List.length SF
   simpa[T]using this.symm
  have hGn:k≤grownCap w k 0 37:=grownCap_ge w _ _ _;refine⟨_,⟨some (w.heap.size,0),0⟩,rfl,((Go.RowKit.Below.refl _ w).drew).alloc (Nat.le_refl _) _,rfl,fun g o h=>?_,?_,trivial,Nat.le_refl _,grownCap w k 0 37,Nat.zero_le _,.inl ⟨w.heap.size,0,0,rfl,rfl,.inr (by simp),?_⟩⟩
  ·have:w.heap.size=g:=by simpa using congrArg (Option.map Prod.fst) h
   subst this;exact⟨Nat.le_refl _,by simp⟩
  ·unfold aL;refine⟨_,37,heap_alloc_new w.drew _,fun j c hj=>?_⟩
   simp[Bk.cell]at hj
  have SR:cd (w.drew.alloc (.cells (Builtin.zeroCells z.cells k++Builtin.zeroCells z.cells (grownCap w k 0 37-k)) 37)) w.heap.size=(Builtin.zeroCells z.cells k++Builtin.zeroCells z.cells (grownCap w k 0 37-k)).size:=dH (heap_alloc_new w.drew _);rw[SR];simp only[Array.size_append,size_zeroCells,Tn,Bk.wd];omega
open Go Go.Eng
open Go.Tw (El)
theorem NN (p q:List Nb):∀(i j:Nat),i<p.length+q.length→j<2→(if i<p.length then fm p i j else fm q (i-p.length) j)=fm (p++q) i j:=by
 intro i j _ _;unfold fm
 by_cases h:i<p.length
 ·rw[if_pos h,X7,X7,List.getElem?_append_left h]
 rw[if_neg h,X7,X7,List.getElem?_append_right (by omega)]
theorem pk (ps:List (List Nb))(hl:ps.flatten.length<2^38)(hk:ps.length<2^38):Fr prog 73 [.one (.rows 1 ps.length (fun i _=>bV (ps.getD i default)))] (.rows 37 2 (ps.flatten).length (fm (ps.flatten))):=by
 refine fw func73 ⟨[0,2,3,5,6,8,9,10,11,12,20,25,26,27,28],[]⟩ ?_;simp only[Tryz.f73,ntmps73,iz,seval];simp only[vx,T,seval];refine Lk (fun y:{i:Nat//i≤ps.length}=>⟨[(0,.one (.rows 1 ps.length (fun i _=>bV (ps.getD i default)))),(3,.one (.int .i64 (ps.take y.1).flatten.length)),(9,.one (.rows 1 ps.length (fun i _=>bV (ps.getD i default)))),(10,.one (.int .i64 ps.length)),(11,.one (.int .i64 y.1))],[],1,36⟩) (fun y=>ps.length-y.1) ⟨0,Nat.zero_le _⟩ ?_ (fun⟨i,hi⟩=>?_)
 ·refine Sa ?_;simp only[ry,seval,rz]
 have h0:=jQ ps i;have i1:=wI i (by omega);simp only[vx,T,seval];refine⟨fun h1=>Lg ?_,fun h1=>Lg ?_⟩
 ·have hs:=nf (ps:=ps) (i:=i) (by omega);have h2:=jQ ps (i+1);have U0:(ps.take (i+1)).flatten.length=(ps.take i).flatten.length+(ps.getD i default).length:=by rw[hs,X6]
  obtain⟨a,ha⟩:∃a,a=ps.getD i default:=⟨_,rfl⟩;rw[←ha]at U0;have w1:IntKind.i64.wrap (((ps.take i).flatten.length:Int)+a.length)=((ps.take (i+1)).flatten.length:Int):=by rw[IntWalk.i64_in _ (by omega)];omega
  simp only[vx,T,seval,bV,←ha];simp only[w1];refine⟨by omega,fun h=>absurd h (by omega),fun _=>Lg ?_⟩;simp only[vx,T,seval,bV,←ha];simp only[i1];refine Lq ⟨i+1,by omega⟩ ?_ ?_
  ·refine Sa ?_;simp only[ry,seval,rz]
  simp only;omega
 have V3:i=ps.length:=by omega
 subst V3;rw[List.take_length];simp only[vx,T,seval];refine cH.fresh (Bt ps.flatten.length (by omega)) ?_;simp only[vx,T,seval];refine Lk (fun y:{i:Nat//i≤ps.length}=>⟨[(0,.one (.rows 1 ps.length (fun i _=>bV (ps.getD i default)))),(6,.one (.own 1 2 0 (ps.take y.1).flatten.length)),(25,.one (.rows 1 ps.length (fun i _=>bV (ps.getD i default)))),(26,.one (.int .i64 ps.length)),(27,.one (.int .i64 y.1))],[(1,⟨(.rows 37 2 ((ps.take y.1).flatten).length (fm ((ps.take y.1).flatten))),true⟩)],2,36⟩) (fun y=>ps.length-y.1) ⟨0,Nat.zero_le _⟩ ?_ (fun⟨i,hi⟩=>?_)
 ·refine Sa ?_;simp only[ry,seval,rz];exact fun i j h=>absurd h (by omega)
 have h0:=jQ ps i;have i1:=wI i (by omega);simp only[vx,T,seval];refine⟨fun h1=>Lg ?_,fun h1=>Lg ?_⟩
 ·have hs:=nf (ps:=ps) (i:=i) (by omega);have h2:=jQ ps (i+1);have U0:(ps.take (i+1)).flatten.length=(ps.take i).flatten.length+(ps.getD i default).length:=by rw[hs,X6]
  obtain⟨a,ha⟩:∃a,a=ps.getD i default:=⟨_,rfl⟩;rw[←ha]at U0 hs;simp only[vx,T,seval,bV,←ha];simp only[i1];refine⟨by omega,by rw[←X6,←hs];omega,Lq ⟨i+1,by omega⟩ ?_ ?_⟩
  ·refine Sa ?_;simp only[ry,seval,rz,hs];exact⟨by simp,by simp,NN _ _⟩
  simp only;omega
 have V3:i=ps.length:=by omega
 subst V3;rw[List.take_length];simp only[vx,T,seval];exact⟨rfl,rfl,fun _ _ _ _=>rfl⟩
def xe (n:Nat)(a:Nat→Nb):List Nb:=(List.range n).map a
theorem g8 {n:Nat}{a:Nat→Nb}:(xe n a).length=n:=by simp[xe]
theorem sG {n:Nat}{a:Nat→Nb}{i:Nat}(hi:i<n):(xe n a).getD i default=a i:=by
 unfold xe;rw[X7,List.getElem?_map,List.getElem?_range hi];rfl
theorem Bn {n:Nat}{a:Nat→Nb}:dK (ak n a) (bV (xe n a)):=.rows g8.symm fun i j hi _=>.of_eq (by unfold fm;rw[sG hi])
theorem vX {c:Nat}{M:Nat→Nat→Nb}:∀{r:Nat},((List.range r).map fun i=>xe c (M i)).flatten.length=r*c∧∀p,p<r*c→((List.range r).map fun i=>xe c (M i)).flatten.getD p default=M (p/c) (p%c)
 |0=>⟨by simp,fun p hp=>by omega⟩
 |r+1=>by
  obtain⟨h1,h2⟩:=vX (c:=c) (M:=M) (r:=r);have e:((List.range (r+1)).map fun i=>xe c (M i)).flatten=((List.range r).map fun i=>xe c (M i)).flatten++xe c (M r):=by
   rw[List.range_succ,List.map_append,List.flatten_append];simp
  refine⟨by rw[e,X6,h1,g8,Nat.add_mul,Nat.one_mul],fun p hp=>?_⟩;rw[e,X7]
  by_cases Ym:p<r*c
  ·rw[List.getElem?_append_left (by omega),←X7];exact h2 p Ym
  have hc:0<c:=Nat.pos_of_ne_zero fun e=>by subst e;omega
  rw[Nat.add_mul,Nat.one_mul]at hp;rw[List.getElem?_append_right (by omega),h1,←X7,sG (by omega)];have e1:p=r*c+(p-r*c):=by omega
  have e2:p/c=r:=by
   rw[e1,Nat.mul_comm,Nat.mul_add_div hc,Nat.div_eq_of_lt (by rw[Nat.mul_comm];omega)];omega
  have e3:p%c=p-r*c:=by
   have:=Nat.div_add_mod p c
   rw[e2,Nat.mul_comm]at this;omega
  rw[e2,e3]
theorem KO {r c:Nat}(M:Nat→Nat→Nb)(hn:r*c<2^38)(hr:r<2^38):Pr prog 73 [.one (av r (fun _=>c) M)] (.one (ak (r*c) fun p=>M (p/c) (p%c))):=by
 obtain⟨h1,h2⟩:=vX (c:=c) (M:=M) (r:=r);have k:=(pk ((List.range r).map fun i=>xe c (M i)) (by rw[h1];exact hn) (by simpa using hr)).rows;have k2:Pr prog 73 [.one (av r (fun _=>c) M)] _:=k.args ⟨.cell (.rows (by simp) fun i j hi hj=>?_),trivial⟩;refine k2.res (fT.cell (.rows h1 fun p j hp _=>.of_eq ?_))
 rotate_left
 ·have e:((List.range r).map fun i=>xe c (M i)).getD i default=xe c (M i):=by
   rw[X7,List.getElem?_map,List.getElem?_range hi];rfl
  rw[e];exact Bn
 rw[h1]at hp;unfold fm;rw[h2 p hp]
theorem yW {n m:Nat}(a b:Nat→Nb)(hn:n+m<2^38):Pr prog 73 [.one (.rows 1 2 (fun i j=>[ak n a,ak m b].getD (i*1+j) .any))] (.one (ak (n+m) fun i=>if i<n then a i else b (i-n))):=by
 have k:=(pk [xe n a,xe m b] (by simpa[g8]using hn) (by simp)).rows;have e:[xe n a,xe m b].flatten=xe n a++xe m b:=by simp
 rw[e]at k;have k2:Pr prog 73 [.one (.rows 1 2 (fun i j=>[ak n a,ak m b].getD (i*1+j) .any))] _:=k.args ⟨.cell (.rows rfl fun i j hi hj=>?_),trivial⟩;refine k2.res (fT.cell (.rows (by rw[X6,g8,g8]) fun p j hp _=>.of_eq ?_))
 rotate_left
 ·obtain rfl:j=0:=by omega
  match i,hi with
  |0,_=>exact Bn
  |1,_=>exact Bn
 rw[X6,g8,g8]at hp;unfold fm;rw[X7]
 by_cases h:p<n
 ·rw[List.getElem?_append_left (by rw[g8];exact h),←X7,sG h];simp only[if_pos h]
 rw[List.getElem?_append_right (by rw[g8];omega),g8,←X7,sG (by omega)];simp only[if_neg h]
end Go.Proofs.YthnkehdgnagmnaaGreat
namespace Go.Eng
open Go
theorem IM {w j:Nat}(hj:j<32)(hw:w<4294967296)(hd:w%2^(j+1)=0):eZ .or .u32 (w:Int) ((2^j:Nat):Int)=((w+2^j:Nat):Int)∧w+2^j<4294967296:=by
 have hp:2^j<2^(j+1):=Nat.pow_lt_pow_right (by decide) (by omega);have Tp:2^j<2^32:=Nat.pow_lt_pow_right (by decide) hj
 have e:w|||2^j=w+2^j:=by
  have h1:=Nat.two_pow_add_eq_or_of_lt (i:=j+1) (b:=2^j) hp (w/2^(j+1));have h2:2^(j+1)*(w/2^(j+1))=w:=by have:=Nat.div_add_mod w (2^(j+1));omega
  rw[h2]at h1;exact h1.symm
 have Ru:w|||2^j<2^32:=Nat.or_lt_two_pow hw Tp
 refine⟨?_,by rw[←e];exact Ru⟩;show IntKind.u32.wrap _=_
 have eb:(BitVec.ofInt 32 (w:Int)|||BitVec.ofInt 32 ((2^j:Nat):Int)).toNat=w+2^j:=by
  rw[BitVec.toNat_or,BitVec.ofInt_natCast,BitVec.ofInt_natCast,BitVec.toNat_ofNat,BitVec.toNat_ofNat,Nat.mod_eq_of_lt hw,Nat.mod_eq_of_lt Tp,e]
 have eb2:(BitVec.ofInt IntKind.u32.bits (w:Int)|||BitVec.ofInt IntKind.u32.bits ((2^j:Nat):Int)).toNat=w+2^j:=eb
 rw[eb2];exact IntWalk.u32_in _ (by omega)
theorem Lj {w j:Nat}(hj:j<32)(hw:w<4294967296)(hd:w%2^(j+1)=0):eZ .andNot .u32 ((w+2^j:Nat):Int) ((2^j:Nat):Int)=(w:Int):=by
 obtain⟨h1,h2⟩:=IM hj hw hd;have Tp:2^j<2^32:=Nat.pow_lt_pow_right (by decide) hj;have hp:2^j<2^(j+1):=Nat.pow_lt_pow_right (by decide) (by omega)
 have e:w|||2^j=w+2^j:=by
  have h1:=Nat.two_pow_add_eq_or_of_lt (i:=j+1) (b:=2^j) hp (w/2^(j+1));have h2:2^(j+1)*(w/2^(j+1))=w:=by have:=Nat.div_add_mod w (2^(j+1));omega
  rw[h2]at h1;exact h1.symm
 have bj:w.testBit j=false:=by
  rw[Nat.testBit_eq_decide_div_mod_eq]
  have:w=2^j*(2*(w/2^(j+1))):=by
   have h4:=Nat.div_add_mod w (2^(j+1));have h5:2^(j+1)*(w/2^(j+1))=2^j*(2*(w/2^(j+1))):=by
    generalize w/2^(j+1)=m
    rw[Nat.pow_succ,Nat.mul_assoc]
   omega
  rw[this,Nat.mul_div_cancel_left _ (Nat.two_pow_pos j)]
  simp
 have eb:(BitVec.ofInt 32 ((w+2^j:Nat):Int)&&& ~~~(BitVec.ofInt 32 ((2^j:Nat):Int)))=BitVec.ofNat 32 w:=by
  rw[BitVec.ofInt_natCast,BitVec.ofInt_natCast]
  apply BitVec.eq_of_getLsbD_eq
  intro i hi;rw[BitVec.getLsbD_and,BitVec.getLsbD_not,BitVec.getLsbD_ofNat,BitVec.getLsbD_ofNat,BitVec.getLsbD_ofNat,←e,Nat.testBit_or,Nat.testBit_two_pow]
  by_cases US:j=i
  ·subst US;simp[bj]
  simp[US,hi]
 show IntKind.u32.wrap ((BitVec.ofInt 32 ((w+2^j:Nat):Int)&&& ~~~(BitVec.ofInt 32 ((2^j:Nat):Int))).toNat:Int)=_;rw[eb,BitVec.toNat_ofNat,Nat.mod_eq_of_lt hw];exact IntWalk.u32_in _ (by omega)
theorem yS {k r:Nat}(hr:r<BB^k)(i:Nat):(iE k r).getD i 0=((r/BB^i%BB:Nat):Int):=by
 have h:=dk (gk k r) i;rw[jO,Nat.mod_eq_of_lt hr]at h;exact h
theorem KS {k r i:Nat}(hk:i/32<k)(hr:r+2^i<BB^k)(hd:r%2^(i+1)=0):∃w:Nat,w<4294967296∧w+2^(i%32)<4294967296∧(iE k r).getD (i/32) 0=(w:Int)∧
  eZ .or .u32 (w:Int) ((2^(i%32):Nat):Int)=((w+2^(i%32):Nat):Int)∧(iE k r).set (i/32) ((w+2^(i%32):Nat):Int)=iE k (r+2^i)∧
  (iE k (r+2^i)).getD (i/32) 0=((w+2^(i%32):Nat):Int)∧eZ .andNot .u32 ((w+2^(i%32):Nat):Int) ((2^(i%32):Nat):Int)=(w:Int)∧(iE k (r+2^i)).set (i/32) (w:Int)=iE k r:=by
 obtain⟨c,hc⟩:∃c,c=i/32:=⟨_,rfl⟩;obtain⟨j,hj⟩:∃j,j=i%32:=⟨_,rfl⟩;have US:i=32*c+j:=by omega
 rw[←hc]at hk⊢;rw[←hj];have Zs:j<32:=by omega
 have SZ:r<BB^k:=by have:=Nat.two_pow_pos i;omega
 obtain⟨w,hw⟩:∃w,w=r/BB^c%BB:=⟨_,rfl⟩;have YC:w<4294967296:=by rw[hw];exact Nat.mod_lt _ (by decide)
 have To:w%2^(j+1)=0:=by
  obtain⟨m,hm⟩:=Nat.dvd_of_mod_eq_zero hd;have e1:2^(i+1)=BB^c*2^(j+1):=by rw[qc,←Nat.pow_add];congr 1;omega
  have e2:r/BB^c=2^(j+1)*m:=by
   rw[hm,e1,Nat.mul_assoc,Nat.mul_div_cancel_left _ (Nat.pow_pos (by decide))]
  have e3:BB=2^(j+1)*2^(31-j):=by rw[←Nat.pow_add,show j+1+(31-j)=32 by omega];rfl
  rw[hw,e2]
  conv=>lhs;lhs;rhs;rw[e3]
  rw[Nat.mul_mod_mul_left,Nat.mul_mod_right]
 obtain⟨b1,b2⟩:=IM Zs YC To;have b3:=Lj Zs YC To;have hl:c<(iE k r).length:=by rw[aM];exact hk
 have g1:(iE k r).getD c 0=(w:Int):=by rw[yS SZ,hw]
 have s1:(iE k r).set c ((w+2^j:Nat):Int)=iE k (r+2^i):=by
  refine rh ((gk k r).set c ⟨by omega,by omega⟩) (by rw[List.length_set,aM]) ?_;have h:=dM (xs:=iE k r) (x:=((w+2^j:Nat):Int)) hl;rw[g1,jO,Nat.mod_eq_of_lt SZ,Int.toNat_natCast,Int.toNat_natCast,Nat.mul_add]at h;have e4:BB^c*2^j=2^i:=by rw[qc,←Nat.pow_add,←US]
  omega
 refine⟨w,YC,b2,g1,b1,s1,?_,b3,?_⟩
 ·rw[←s1,X7,List.getElem?_set,if_pos rfl,if_pos hl];rfl
 rw[←s1,List.set_set,←g1];refine List.ext_getElem (by simp) fun n h1 h2=>?_;rw[List.getElem_set]
 split
 ·rename_i e
  subst e;rw[X7,X8 h2];rfl
 rfl
structure Gz (a n i r:Nat):Prop where
 le:i≤n
 d:r%2^i=0
 lo:r*r≤a
 hi:a<(r+2^i)*(r+2^i)
 lt:r+2^i≤2^n
theorem Gz.init {a n:Nat}(h:a<2^n*2^n):Gz a n n 0:=⟨Nat.le_refl _,Nat.zero_mod _,Nat.zero_le _,by rw[Nat.zero_add];exact h,by omega⟩
theorem Gz.up {a n i r:Nat}(H:Gz a n (i+1) r)(h:(r+2^i)*(r+2^i)≤a):Gz a n i (r+2^i):=by
 have e:2^(i+1)=2^i+2^i:=by rw[Nat.pow_succ];omega
 obtain⟨h1,h2,h3,h4,h5⟩:=H;rw[e]at h4 h5;refine⟨by omega,?_,h,by rw[Nat.add_assoc];exact h4,by omega⟩;obtain⟨m,hm⟩:=Nat.dvd_of_mod_eq_zero h2;rw[hm,Nat.pow_succ,Nat.mul_assoc,Nat.add_mod_right,Nat.mul_mod_right]
theorem Gz.stay {a n i r:Nat}(H:Gz a n (i+1) r)(h:a<(r+2^i)*(r+2^i)):Gz a n i r:=by
 have e:2^(i+1)=2^i+2^i:=by rw[Nat.pow_succ];omega
 obtain⟨h1,h2,h3,h4,h5⟩:=H;rw[e]at h5;refine⟨by omega,?_,h3,h,by omega⟩;obtain⟨m,hm⟩:=Nat.dvd_of_mod_eq_zero h2;rw[hm,Nat.pow_succ,Nat.mul_assoc,Nat.mul_mod_right]
theorem Gz.done {a n r:Nat}(H:Gz a n 0 r):r=cJ a:=(uE H.lo H.hi).symm
end Go.Eng
namespace Go.Proofs.YthnkehdgnagmnaaGreat
open Go.Proofs.Tryz
open Go Go.Eng
theorem yc (K a:Nat)(hr:a<BB^K)(hl:nl a≤K)(hK:K<2^44):Mc prog 159 [.one (.own 0 1 0 (nl a)),.one (.own 0 1 0 (nl a))] (.ints 151 .u32 (iE K a)) (fun r B'=>r= .one (.ints .u32 (aj (a*a)))∧B'= .ints 151 .u32 (iE K a)):=by
 have dl:=aM K a;have dw:=fun i=>yS hr i;refine mw func159 ⟨[0,1,4,5,6,7,8,18,24],[]⟩ ?_;simp only[Tryz.f159,ntmps159,iz,seval];simp only[vx,T,seval,dl]
 simp(disch:=omega) only[lG,←X2,←Int.natCast_mul,Int.toNat_natCast,IntWalk.i64_in,IntWalk.u64_in,ay,aH,true_and,and_true,dw]
 refine⟨⟨by omega,by omega,by omega,by omega⟩,Lk (fun i:{i:Nat×List Int//gN a a i.1 i.2}=>⟨[(0,.one (.own 0 1 0 (nl a))),(1,.one (.own 0 1 0 (nl a))),(5,.one (.own 1 1 0 (nl a+nl a))),(6,.one (.int .i64 i.1.1))],[(0,⟨.ints 151 .u32 (iE K a),true⟩),(1,⟨.ints 151 .u32 i.1.2,true⟩)],3,67⟩) (fun i=>nl a-i.1.1) ⟨(0,List.replicate (nl a+nl a) 0),gN.init a a⟩ ?_ (fun⟨⟨i,os⟩,hi⟩=>?_)⟩
 ·refine Sa ?_;simp only[ry,seval,rz,dl]
 have h1:=hi.le;have h2:=hi.len;simp only at h1 h2;simp only[vx,T,seval,dl];refine⟨fun h=>Lg ?_,fun h=>Lg ?_⟩
 ·simp only[vx,T,seval,dl];have hx:=bd (a/BB^i);refine Lk (fun k:{k:Nat×List Int×Nat//pS a a i k.1 k.2.1 k.2.2}=>⟨[(0,.one (.own 0 1 0 (nl a))),(1,.one (.own 0 1 0 (nl a))),(5,.one (.own 1 1 0 (nl a+nl a))),(6,.one (.int .i64 i)),(7,.one (.int .u64 k.1.2.2)),(8,.one (.int .i64 k.1.1))],[(0,⟨.ints 151 .u32 (iE K a),true⟩),(1,⟨.ints 151 .u32 k.1.2.1,true⟩)],3,67⟩) (fun k=>nl a-k.1.1) ⟨(0,os,0),hi.start⟩ ?_ (fun⟨⟨k,os',c⟩,hk⟩=>?_)
  ·refine Sa ?_;simp only[ry,seval,rz,lG]
  have h3:=hk.le;have h4:=hk.len;have h5:=hk.c;have h5:c<4294967296:=h5;have hz:=hk.inr.getD (i+k);simp only at h3 h4 hz;obtain⟨o,ho⟩:=Int.eq_ofNat_of_zero_le hz.1;rw[ho]at hz;simp only[vx,T,seval,dl];refine⟨fun h'=>Lg ?_,fun h'=>Lg ?_⟩
  ·simp only[vx,T,seval,dl];have hy:=bd (a/BB^k);have hp:(a/BB^i%BB)*(a/BB^k%BB)≤4294967295*4294967295:=Nat.mul_le_mul (by omega) (by omega)
   simp(disch:=omega) only[lG,←X2,←Int.natCast_mul,Int.toNat_natCast,IntWalk.i64_in,IntWalk.u64_in,ay,aH,true_and,and_true,ho,dw]
   refine⟨by omega,by omega,by omega,by omega,Lq ⟨(k+1,_,_),hk.put (s:=c+o+(a/BB^i%BB)*(a/BB^k%BB)) (by omega) (by omega) ho (by simp only;omega)⟩ ?_ ?_⟩
   ·refine Sa ?_;simp only[ry,seval,rz,dl]
   simp only;omega
  simp only[vx,T,seval,dl];have Xz:k=nl a:=by omega
  subst Xz
  simp(disch:=omega) only[lG,←X2,←Int.natCast_mul,Int.toNat_natCast,IntWalk.i64_in,IntWalk.u64_in,ay,aH,true_and,and_true,dw]
  refine⟨by omega,Lq ⟨(i+1,_),hk.next (by omega)⟩ ?_ ?_⟩
  ·refine Sa ?_;simp only[ry,seval,rz,dl]
  simp only;omega
 simp only[vx,T,seval,dl];have Ti:i=nl a:=by omega
 subst Ti;have hr:=hi.inr;have hv:=hi.done;simp only at hr hv;rw[List.take_of_length_le (by omega)];refine Cg (bJ _ hr (by omega)) ?_;rw[hv];simp only[vx,T,seval,dl]
theorem Gs:Pr prog 163 [.one (.ints .u32 (aj 0))] (.one (.int .i64 0)):=by
 have hl:(aj 0).length=0:=by rw[bq];rfl
 refine pw func163 ⟨[0,2,3,4,7,15],[]⟩ ?_;simp only[Tryz.f163,ntmps163,iz,seval];simp only[vx,T,seval,bq];exact Ve rfl
theorem CD (z:Int)(hz:zn z<2^42):Pr prog 215 [ZV z] (.one (.int .i64 (if z=0 then 0 else kE z.natAbs:Nat))):=by
 have t:=B9 z (by omega);have l:Pr prog 163 [.one (.ints .u32 (aj z.natAbs))] (.one (.int .i64 (if z=0 then 0 else kE z.natAbs:Nat))):=by
  by_cases h:z=0
  ·subst h;exact Gs
  rw[if_neg h];exact pj _ (by omega) (by show nl z.natAbs<_;unfold zn at hz;omega)
 refine pw func215 ⟨[0,1,2],[]⟩ ?_;simp only[Tryz.f215,ntmps215,iz,seval];simp only[vx,T,seval,ZV];refine Cg t ?_;simp only[vx,T,seval,ZV];refine Cg l ?_;simp only[vx,T,seval,ZV];exact Ve rfl
theorem ET (a b:Int)(ha:zn a<2^42)(hb:zn b<2^42):Pr prog 216 [ZV a,ZV b] (.one (.int .i64 (bQ (a-b)))):=by
 have s:=qf a b (by omega) (by omega);have hs:zn (a-b)<2^59:=by
  have:=ot a (-b)
  have e:zn (-b)=zn b:=by unfold zn;rw[Int.natAbs_neg]
  rw[Int.sub_eq_add_neg];omega
 have g:=gF (a-b) hs;refine pw func216 ⟨[0,1,2,3,4],[]⟩ ?_;simp only[Tryz.f216,ntmps216,iz,seval];simp only[vx,T,seval,ZV];refine Cg s ?_;simp only[vx,T,seval,ZV];refine Cg g ?_;simp only[vx,T,seval,ZV];exact Ve rfl
theorem tU (z:Int)(h0:0≤z)(hz:zn z<2^38):Pr prog 190 [ZV z] (.aF [ZV (cJ z.natAbs:Nat),.one (.int .i64 0)]):=by
 have c:=eN z (by omega);have b:=CD z (by omega);obtain⟨a,ha⟩:∃a,a=z.natAbs:=⟨_,rfl⟩;obtain⟨q,hq⟩:∃q:Nat,q=if z=0 then 0 else kE z.natAbs:=⟨_,rfl⟩
 rw[←hq]at b;have Sy:zs z=false:=dz.2 h0;have hal:nl a<2^38:=by rw[ha];exact hz
 have Tc:a<2^q∧q≤32*nl a:=by
  rw[hq]
  by_cases h:z=0
  ·rw[if_pos h,ha,h];exact⟨by decide,Nat.zero_le _⟩
  rw[if_neg h,←ha];exact⟨Dq (by omega),xg (by omega)⟩
 obtain⟨n,hn⟩:∃n,n=(q+1)/2:=⟨_,rfl⟩;have w1:=wI q (by omega);have w2:IntKind.i64.wrap (((q+1:Nat):Int).tdiv 2)=(n:Int):=by rw[Int.tdiv_eq_ediv_of_nonneg (by omega),IntWalk.i64_in _ (by omega)];omega
 have w3:IntKind.i64.wrap ((n:Int).tdiv 32)=((n/32:Nat):Int):=by rw[Int.tdiv_eq_ediv_of_nonneg (by omega),IntWalk.i64_in _ (by omega)];omega
 have w4:IntKind.i64.wrap (((n/32:Nat):Int)+1)=((n/32+1:Nat):Int):=by rw[IntWalk.i64_in _ (by omega)];omega
 have w5:IntKind.i64.wrap ((n:Int)-1)=(n:Int)-1:=by rw[IntWalk.i64_in _ (by omega)]
 have hini:a<2^n*2^n:=by
  rw[←Nat.pow_add];exact Nat.lt_of_lt_of_le Tc.1 (Nat.pow_le_pow_right (by decide) (by omega))
 have hK:2^n<BB^(n/32+1):=by rw[qc];exact Nat.pow_lt_pow_right (by decide) (by omega)
 obtain⟨K,hKe⟩:∃K,K=n/32+1:=⟨_,rfl⟩;rw[←hKe]at hK w4;have er:(List.replicate K (0:Int))=iE K 0:=rh (bL.replicate _) (by simp) (cM _);have b:Pr prog 215 [.agg [.bool false,.ints .u32 (zm z)]] (.one (.int .i64 q)):=by
  have b:=b;unfold ZV at b;rw[Sy]at b;exact b
 refine pw func190 ⟨[0,1,2,3,4,5,6,10,23,47],[(10,(.cons 1 [2,5,6] (.cons 3 [5,6] (.cons 4 [5,6] (.cons 7 [] (.cons 8 [] .nil .nil) .nil) .nil) .nil) .nil))]⟩ ?_;simp only[Tryz.f190,ntmps190,iz,seval];simp only[vx,T,seval,ZV];refine Cg c ?_;simp only[vx,T,seval,ZV,Sy];refine Cg b ?_;simp only[vx,T,seval,ZV,w1,w2,w3,w4,w5,Int.toNat_natCast];refine⟨⟨by omega,by omega,by omega,by omega⟩,Lk (fun y:{y:Nat×Nat//Gz a n y.1 y.2}=>⟨[(1,.one (.ptr 1 0)),(2,.one (.ptr 2 0)),(3,.one (.int .i64 0)),(5,.one (.own 3 1 0 K)),(6,.one (.int .i64 ((y.1.1:Int)-1)))],[(1,⟨.var [.bool false,.ints .u32 (zm z)],true⟩),(2,⟨.var [.bool false,.nil],true⟩),(3,⟨.ints 151 .u32 (iE K y.1.2),true⟩)],4,63⟩) (fun y=>y.1.1) ⟨(n,0),.init hini⟩ ?_ (fun⟨⟨i,r⟩,hI⟩=>?_)⟩
 ·refine Sa ?_;simp only[ry,seval,rz,ZV,er]
 simp only;have hle:=hI.le;simp only at hle;simp only[vx,T,seval,ZV];refine⟨fun g=>Lg ?_,fun g=>Lg ?_⟩
 ·obtain⟨k,rfl⟩:∃k,i=k+1:=⟨i-1,by omega⟩;have e6:(((k+1:Nat):Int)-1)=(k:Int):=by omega
  have Ru:=hI.lt;have hd:=hI.d;simp only at Ru hd;have Tp:2^(k+1)=2^k+2^k:=by rw[Nat.pow_succ];omega
  have hpk:=Nat.two_pow_pos k;obtain⟨w,k1,k2,k3,k4,k5,k6,k7,k8⟩:=KS (k:=K) (r:=r) (i:=k) (by omega) (by omega) hd;have v1:IntKind.i64.wrap ((k:Int).tdiv 32)=((k/32:Nat):Int):=by rw[Int.tdiv_eq_ediv_of_nonneg (by omega),IntWalk.i64_in _ (by omega)];omega
  have v2:(k:Int).tmod 32=((k%32:Nat):Int):=rfl;have v3:IntKind.u32.wrap (1*2^(if k%32≤32 then k%32 else 32))=((2^(k%32):Nat):Int):=by
   have e:(2:Int)^(k%32)=((2^(k%32):Nat):Int):=by rw[Int.natCast_pow];rfl
   have hw:2^(k%32)<2^32:=Nat.pow_lt_pow_right (by decide) (Nat.mod_lt _ (by decide));rw[if_pos (by omega),Int.one_mul,e]
   generalize 2^(k%32)=m at hw
   rw[IntWalk.u32_in _ (by omega)]
  have v4:IntKind.i64.wrap ((k:Int)-1)=(k:Int)-1:=by rw[IntWalk.i64_in _ (by omega)]
  have U8:r+2^k<BB^K:=by omega
  have Sn:=aM K (r+2^k);have Z4:=aM K r;have hvd:val ((iE K (r+2^k)).take K)=r+2^k:=by rw[dC,jO,Nat.mod_eq_of_lt U8]
  have XK:nl (r+2^k)≤K:=aD U8;have tm:=mK (iE K (r+2^k)) 0 K (gk _ _) (by rw[Sn];omega) (by rw[Sn];omega);rw[List.drop_zero,hvd]at tm;have xm:=yc K (r+2^k) U8 XK (by omega);have hsq:nl ((r+2^k)*(r+2^k))<2^62:=by
   have:=iU (r+2^k) (r+2^k)
   omega
  have cp:=fD ((r+2^k)*(r+2^k)) a hsq (by omega);have ea:zm z=aj a:=by rw[ha];rfl
  rw[ea];simp only[vx,T,seval,ZV,e6,v1,v2,v3,v4,k3,k4,k5,Z4,Int.toNat_natCast];refine⟨⟨by omega,by omega⟩,by omega,⟨by omega,by omega⟩,Cm 3 (B:=.ints 151 .u32 (iE K (r+2^k))) rfl trivial tm ?_⟩;rintro _ _ ⟨rfl,rfl⟩ _;simp only[vx,T,seval,ZV,v1,v2,v3,v4,Sn,Int.toNat_natCast];refine Cm 3 (B:=.ints 151 .u32 (iE K (r+2^k))) rfl trivial tm ?_;rintro _ _ ⟨rfl,rfl⟩ _;simp only[vx,T,seval,ZV,v1,v2,v3,v4,Sn,Int.toNat_natCast];refine Cm 3 (B:=.ints 151 .u32 (iE K (r+2^k))) rfl trivial xm ?_;rintro _ _ ⟨rfl,rfl⟩ _;simp only[vx,T,seval,ZV,v1,v2,v3,v4,Sn,Int.toNat_natCast];refine Cg cp ?_;simp only[vx,T,seval,ZV,v1,v2,v3,v4,Sn,Int.toNat_natCast];refine⟨fun g2=>Lg ?_,fun g2=>Lg ?_⟩
  ·have hgt:a<(r+2^k)*(r+2^k):=by
    unfold eL at g2
    generalize(r+2^k)*(r+2^k)=m at g2⊢
    (repeat' split at g2)<;>omega
   simp only[vx,T,seval,ZV,v1,v2,v3,v4,k6,k7,k8,Sn,Int.toNat_natCast];refine⟨⟨by omega,by omega⟩,by omega,⟨by omega,by omega⟩,Lq ⟨(k,r),hI.stay hgt⟩ ?_ (by show k<k+1;omega)⟩;refine Sa ?_;simp only[ry,seval,rz,ZV,ea]
  have hle2:(r+2^k)*(r+2^k)≤a:=by
   unfold eL at g2
   generalize(r+2^k)*(r+2^k)=m at g2⊢
   (repeat' split at g2)<;>omega
  simp only[vx,T,seval,ZV,v1,v2,v3,v4,Sn,Int.toNat_natCast];refine Lq ⟨(k,r+2^k),hI.up hle2⟩ ?_ (by show k<k+1;omega);refine Sa ?_;simp only[ry,seval,rz,ZV,ea]
 have Wa:i=0:=by omega
 subst Wa;have hr:=hI.done;simp only at hr;have Z4:=aM K r;have hrK:r<BB^K:=by
  have:=hI.lt
  simp only at this;omega
 have sg:=pN false (iE K r) (gk _ _) (by rw[Z4];omega);rw[jO,Nat.mod_eq_of_lt hrK,Bool.false_and]at sg;have tk:=dC K r;have e7:zs ((cJ z.natAbs:Nat):Int)=false:=dz.2 (by omega);have e8:zm ((cJ z.natAbs:Nat):Int)=aj r:=by rw[hr,ha];rfl
 simp only[vx,T,seval,ZV,Z4,tk];refine Cg sg ?_;simp only[vx,T,seval,ZV,e7,e8];exact Ve rfl
open Go Go.Eng
theorem ne_false_iff {z w:Int}(h:zs z≠zs w∨zn z≠zn w):decide (z=w)=false:=by
 refine decide_eq_false ?_;rintro rfl
 rcases h with h|h<;>exact h rfl
theorem n8 (z w:Int)(hz:zn z<2^44)(hw:zn w<2^44):Pr prog 191 [ZV z,ZV w] (.one (.bool (decide (z=w)))):=by
 refine pw func191 ⟨[0,1,2,3,4,5,19,24,37],[]⟩ ?_;simp only[Tryz.f191,ntmps191,iz,seval];simp only[vx,T,seval,ZV];refine⟨fun h1=>Lg ?_,fun h1=>Lg ?_⟩
 ·have hb:=ne_false_iff (z:=z) (w:=w) (.inl (by simpa using h1));simp only[vx,T,seval,ZV];exact vb hb.symm
 have h1:zs z=zs w:=by simpa using h1
 simp only[vx,T,seval,ZV];refine⟨fun h2=>Lg ?_,fun h2=>Lg ?_⟩
 ·rw[aT,aT]at h2;have hb:=ne_false_iff (z:=z) (w:=w) (.inr (by omega));simp only[vx,T,seval,ZV];exact vb hb.symm
 rw[aT,aT]at h2;have Yd:zn z=zn w:=by omega
 simp only[vx,T,seval,ZV];refine Lk (fun y:{i:Nat//i≤zn z∧z.natAbs%BB^i=w.natAbs%BB^i}=>⟨[(2,.one (.ptr 1 0)),(3,.one (.ptr 2 0)),(4,.one (.bool false)),(5,.one (.int .i64 y.1))],[(1,⟨.var [.bool (zs z),.ints .u32 (zm z)],true⟩),(2,⟨.var [.bool (zs w),.ints .u32 (zm w)],true⟩)],3,38⟩) (fun y=>zn z-y.1) ⟨0,by omega,by rw[Nat.pow_zero,Nat.mod_one,Nat.mod_one]⟩ ?_ (fun⟨i,hi,he⟩=>?_)
 ·refine Sa ?_;simp only[ry,seval,rz]
 simp only[vx,T,seval,aT];refine⟨fun h3=>Lg ?_,fun h3=>Lg ?_⟩
 ·have g1:(zm z).getD i 0=((z.natAbs/BB^i%BB:Nat):Int):=lG _ _;have g2:(zm w).getD i 0=((w.natAbs/BB^i%BB:Nat):Int):=lG _ _;have i1:=wI i (by omega);simp only[vx,T,seval,aT];simp only[Int.toNat_natCast,g1,g2];refine⟨by omega,by omega,?_⟩;refine⟨fun h4=>Lg ?_,fun h4=>Lg ?_⟩
  ·have hb:decide (z=w)=false:=decide_eq_false (by rintro rfl;exact h4 rfl);simp only[vx,T,seval,ZV];exact vb hb.symm
  simp only[vx,T,seval,ZV];simp only[i1];refine Lq ⟨i+1,by omega,?_⟩ ?_ ?_
  ·rw[kx,kx,he,show z.natAbs/BB^i%BB=w.natAbs/BB^i%BB by omega]
  ·refine Sa ?_;simp only[ry,seval,rz,ZV]
  simp only;omega
 simp only[vx,T,seval,ZV];have SQ:i=zn z:=by omega
 refine vb (decide_eq_true ?_).symm;have e1:z.natAbs%BB^i=z.natAbs:=Nat.mod_eq_of_lt (by rw[SQ];exact cF _);have e2:w.natAbs%BB^i=w.natAbs:=Nat.mod_eq_of_lt (by rw[SQ,Yd];exact cF _);rw[e1,e2]at he;rw[←b9 z,←b9 w,h1,he]
open Go Go.Eng
theorem It {x:Rat}(h0:0<x.num):(x⁻¹).num=(x.den:Int)∧((x⁻¹).den:Int)=x.num:=by
 obtain⟨d,hd⟩:∃d:Nat,x.num=d:=⟨x.num.toNat,by omega⟩;have hc:(x.den:Int).natAbs.Coprime d:=by
  have:=x.reduced
  rw[hd]at this;exact this.symm
 obtain⟨r0,SZ⟩:∃r0:Rat,r0=⟨(x.den:Int),d,by omega,hc⟩:=⟨_,rfl⟩;have e1:r0.num=(x.den:Int):=by rw[SZ]
 have e2:r0.den=d:=by rw[SZ]
 have e3:mkRat x.den d=r0:=by rw[←e1,←e2];exact Rat.mkRat_self r0
 rw[inv_pos hd,e3,e1,e2,hd];exact⟨rfl,rfl⟩
theorem GI {x:Rat}(h0:x.num<0):(x⁻¹).num= -(x.den:Int)∧((x⁻¹).den:Int)= -x.num:=by
 obtain⟨d,hd⟩:∃d:Nat,x.num= -(d:Int):=⟨(-x.num).toNat,by omega⟩;have hc:(-(x.den:Int)).natAbs.Coprime d:=by
  have:=x.reduced
  rw[hd,Int.natAbs_neg]at this;rw[Int.natAbs_neg];exact this.symm
 obtain⟨r0,SZ⟩:∃r0:Rat,r0=⟨-(x.den:Int),d,by omega,hc⟩:=⟨_,rfl⟩;have e1:r0.num= -(x.den:Int):=by rw[SZ]
 have e2:r0.den=d:=by rw[SZ]
 have e3:mkRat (-(x.den:Int)) d=r0:=by rw[←e1,←e2];exact Rat.mkRat_self r0
 rw[inv_neg hd,e3,e1,e2,hd];exact⟨rfl,by omega⟩
theorem Bl (x:Rat)(hx:qm x<2^40)(h0:x≠0):Pr prog 97 [QV x] (QV x⁻¹):=by
 have hn:x.num≠0:=fun h=>h0 (Rat.num_eq_zero.1 h);unfold qm at hx;have n1:=nE (x.den:Int) (by rw[aC];omega);have n2:=nE x.num (by omega)
 by_cases hp:0<x.num
 ·have hz:zs x.num=false:=dz.2 (by omega);obtain⟨e1,e2⟩:=It hp;have e:=II e1 e2;unfold QV;rw[e];refine pw func97 ⟨[0,1,2,5],[]⟩ ?_;simp only[Tryz.f97,ntmps97,iz,seval];simp only[vx,T,seval,QC];refine⟨fun h=>(by rw[hz]at h;cases h),fun _=>Lg ?_⟩;simp only[vx,T,seval,QC];exact Ve rfl
 have hz:zs x.num=true:=lF.2 (by omega);obtain⟨e1,e2⟩:=GI (by omega:x.num<0);have e:=II e1 e2;unfold QV;rw[e];refine pw func97 ⟨[0,1,2,5],[]⟩ ?_;simp only[Tryz.f97,ntmps97,iz,seval];simp only[vx,T,seval,QC];refine⟨fun _=>Lg ?_,fun h=>(by rw[hz]at h;cases h)⟩;simp only[vx,T,seval,QC];refine Cg n1 ?_;simp only[vx,T,seval,QC,ZV];refine Cg n2 ?_;simp only[vx,T,seval,QC,ZV];exact Ve rfl
theorem AR (n:Int)(d:Nat)(hn:zn n<2^40)(hd:nl d<2^40)(h0:0<d):Pr prog 52 [ZV n,ZV (d:Int)] (QV (mkRat n d)):=by
 have hg:(0:Int)<(Int.gcd n d:Nat):=by have:=yt (n:=n) h0;omega
 have Yi:zn (Int.gcd n d)≤nl d:=rM (b:=(d:Int)) (by
  have:=Nat.gcd_le_right n.natAbs (show 0<(d:Int).natAbs by omega)
  exact this)
 have c:=eC n (d:Int) (by omega) (by rw[aC];omega);have s:=gF (d:Int) (by rw[aC];omega);rw[show bQ (d:Int)=1 by unfold bQ;rw[if_neg (by omega),if_neg (by omega)]]at s;have q1:=bE n (Int.gcd n d) (by omega) (by omega) (by omega);have q2:=bE d (Int.gcd n d) (by rw[aC];omega) (by omega) (by omega);rw[xw h0]at q1;rw[xy h0]at q2;refine pw func52 ⟨[0,1,2,3,4,5,11],[]⟩ ?_;simp only[Tryz.f52,ntmps52,iz,seval];simp only[vx,T,seval,ZV];refine Cg c ?_;simp only[vx,T,seval,ZV];refine Cg s ?_;simp only[vx,T,seval,ZV];refine Cg q1 ?_;simp only[vx,T,seval,ZV];refine Cg q2 ?_;simp only[vx,T,seval,ZV];refine Va ?_;simp only[cV,aW,ry,seval,QV,QC]
theorem om (n:Int)(d:Nat)(hn: -9223372036854775808≤n∧n≤9223372036854775807)(hd:d≤9223372036854775807)(h0:0<d)(k1:zn n<2^39)(k2:nl d<2^39):
  Pr prog 22 [.one (.int .i64 n),.one (.int .i64 d)] (QV (mkRat n d)):=by
 have c1:=fC n hn.1 hn.2;have c2:=fC (d:Int) (by omega) (by omega);have m:=AR n d (by omega) (by omega) h0;refine pw func22 ⟨[0,1,4,6],[]⟩ ?_;simp only[Tryz.f22,ntmps22,iz,seval];simp only[vx,T,seval,ZV];refine⟨fun h=>absurd h (by omega),fun _=>Lg ?_⟩;simp only[vx,T,seval,ZV];refine Cg c1 ?_;simp only[vx,T,seval,ZV];refine Cg c2 ?_;simp only[vx,T,seval,ZV];refine Cg m ?_;simp only[vx,T,seval,ZV,QV,QC];exact Ve rfl
def Ng (a b:Rat):Int:=bQ (a.num*b.den-b.num*a.den)
theorem vN {a b:Rat}:Ng a b=0↔a=b:=by
 unfold Ng
 have e:bQ (a.num*b.den-b.num*a.den)=0↔a.num*b.den-b.num*a.den=0:=by unfold bQ;(repeat' split)<;>omega
 rw[e]
 constructor
 ·intro h;have h2:a.num*b.den=b.num*a.den:=by omega
  rw[←Rat.mkRat_self a,←Rat.mkRat_self b];exact(Rat.mkRat_eq_iff a.den_nz b.den_nz).2 h2
 rintro rfl;omega
theorem Co (a b:Rat)(ha:qm a<2^38)(hb:qm b<2^38):Pr prog 193 [QV a,QV b] (.one (.int .i64 (Ng a b))):=by
 have na:zn a.num<2^38∧nl a.den<2^38:=by unfold qm at ha;omega
 have nb:zn b.num<2^38∧nl b.den<2^38:=by unfold qm at hb;omega
 have ma:=bp a.num (b.den:Int) (by omega) (by rw[aC];omega);have mb:=bp b.num (a.den:Int) (by omega) (by rw[aC];omega);have e1:=cQ a.num (b.den:Int);have e2:=cQ b.num (a.den:Int);rw[aC]at e1 e2;have cc:=ET (a.num*b.den) (b.num*a.den) (by omega) (by omega);refine pw func193 ⟨[0,1,2,3,4],[]⟩ ?_;simp only[Tryz.f193,ntmps193,iz,seval];simp only[vx,T,seval,QV,QC];refine Cg ma ?_;simp only[vx,T,seval,ZV];refine Cg mb ?_;simp only[vx,T,seval,ZV];refine Cg cc ?_;simp only[vx,T,seval,ZV];exact Ve rfl
theorem NI {x:Rat}(h:zu x=none)(h0:0≤x.num):cJ x.num.natAbs*cJ x.num.natAbs≠x.num.natAbs∨cJ x.den*cJ x.den≠x.den:=by
 unfold zu at h
 split at h
 ·cases h
 rename_i hc
 by_cases k1:cJ x.num.natAbs*cJ x.num.natAbs=x.num.natAbs
 ·by_cases k2:cJ x.den*cJ x.den=x.den
  ·exact absurd ⟨h0,k1,k2⟩ hc
  exact .inr k2
 exact .inl k1
theorem Af (x:Rat)(hx:qm x<2^38):Pr prog 155 [QV x] (match zu x with
  |some r=>.aF [QV r,.one (.bool true)]
  |none=>.aF [.agg [.bool false,.nil,.bool false,.nil],.one (.bool false)]):=by
 have hx':=hx;unfold qm at hx'
 by_cases h0:0≤x.num
 ·have hz:zs x.num=false:=dz.2 h0;have s1:=tU x.num h0 (by omega);have s2:=tU (x.den:Int) (by omega) (by rw[aC];omega);rw[Int.natAbs_natCast]at s2;have l1:nl (cJ x.num.natAbs)≤zn x.num:=bg (Bm _);have l2:nl (cJ x.den)≤nl x.den:=bg (Bm _);have m1:=bp (cJ x.num.natAbs:Nat) (cJ x.num.natAbs:Nat) (by rw[aC];omega) (by rw[aC];omega);have m2:=bp (cJ x.den:Nat) (cJ x.den:Nat) (by rw[aC];omega) (by rw[aC];omega);have e1:=cQ (cJ x.num.natAbs:Nat) (cJ x.num.natAbs:Nat);have e2:=cQ (cJ x.den:Nat) (cJ x.den:Nat);rw[aC]at e1 e2;have t1:=n8 (((cJ x.num.natAbs:Nat):Int)*(cJ x.num.natAbs:Nat)) x.num (by omega) (by omega);have t2:=n8 (((cJ x.den:Nat):Int)*(cJ x.den:Nat)) (x.den:Int) (by omega) (by rw[aC];omega);have q1:(((cJ x.num.natAbs:Nat):Int)*(cJ x.num.natAbs:Nat)=x.num)↔cJ x.num.natAbs*cJ x.num.natAbs=x.num.natAbs:=by
   rw[←Int.natCast_mul]
   generalize cJ x.num.natAbs*cJ x.num.natAbs=m
   omega
  have q2:(((cJ x.den:Nat):Int)*(cJ x.den:Nat)=(x.den:Int))↔cJ x.den*cJ x.den=x.den:=by
   rw[←Int.natCast_mul]
   generalize cJ x.den*cJ x.den=m
   omega
  cases hq:zu x with
  |some r=>
   obtain⟨_,_,k1,k2,k3,k4⟩:=pQ hq;rw[decide_eq_true (q1.2 k1)]at t1;rw[decide_eq_true (q2.2 k2)]at t2;have er:=II k3 (show(r.den:Int)=(cJ x.den:Nat) by rw[k4]);simp only;rw[show QV r= .agg _ from congrArg V.agg er];refine pw func155 ⟨[0,1,2,3,4,6,10,39],[]⟩ ?_;simp only[Tryz.f155,ntmps155,iz,seval];simp only[vx,T,seval,QV,QC];refine⟨fun h=>(by rw[hz]at h;cases h),fun _=>Lg ?_⟩;simp only[vx,T,seval,QV,QC];refine Cg s1 ?_;simp only[vx,T,seval,QV,QC,ZV];refine Cg s2 ?_;simp only[vx,T,seval,QV,QC,ZV];refine Cg m1 ?_;simp only[vx,T,seval,QV,QC,ZV];refine Cg t1 ?_;simp only[vx,T,seval,QV,QC,ZV];refine Cg m2 ?_;simp only[vx,T,seval,QV,QC,ZV];refine Cg t2 ?_;simp only[vx,T,seval,QV,ZV];exact Ve rfl
  |none=>
   simp only
   by_cases k1:cJ x.num.natAbs*cJ x.num.natAbs=x.num.natAbs
   ·have k2:=(NI hq h0).resolve_left fun h=>h k1;rw[decide_eq_true (q1.2 k1)]at t1;rw[decide_eq_false fun h=>k2 (q2.1 h)]at t2;refine pw func155 ⟨[0,1,2,3,4,6,10,39],[]⟩ ?_;simp only[Tryz.f155,ntmps155,iz,seval];simp only[vx,T,seval,QV,QC];refine⟨fun h=>(by rw[hz]at h;cases h),fun _=>Lg ?_⟩;simp only[vx,T,seval,QV,QC];refine Cg s1 ?_;simp only[vx,T,seval,QV,QC,ZV];refine Cg s2 ?_;simp only[vx,T,seval,QV,QC,ZV];refine Cg m1 ?_;simp only[vx,T,seval,QV,QC,ZV];refine Cg t1 ?_;simp only[vx,T,seval,QV,QC,ZV];refine Cg m2 ?_;simp only[vx,T,seval,QV,QC,ZV];refine Cg t2 ?_;simp only[vx,T,seval,QV,ZV];exact Ve rfl
   rw[decide_eq_false fun h=>k1 (q1.1 h)]at t1;refine pw func155 ⟨[0,1,2,3,4,6,10,39],[]⟩ ?_;simp only[Tryz.f155,ntmps155,iz,seval];simp only[vx,T,seval,QV,QC];refine⟨fun h=>(by rw[hz]at h;cases h),fun _=>Lg ?_⟩;simp only[vx,T,seval,QV,QC];refine Cg s1 ?_;simp only[vx,T,seval,QV,QC,ZV];refine Cg s2 ?_;simp only[vx,T,seval,QV,QC,ZV];refine Cg m1 ?_;simp only[vx,T,seval,QV,QC,ZV];refine Cg t1 ?_;simp only[vx,T,seval,QV,QC,ZV];exact Ve rfl
 have hz:zs x.num=true:=lF.2 (by omega);have hq:zu x=none:=by unfold zu;rw[if_neg fun h=>h0 h.1]
 rw[hq];refine pw func155 ⟨[0,1,2,3,4,6,10,39],[]⟩ ?_;simp only[Tryz.f155,ntmps155,iz,seval];simp only[vx,T,seval,QV,QC];refine⟨fun _=>Lg ?_,fun h=>(by rw[hz]at h;cases h)⟩;simp only[vx,T,seval,QV,QC];exact Ve rfl
open Go Go.Eng
open Go.Tw (El aB aJ zE ai ar aq ao ae QB mS ah ag aP aI tB aX aG dI)
theorem AO (q:Rat)(hq:qm q<2^40):Pr prog 100 [QV q] (QV (-q)):=by
 have c:=nE q.num (by unfold qm at hq;omega);refine pw func100 ⟨[0,1,2],[]⟩ ?_;simp only[Tryz.f100,ntmps100,iz,seval];simp only[vx,T,seval,QV,QC];refine Cg c ?_;simp only[vx,T,seval,ZV];exact Ve rfl
theorem Df {ks:El}{k:Nat}(hk:ks.length=k)(q:Rat):∀(i j:Nat),i<k+1→j<4→
  (if i<k then fQ ks i j else[C.bool (zs q.num),C.ints .u32 (zm q.num),C.bool (zs (q.den:Int)),C.ints .u32 (zm (q.den:Int))].getD ((i-k)*4+j) C.any)=fQ (ks++[q]) i j:=by
 subst hk;intro i j hi hj
 by_cases h:i<ks.length
 ·rw[if_pos h];unfold fQ;rw[X7,X7,List.getElem?_append_left h]
 have:i=ks.length:=by omega
 subst this;rw[if_neg h,Nat.sub_self,Nat.zero_mul,Nat.zero_add];exact dx q (by rw[X7,List.getElem?_append_right (Nat.le_refl _),Nat.sub_self];rfl) j
theorem take_add {a b:El}{i:Nat}(h:i<a.length)(Tq:b.length=a.length):(aB a b).take (i+1)=(aB a b).take i++[a.getD i default+b.getD i default]:=by
 rw[eY h,eY (by omega:i<b.length),List.take_add_one];show _++(List.zipWith (· + ·) a b)[i]?.toList=_;rw[List.getElem?_zipWith,X8 h,X8 (by omega:i<b.length)];rfl
theorem H8 {a:El}{i:Nat}(h:i<a.length):(aJ a).take (i+1)=(aJ a).take i++[-(a.getD i default)]:=by
 rw[eY h,List.take_add_one];show _++(List.map (- ·) a)[i]?.toList=_;rw[List.getElem?_map,X8 h];rfl
theorem s9 {h:Nat}{t:List El}(a b:El)(hl:a.length<2^30)(Tq:b.length=a.length)(Tc:Qk a)(S8:Qk b):Fr prog 57 [tV h t,eV a,eV b] (.rows 62 4 (aB a b).length (fQ (aB a b))):=by
 have hlen:(aB a b).length=a.length:=by unfold aB;rw[List.length_zipWith];omega
 refine fw func57 ⟨[1,2,6,7,8,12],[]⟩ ?_;simp only[Tryz.f57,ntmps57,iz,seval];simp only[vx,T,seval,eV,aa];refine Lk (fun y:{i:Nat//i≤a.length}=>⟨[(1,eV a),(2,eV b),(6,.one .nil),(7,.one (.own 1 4 0 y.1)),(8,.one (.int .i64 y.1))],[(1,⟨.rows 62 4 y.1 (fQ ((aB a b).take y.1)),true⟩)],2,28⟩) (fun y=>a.length-y.1) ⟨0,Nat.zero_le _⟩ ?_ (fun⟨i,hi⟩=>?_)
 ·refine Sa ?_;simp only[ry,seval,rz,eV,aa]
 have i1:=wI i (by omega);simp only[vx,T,seval,eV,aa];refine⟨fun h1=>Lg ?_,fun h1=>Lg ?_⟩
 ·have RG:i<a.length:=by omega
  have Uw:=Tc.get i;have V1:=S8.get i;have RM:=take_add RG Tq;obtain⟨x,hx⟩:∃x,x=a.getD i default:=⟨_,rfl⟩;obtain⟨y,hy⟩:∃y,y=b.getD i default:=⟨_,rfl⟩;rw[←hx]at Uw;rw[←hy]at V1;rw[←hx,←hy]at RM;simp only[vx,T,seval,eV,aa,←hx,←hy,qC];refine⟨by omega,by omega,Cg (Cd x y Uw V1) ?_⟩;simp only[vx,T,seval,QV,QC];simp only[i1];refine⟨⟨by omega,by omega⟩,Lq ⟨i+1,by omega⟩ ?_ ?_⟩
  ·refine Sa ?_;simp only[ry,seval,rz,eV,aa];rw[RM];exact Df (by rw[X5];omega) (x+y)
  simp only;omega
 have RG:i=a.length:=by omega
 subst RG;have e:(aB a b).take a.length=aB a b:=by rw[←hlen,List.take_length]
 simp only[vx,T,seval,e];exact⟨hlen.symm,rfl,hlen.symm,fun _ _ _ _=>rfl⟩
theorem zd {h:Nat}{t:List El}(a:El)(hl:a.length<2^30)(Tc:Qk a):Fr prog 60 [tV h t,eV a] (.rows 62 4 (aJ a).length (fQ (aJ a))):=by
 have hlen:(aJ a).length=a.length:=by unfold Go.Tw.aJ;rw[List.length_map]
 refine fw func60 ⟨[1,4,5,6,10],[]⟩ ?_;simp only[Tryz.f60,ntmps60,iz,seval];simp only[vx,T,seval,eV,aa];refine Lk (fun y:{i:Nat//i≤a.length}=>⟨[(1,eV a),(4,.one .nil),(5,.one (.own 1 4 0 y.1)),(6,.one (.int .i64 y.1))],[(1,⟨.rows 62 4 y.1 (fQ ((aJ a).take y.1)),true⟩)],2,22⟩) (fun y=>a.length-y.1) ⟨0,Nat.zero_le _⟩ ?_ (fun⟨i,hi⟩=>?_)
 ·refine Sa ?_;simp only[ry,seval,rz,eV,aa]
 have i1:=wI i (by omega);simp only[vx,T,seval,eV,aa];refine⟨fun h1=>Lg ?_,fun h1=>Lg ?_⟩
 ·have RG:i<a.length:=by omega
  have Uw:=Tc.get i;have RM:=H8 RG;obtain⟨x,hx⟩:∃x,x=a.getD i default:=⟨_,rfl⟩;rw[←hx]at Uw;rw[←hx]at RM;simp only[vx,T,seval,eV,aa,←hx,qC];refine⟨by omega,Cg (AO x (by omega)) ?_⟩;simp only[vx,T,seval,QV,QC];simp only[i1];refine⟨⟨by omega,by omega⟩,Lq ⟨i+1,by omega⟩ ?_ ?_⟩
  ·refine Sa ?_;simp only[ry,seval,rz,eV,aa];rw[RM];exact Df (by rw[X5];omega) (-x)
  simp only;omega
 have RG:i=a.length:=by omega
 subst RG;have e:(aJ a).take a.length=aJ a:=by rw[←hlen,List.take_length]
 simp only[vx,T,seval,e];exact⟨hlen.symm,rfl,hlen.symm,fun _ _ _ _=>rfl⟩
theorem IG {h:Nat}{t:List El}(a b:El)(hl:a.length<2^30)(Tq:b.length=a.length)(Tc:Qk a)(S8:Qk b):Fr prog 134 [tV h t,eV a,eV b] (.rows 62 4 (aB a (aJ b)).length (fQ (aB a (aJ b)))):=by
 have W4:Qk (aJ b):=fun x hx=>by
  obtain⟨y,hy,rfl⟩:=List.mem_map.1 hx;rw[Go.Tw.AS];exact S8 y hy
 have n:=(zd (h:=h) (t:=t) b (by omega) S8).rows;have s:=s9 (h:=h) (t:=t) a (aJ b) hl (by rw[aq];exact Tq) Tc W4;refine fw func134 ⟨[0,1,2,6],[]⟩ ?_;simp only[Tryz.f134,ntmps134,iz,seval];simp only[vx,T,seval,tV,tC,eV,aa];refine Cg n ?_;simp only[vx,T,seval,tV,tC,eV,aa];refine cH.fresh s ?_;simp only[vx,T,seval,tV,tC,eV,aa];exact⟨rfl,rfl,fun _ _ _ _=>rfl⟩
theorem Cj {x:Rat}:(0:Int)<((zm x.num).length:Nat)↔x≠0:=by
 rw[aT];have h:zn x.num=0↔x.num=0:=dW;have h2:x.num=0↔x=0:=Rat.num_eq_zero
 constructor
 ·intro k e
  have:=h.2 (h2.2 e)
  omega
 intro k
 have:¬zn x.num=0:=fun e=>k (h2.1 (h.1 e))
 omega
theorem Dt {a:El}:a=zE a.length↔∀i,i<a.length→a.getD i default=0:=by
 constructor
 ·intro h i hi;rw[h];unfold zE;rw[X7,List.getElem?_replicate]
  split<;>rfl
 intro h;refine List.ext_getElem (by rw[ar]) fun i h1 h2=>?_
 have:=h i h1
 rw[eY h1]at this;rw[this];exact(List.eq_of_mem_replicate (List.getElem_mem h2)).symm
theorem jx (a:El)(hl:a.length<2^38):Pr prog 87 [eV a] (.one (.bool (decide (a=zE a.length)))):=by
 refine pw func87 ⟨[0,2,3,7,17],[]⟩ ?_;simp only[Tryz.f87,ntmps87,iz,seval];simp only[vx,T,seval,eV,aa];refine Lk (fun y:{i:Nat//i≤a.length∧∀j,j<i→a.getD j default=0}=>⟨[(0,eV a),(2,.one (.bool false)),(3,.one (.int .i64 y.1))],[],1,18⟩) (fun y=>a.length-y.1) ⟨0,Nat.zero_le _,fun j hj=>absurd hj (Nat.not_lt_zero _)⟩ ?_ (fun⟨i,hi,hz⟩=>?_)
 ·refine Sa ?_;simp only[ry,seval,rz,eV,aa]
 have i1:=wI i (by omega);simp only[vx,T,seval,eV,aa];refine⟨fun h1=>Lg ?_,fun h1=>Lg ?_⟩
 ·have RG:i<a.length:=by omega
  have key:a.getD i default≠0→(decide (a=zE a.length))=false:=fun h=>decide_eq_false fun e=>h (Dt.1 e i RG);have So:∀x,x=a.getD i default→x=0→∀j,j<i+1→a.getD j default=0:=fun x hx h0 j hj=>by
   by_cases Th:j<i
   ·exact hz j Th
   obtain rfl:j=i:=by omega
   rw[←hx,h0]
  obtain⟨x,hx⟩:∃x,x=a.getD i default:=⟨_,rfl⟩;rw[←hx]at key;simp only[vx,T,seval,eV,aa,←hx,qC];refine⟨by omega,fun g=>Lg ?_,fun g=>Lg ?_⟩
  ·rw[key (Cj.1 g)];simp only[vx,T,seval,eV,aa];exact Ve rfl
  have h0:x=0:=Classical.byContradiction fun h=>g (Cj.2 h);simp only[vx,T,seval,eV,aa,i1];refine Lq ⟨i+1,by omega,So x hx h0⟩ ?_ (by show a.length-(i+1)<a.length-i;omega);refine Sa ?_;simp only[ry,seval,rz,eV,aa]
 have RG:i=a.length:=by omega
 subst RG;rw[decide_eq_true (Dt.2 hz)];simp only[vx,T,seval,eV,aa];exact Ve rfl
end Go.Proofs.YthnkehdgnagmnaaGreat
namespace Go.Tw
open Go Go.R Go.Eng
section
variable {A:List R}
def qF (F β μ:Nat):Nat:=2^F*(β+μ*uL F+cW)/32+1
theorem Ja {F β μ β' μ':Nat}(h1:β≤β')(h2:μ≤μ'):qF F β μ≤qF F β' μ':=by
 unfold qF;have h3:μ*uL F≤μ'*uL F:=Nat.mul_le_mul_right _ h2;have h4:2^F*(β+μ*uL F+cW)≤2^F*(β'+μ'*uL F+cW):=Nat.mul_le_mul_left _ (by omega);omega
theorem ax.QM (S:Src 64 A)(hA:A.length≤3){t:List El}{a:El}{x:R}{β μ F:Nat}(h:ax A t a x β μ)(I:PW A F):QB (qF F β μ) a:=by
 obtain⟨F',I',z,w,d,E,hx⟩:=h.tg.Cf S hA;obtain rfl:=I.eq I'
 refine(E.qb h.len (hx h.in h.val h.sz)).mono ?_
 have h1:=I.mx _ h.tg;have e1:2^t.length*2^(F-t.length)=2^F:=by rw[←Nat.pow_add];congr 1;omega
 have e2:=Nat.mul_le_mul_right cW (Nat.pow_le_pow_right (n:=2) (by decide) h1);have e3:2^t.length*(2^(F-t.length)*(β+μ*uL F)+cW)≤2^F*(β+μ*uL F+cW):=by
  rw[Nat.mul_add,←Nat.mul_assoc,e1,Nat.mul_add (2^F) (β+μ*uL F)];omega
 unfold bW qF;omega
def jβ:Nat:=2^18
def jμ:Nat:=3072
def jB (F:Nat):Nat:=qF F jβ jμ
def jY (F k:Nat):Nat:=qF F ((32*jB F+1)*2^(k-1)) (2^(k-1))
theorem PE:∀F,F≤3→∀k,k≤F→jB F<2^38∧∀H,H≤F→mS H (jY F k+qN H 0 1) tB<2^38:=by decide+kernel
structure Ra (B Y H K:Nat) (U rs:List El):Prop where
 hB:B<2^38
 hY:1≤Y
 y:∀j,j<K→∀b,b.length=2^j→QB B b→QB Y (a9 H U rs j b)
 r:∀i,i<K→(∃m,m≤H∧(rs.getD i []).length=2^m)∧QB (qN H 0 1) (rs.getD i [])
 s:mS H (Y+qN H 0 1) tB<2^38
theorem iK {h β μ:Nat}:1≤qN h β μ:=by unfold qN;omega
theorem ax.P9 (S:Src 64 A)(hA:A.length≤3){t U rs:List El}{a:El}{x:R}{β μ:Nat}(h:ax A t a x β μ)(h1:β≤jβ)(h2:μ≤jμ)(E:Ext A t t.length U rs):
  ∃B Y,QB B a∧Ra B Y U.length t.length U rs:=by
 obtain⟨F,I,_⟩:=h.tg.Cf S hA;obtain⟨n1,n2⟩:=PE F I.le t.length (I.mx _ h.tg);refine⟨jB F,jY F t.length,(h.QM S hA I).mono (Ja h1 h2),n1,by unfold jY qF;omega,fun j hj b hb hq=>?_,fun i hi=>?_,n2 _ (I.mx _ E.tg)⟩
 ·have hp:2^j≤2^(t.length-1):=Nat.pow_le_pow_right (by decide) (by omega);exact((E.num (fun i hi=>h.tg.mem i hi) (by omega) hb hq.bits).mono (Nat.mul_le_mul_left _ hp) hp).QM S hA I
 obtain⟨m,k1,k2,_⟩:=E.root i hi;exact⟨⟨m,k1,k2⟩,QB.HG ((E.Aq (fun i hi=>h.tg.mem i hi) hi).qb S hA)⟩
end
end Go.Tw
namespace Go.Tw
open Go Go.R Go.Eng
def wo (i:Nat)(a:El):Nat→El
 |0=>[]
 |k+1=>if k/2^i%2=0 then wo i a k++[a.getD k 0]else wo i a k
def Oc (i:Nat)(a:El):Prop:=∃k,k<a.length∧k/2^i%2=1∧a.getD k 0≠0
theorem tA {a b:El}{k:Nat}(h:k<a.length):(a++b).getD k 0=a.getD k 0:=by
 rw[X7,List.getElem?_append_left h,←X7]
theorem oP {a b:El}{k:Nat}:(a++b).getD (a.length+k) 0=b.getD k 0:=by
 rw[X7,List.getElem?_append_right (by omega),←X7,Nat.add_sub_cancel_left]
theorem BM {i:Nat}{a:El}:∀{n:Nat},n≤a.length→∀c∈wo i a n,c∈a
 |0,_,c,h=>by cases h
 |n+1,hn,c,h=>by
  rw[wo]at h
  split at h
  ·rcases List.mem_append.1 h with h|h
   ·exact BM (by omega) c h
   rw[List.mem_singleton.1 h,X7,X8 (by omega)];exact List.getElem_mem _
  exact BM (by omega) c h
theorem HP {i:Nat}{a:El}:∀{n:Nat},(wo i a n).length≤n
 |0=>Nat.le_refl _
 |n+1=>by
  have:=HP (i:=i) (a:=a) (n:=n)
  rw[wo]
  split
  ·rw[X6];show _+1≤_;omega
  omega
theorem DA {i:Nat}{a b:El}:∀{n:Nat},n≤a.length→wo i (a++b) n=wo i a n
 |0,_=>rfl
 |n+1,hn=>by rw[wo,wo,DA (by omega),tA (by omega)]
theorem Dy {i h n:Nat}(hi:i<h):(2^h+n)/2^i%2=n/2^i%2:=by
 have e:2^h=2^i*(2*2^(h-i-1)):=by
  rw[←Nat.mul_assoc,Nat.mul_comm (2^i) 2,←Nat.pow_succ',←Nat.pow_add]
  congr 1;omega
 rw[e,Nat.mul_add_div (Nat.two_pow_pos i)];omega
theorem Ay {i h:Nat}{a b:El}(hi:i<h)(ha:a.length=2^h):∀{n:Nat},wo i (a++b) (2^h+n)=wo i a (2^h)++wo i b n
 |0=>by rw[Nat.add_zero,DA (by omega),wo,List.append_nil]
 |n+1=>by
  rw[←Nat.add_assoc,wo,wo,Ay hi ha,Dy hi];rw[show (a++b).getD (2^h+n) 0=b.getD n 0 by rw[←ha];exact oP]
  split
  ·rw[List.append_assoc]
  rfl
theorem Cp {i:Nat}{a:El}:∀{n:Nat},n≤2^i→n≤a.length→wo i a n=a.take n
 |0,_,_=>by rw[wo,List.take_zero]
 |n+1,h1,h2=>by
  rw[wo,Cp (by omega) (by omega),Nat.div_eq_of_lt (by omega),if_pos rfl,List.take_add_one,X7,X8 (by omega)];rfl
theorem A5 {i:Nat}{a:El}:∀{n:Nat},n≤2^i→wo i a (2^i+n)=wo i a (2^i)
 |0,_=>rfl
 |n+1,h=>by
  have e:(2^i+n)/2^i%2=1:=by
   have:=Nat.add_div_left n (Nat.two_pow_pos i)
   rw[this,Nat.div_eq_of_lt (by omega)]
  rw[←Nat.add_assoc,wo,if_neg (by omega),A5 (by omega)]
theorem Oc.left {i:Nat}{a b:El}(h:Oc i a):Oc i (a++b):=by
 obtain⟨k,h1,h2,h3⟩:=h;exact⟨k,by rw[X6];omega,h2,by rw[tA h1];exact h3⟩
theorem Oc.right {i h:Nat}{a b:El}(hi:i<h)(ha:a.length=2^h)(H:Oc i b):Oc i (a++b):=by
 obtain⟨k,h1,h2,h3⟩:=H;exact⟨2^h+k,by rw[X6,ha];omega,by rw[Dy hi];exact h2,by rw[←ha,oP];exact h3⟩
theorem Ad {h:Nat}{a b:El}(ha:a.length=2^h)(hb:b.length=2^h)(H:¬Oc h (a++b)):b=zE (2^h):=by
 refine List.ext_getElem (by rw[hb,ar]) fun k h1 h2=>?_;have e:(2^h+k)/2^h%2=1:=by
  have:=Nat.add_div_left k (Nat.two_pow_pos h)
  rw[this,Nat.div_eq_of_lt (by omega)]
 have:b.getD k 0=0:=Classical.byContradiction fun h0=>H ⟨2^h+k,by rw[X6];omega,e,by rw[←ha,oP];exact h0⟩
 rw[X7,X8 h1]at this;rw[show b[k]=0 from this];exact(List.getElem_replicate _).symm
theorem NB {t t':List El}{i n:Nat}(h1:∀k,k<i→t'.getD k []=t.getD k [])
  (h2:∀k,i≤k→k+1<n→t'.getD k []=wo i (t.getD (k+1) []) (2^(k+1))∧(t.getD (k+1) []).length=2^(k+1)∧¬Oc i (t.getD (k+1) [])):
  ∀(h:Nat),i≤h→h+1≤n→∀a:El,a.length=2^(h+1)→¬Oc i a→(wo i a (2^(h+1))).length=2^h∧val h t' (wo i a (2^(h+1)))=val (h+1) t a:=by
 intro h
 induction h with
 |zero=>
  intro hi _ a ha hn;obtain rfl:i=0:=by omega
  have e:a=a.take (2^0)++a.drop (2^0):=(List.take_append_drop _ a).symm;have z:=Ad (ah ha) (ag ha) (e▸hn);have w:wo 0 a (2^(0+1))=a.take (2^0):=by
   rw[Nat.pow_succ,Nat.mul_two,A5 (Nat.le_refl _),Cp (Nat.le_refl _) (by rw[ha];decide)]
  rw[w];refine⟨ah ha,?_⟩;show val 0 t' _=val 0 t (a.take (2^0))+val 0 t (a.drop (2^0))*_;rw[z,val_zero,zero_mul,add_zero];rfl
 |succ h ih=>
  intro hi hn a ha no;have e:a=a.take (2^(h+1))++a.drop (2^(h+1)):=(List.take_append_drop _ a).symm;have p2:2^(h+1+1)=2^(h+1)+2^(h+1):=by rw[Nat.pow_succ,Nat.mul_two]
  by_cases k:i=h+1
  ·subst k;have z:=Ad (ah ha) (ag ha) (e▸no);have w:wo (h+1) a (2^(h+1+1))=a.take (2^(h+1)):=by
    rw[p2,A5 (Nat.le_refl _),Cp (Nat.le_refl _) (by rw[ha,p2];omega)]
   rw[w];refine⟨ah ha,?_⟩;rw[val_congr (z:=t) h1,show val (h+1+1) t a=val (h+1) t (a.take (2^(h+1)))+val (h+1) t (a.drop (2^(h+1)))*sqrt (val (h+1) t (t.getD (h+1) []))from rfl,z,val_zero,zero_mul,add_zero]
  have SQ:i≤h:=by omega
  have n1:¬Oc i (a.take (2^(h+1))):=fun H=>no (e▸H.left);have n2:¬Oc i (a.drop (2^(h+1))):=fun H=>no (e▸H.right (by omega) (ah ha));have w:wo i a (2^(h+1+1))=wo i (a.take (2^(h+1))) (2^(h+1))++wo i (a.drop (2^(h+1))) (2^(h+1)):=by
   conv=>lhs;rw[e,p2]
   exact Ay (by omega) (ah ha)
  obtain⟨l1,v1⟩:=ih SQ (by omega) _ (ah ha) n1;obtain⟨l2,v2⟩:=ih SQ (by omega) _ (ag ha) n2;obtain⟨r1,r2,r3⟩:=h2 h SQ (by omega);obtain⟨_,v3⟩:=ih SQ (by omega) _ r2 r3;rw[w];refine⟨by rw[X6,l1,l2,←Nat.mul_two,←Nat.pow_succ],?_⟩;rw[gu l1,v1,v2,r1,v3];rfl
def fv (i:Nat)(t:List El):List El:=(List.range (t.length-1)).map fun k=>if k<i then t.getD k []else wo i (t.getD (k+1) []) (2^(k+1))
theorem kM {i:Nat}{t:List El}:(fv i t).length=t.length-1:=by unfold fv;simp
theorem jt {i k:Nat}{t:List El}(h:k<t.length-1):(fv i t).getD k []=if k<i then t.getD k []else wo i (t.getD (k+1) []) (2^(k+1)):=by
 unfold fv;rw[X7,List.getElem?_map,List.getElem?_range h];rfl
section
variable {A:List R}{t:List El}{i:Nat}
theorem TG.wo (T:TG A t)(hi:i<t.length)(no:∀k,i<k→k<t.length→¬Oc i (t.getD k [])){h:Nat}(h1:i≤h)(h2:h<t.length){a:El}(ha:a.length=2^(h+1))(na:¬Oc i a):
  (Tw.wo i a (2^(h+1))).length=2^h∧val h (fv i t) (Tw.wo i a (2^(h+1)))=val (h+1) t a:=
 NB (n:=t.length) (fun k hk=>by rw[jt (by omega),if_pos hk]) (fun k hk hn=>⟨by rw[jt (by omega),if_neg (by omega)],(T.rd.rl (k+1) hn).1,no _ (by omega) hn⟩) h h1 h2 a ha na
theorem TG.drop (T:TG A t)(hi:i<t.length)(no:∀k,i<k→k<t.length→¬Oc i (t.getD k [])):TG A (fv i t):=by
 have low:∀k,k<i→(fv i t).getD k []=t.getD k []:=fun k hk=>by rw[jt (by omega),if_pos hk]
 have lowv:∀k,k≤i→∀a,val k (fv i t) a=val k t a:=fun k hk a=>val_congr (fun j hj=>low j (by omega)) a;have high:∀k,i≤k→k<t.length-1→((fv i t).getD k []).length=2^k∧val k (fv i t) ((fv i t).getD k [])=val (k+1) t (t.getD (k+1) []):=fun k hk hn=>by
  rw[jt hn,if_neg (by omega)];exact T.wo hi no hk (by omega) (T.rd.rl (k+1) (by omega)).1 (no _ (by omega) (by omega))
 have root:∀j,j<t.length-1→∀m,m<j→In (if j<i then j else j+1) t (R.sqrt (val m (fv i t) ((fv i t).getD m []))):=fun j hj m hm=>by
  by_cases k:m<i
  ·rw[low m k,lowv m (by omega)]
   exact(In.root (h:=m) (t:=t)).le (by split<;>omega)
  rw[(high m (by omega) (by omega)).2,if_neg (by omega)];exact(In.root (h:=m+1) (t:=t)).le (by omega)
 refine⟨⟨fun k hk=>?_,fun k hk x hx=>?_⟩,fun k hk=>?_⟩
 all_goals rw[kM]at hk
 ·by_cases g:k<i
  ·rw[low k g,lowv k (by omega)];exact T.rd.rl k (by omega)
  obtain⟨e1,e2⟩:=high k (by omega) hk;exact⟨e1,by rw[e2];exact(T.rd.rl (k+1) (by omega)).2⟩
 ·by_cases g:k<i
  ·rw[low k g,lowv k (by omega)];refine T.rd.ns k (by omega) x ?_;obtain⟨a,ha,e⟩:=hx;exact⟨a,ha,by rw[←e,lowv k (by omega)]⟩
  rw[(high k (by omega) hk).2];refine T.rd.ns (k+1) (by omega) x (In.ml (T.rd.le (by omega)) (fun m hm=>?_) hx)
  have:=root k hk m hm
  rwa [if_neg g]at this
 by_cases g:k<i
 ·rw[low k g,lowv k (by omega)];exact T.mem k (by omega)
 rw[(high k (by omega) hk).2];exact T.mem (k+1) (by omega)
end
structure cB (A:List R) (B:Nat) (t:List El) (a:El) (x:R):Prop where
 tg:TG A t
 len:a.length=2^t.length
 val:val t.length t a=x
 bits:iL B a
 tb:∀j,j<t.length→iL B (t.getD j [])
theorem iL.wo {B i n:Nat}{a:El}(h:iL B a)(hn:n≤a.length):iL B (Tw.wo i a n):=fun c hc=>h c (BM hn c hc)
theorem cB.drop {A:List R}{B:Nat}{t:List El}{a:El}{x:R}(h:cB A B t a x){i:Nat}(hi:i<t.length)(no:∀k,i<k→k<t.length→¬Oc i (t.getD k []))(na:¬Oc i a):
  cB A B (fv i t) (Tw.wo i a a.length) x:=by
 obtain⟨n,hn⟩:∃n,t.length=n+1:=⟨t.length-1,by omega⟩;have hl:=h.len;rw[hn]at hl;have hv:=h.val;rw[hn]at hv;obtain⟨e1,e2⟩:=h.tg.wo hi no (h:=n) (by omega) (by omega) hl na;have hd:(fv i t).length=n:=by rw[kM];omega
 refine⟨h.tg.drop hi no,by rw[hd,hl];exact e1,by rw[hd,hl,e2,hv],h.bits.wo (Nat.le_refl _),fun j hj=>?_⟩;rw[hd]at hj;rw[jt (by omega)]
 split
 ·exact h.tb j (by omega)
 exact(h.tb (j+1) (by omega)).wo (by rw[(h.tg.rd.rl (j+1) (by omega)).1];exact Nat.le_refl _)
theorem cB.num {A:List R}{B:Nat}{t:List El}{a:El}{x:R}(h:cB A B t a x):ax A t a x ((B+1)*2^t.length) (2^t.length):=by
 rw[←h.val];exact .short h.tg h.len h.bits
theorem cB.sub {A A':List R}{B:Nat}{t:List El}{a:El}{x:R}(hA:∀a,a∈A→a∈A')(h:cB A B t a x):cB A' B t a x:=⟨h.tg.sub hA,h.len,h.val,h.bits,h.tb⟩
end Go.Tw
namespace Go.Proofs.YthnkehdgnagmnaaGreat
open Go.Proofs.Tryz
open Go Go.Eng
open Go.Tw (El Oc wo)
theorem rZ {k i:Nat}(hi:i≤8):(k:Int).fdiv (2^(if i≤64 then i else 64))=((k/2^i:Nat):Int):=by
 rw[if_pos (by omega),Int.fdiv_eq_ediv_of_nonneg _ (Int.pow_nonneg (by decide)),show ((2:Int)^i)=((2^i:Nat):Int) by rw[Int.natCast_pow];rfl];rfl
theorem Hb {x:Rat}(h:bQ x.num=0):x=0:=Rat.num_eq_zero.1 (wE.1 h)
theorem DL (m:Nat):(m:Int).tmod 2=((m%2:Nat):Int):=rfl
theorem AA (a:El)(i:Nat)(hi:i≤8)(hl:a.length<2^38)(ha:Qk a){b:Bool}(hb:b=true↔Oc i a):Pr prog 61 [eV a,.one (.int .i64 i)] (.one (.bool b)):=by
 refine pw func61 ⟨[0,1,4,5,9,24],[]⟩ ?_;simp only[Tryz.f61,ntmps61,iz,seval];simp only[vx,T,seval,eV,aa];refine Lk (fun y:{k:Nat//k≤a.length∧∀j,j<k→j/2^i%2=1→a.getD j default=0}=>⟨[(0,eV a),(1,.one (.int .i64 i)),(4,.one (.bool false)),(5,.one (.int .i64 y.1))],[],1,25⟩) (fun y=>a.length-y.1) ⟨0,Nat.zero_le _,fun j hj=>absurd hj (Nat.not_lt_zero _)⟩ ?_ (fun⟨k,hk,hz⟩=>?_)
 ·refine Sa ?_;simp only[ry,seval,rz,eV,aa]
 have i1:=wI k (by omega);simp only[vx,T,seval,eV,aa,rZ hi,DL];refine⟨fun g=>Lg ?_,fun g=>Lg ?_⟩
 ·have TV:k<a.length:=by omega
  have c:=rL (a.getD k default) (by have:=ha.get k;omega);have Tr:k/2^i%2=1→a.getD k default≠0→b=true:=fun h1 h2=>hb.2 ⟨k,TV,h1,h2⟩;have So:(k/2^i%2=1→a.getD k default=0)→∀j,j<k+1→j/2^i%2=1→a.getD j default=0:=fun h0 j hj h1=>by
   by_cases U9:j<k
   ·exact hz j U9 h1
   obtain rfl:j=k:=by omega
   exact h0 h1
  obtain⟨x,hx⟩:∃x,x=a.getD k default:=⟨_,rfl⟩;rw[←hx]at c Tr So;simp only[vx,T,seval,eV,aa,rZ hi,DL];refine⟨by omega,fun g2=>Lg ?_,fun g2=>Lg ?_⟩
  ·simp only[vx,T,seval,eV,aa,←hx,qC];refine⟨by omega,Cg c ?_⟩;simp only[vx,T,seval,eV,aa];refine⟨fun h=>Lg ?_,fun h=>Lg ?_⟩
   ·rw[Tr (by omega) (fun e=>h (by rw[e];rfl))];simp only[vx,T,seval,eV,aa];exact Ve rfl
   simp only[vx,T,seval,eV,aa,i1];refine Lq ⟨k+1,by omega,So fun _=>Hb (by omega)⟩ ?_ (by show a.length-(k+1)<a.length-k;omega);refine Sa ?_;simp only[ry,seval,rz,eV,aa]
  simp only[vx,T,seval,eV,aa,i1];refine Lq ⟨k+1,by omega,So fun e=>absurd e (by omega)⟩ ?_ (by show a.length-(k+1)<a.length-k;omega);refine Sa ?_;simp only[ry,seval,rz,eV,aa]
 have TV:k=a.length:=by omega
 have e:b=false:=by
  cases b with
  |false=>rfl
  |true=>
   obtain⟨j,h1,h2,h3⟩:=hb.1 rfl;exact absurd (hz j (by omega) h2) h3
 rw[e];simp only[vx,T,seval,eV,aa];exact Ve rfl
theorem KI {i:Nat}{a:El}{k:Nat}(h:k/2^i%2=0):wo i a (k+1)=wo i a k++[a.getD k default]:=by rw[wo,if_pos h];rfl
theorem LG {i:Nat}{a:El}{k:Nat}(h:k/2^i%2≠0):wo i a (k+1)=wo i a k:=by rw[wo,if_neg h]
theorem vO (a:El)(i:Nat)(hi:i≤8)(hl:a.length<2^38):Fr prog 62 [eV a,.one (.int .i64 i)] (.rows 62 4 (wo i a a.length).length (fQ (wo i a a.length))):=by
 refine fw func62 ⟨[0,1,4,5,6,10,17],[]⟩ ?_;simp only[Tryz.f62,ntmps62,iz,seval];simp only[vx,T,seval,eV,aa];refine Lk (fun y:{k:Nat//k≤a.length}=>⟨[(0,eV a),(1,.one (.int .i64 i)),(4,.one .nil),(5,.one (.own 1 4 0 (wo i a y.1).length)),(6,.one (.int .i64 y.1))],[(1,⟨.rows 62 4 (wo i a y.1).length (fQ (wo i a y.1)),true⟩)],2,26⟩) (fun y=>a.length-y.1) ⟨0,Nat.zero_le _⟩ ?_ (fun⟨k,hk⟩=>?_)
 ·refine Sa ?_;simp only[ry,seval,rz,eV,aa];exact⟨rfl,rfl⟩
 have i1:=wI k (by omega);simp only;have wl:=Go.Tw.HP (i:=i) (a:=a) (n:=k);simp only[vx,T,seval,eV,aa,rZ hi,DL];refine⟨fun g=>Lg ?_,fun g=>Lg ?_⟩
 ·have TV:k<a.length:=by omega
  simp only[vx,T,seval,eV,aa,rZ hi,DL];refine⟨by omega,fun g2=>Lg ?_,fun g2=>Lg ?_⟩
  ·have RM:=KI (a:=a) (show k/2^i%2=0 by omega);have Rv:=congrArg List.length RM;rw[X6]at Rv;obtain⟨x,hx⟩:∃x,x=a.getD k default:=⟨_,rfl⟩;rw[←hx]at RM;simp only[vx,T,seval,eV,aa,←hx,qC];simp only[i1];refine⟨by omega,⟨by omega,by omega⟩,Lq ⟨k+1,by omega⟩ ?_ ?_⟩
   ·refine Sa ?_;simp only[ry,seval,rz,eV,aa];rw[RM];exact⟨by simp,by simp,Df rfl x⟩
   simp only;omega
  have RM:=LG (a:=a) (show k/2^i%2≠0 by omega);simp only[vx,T,seval,eV,aa,i1];refine Lq ⟨k+1,by omega⟩ ?_ ?_
  ·refine Sa ?_;simp only[ry,seval,rz,eV,aa,RM]
  simp only;omega
 have TV:k=a.length:=by omega
 subst TV;simp only[vx,T,seval,eV,aa];exact⟨rfl,rfl,fun _ _ _ _=>rfl⟩
open Go Go.Eng
open Go.Tw (El)
def nc (n:Nat)(c:Rat):Prop:=n<zn c.num∨n<nl c.den
def PQ (n:Nat)(x:List El×El):Prop:=(∃i,i<x.2.length∧nc n (x.2.getD i default))∨∃j,j<x.1.length∧∃i,i<(x.1.getD j []).length∧nc n ((x.1.getD j []).getD i default)
theorem vU (x o:List El×El):Pr prog 31 [nX x,.one (.int .i64 0),nX o] (nX x):=by
 refine pw func31 ⟨[0,1,2,3,5,6,8],[]⟩ ?_;simp only[Tryz.f31,ntmps31,iz,seval];simp only[vx,T,seval,nX,nV,tC,aa];exact Ve rfl
theorem AU (o:List El×El):Pr prog 31 [.agg [.nil,.nil],.one (.int .i64 6),nX o] (nX o):=by
 refine pw func31 ⟨[0,1,2,3,5,6,8],[]⟩ ?_;simp only[Tryz.f31,ntmps31,iz,seval];simp only[vx,T,seval,nX,nV,tC,aa];exact Ve rfl
theorem Nl (x:List El×El)(hl:x.2.length<2^38)(hh:x.1.length<2^38)(ht:∀j,j<x.1.length→(x.1.getD j []).length<2^38){b:Bool}(hb:b=true↔PQ 2 x):Pr prog 35 [nX x] (.one (.bool b)):=by
 obtain⟨t,a⟩:=x;simp only at hl hh ht;refine pw func35 ⟨[0,1,2,3,4,5,6,11,33,38,48,70],[]⟩ ?_;simp only[Tryz.f35,ntmps35,iz,seval];simp only[vx,T,seval,nX,nV,tC,aa];refine Lk (fun y:{i:Nat//i≤a.length∧∀j,j<i→¬nc 2 (a.getD j default)}=>⟨[(1,.one (.ptr 1 0)),(2,.one (.bool false)),(3,.one (.int .i64 y.1))],[(1,⟨.var [tC t.length t,aa a],true⟩)],2,71⟩) (fun y=>a.length-y.1) ⟨0,Nat.zero_le _,fun j hj=>absurd hj (Nat.not_lt_zero _)⟩ ?_ (fun⟨i,hi,hz⟩=>?_)
 ·refine Sa ?_;simp only[ry,seval,rz,tC,aa]
 have i1:=wI i (by omega);simp only[vx,T,seval,tC,aa];refine⟨fun g=>Lg ?_,fun g=>Lg ?_⟩
 ·have RG:i<a.length:=by omega
  have Tr:nc 2 (a.getD i default)→b=true:=fun h=>hb.2 (.inl ⟨i,RG,h⟩);have So:¬nc 2 (a.getD i default)→∀j,j<i+1→¬nc 2 (a.getD j default):=fun h0 j hj=>by
   by_cases h:j<i
   ·exact hz j h
   obtain rfl:j=i:=by omega
   exact h0
  obtain⟨x,hx⟩:∃x,x=a.getD i default:=⟨_,rfl⟩;rw[←hx]at Tr So;have ln:(zm x.num).length=zn x.num:=rfl;have ld:(zm (x.den:Int)).length=nl x.den:=rfl;simp only[vx,T,seval,tC,aa,←hx,qC];refine⟨by omega,fun h=>Lg ?_,fun h=>Lg ?_⟩
  ·rw[Tr (.inl (by omega))];simp only[vx,T,seval,tC,aa];exact Ve rfl
  simp only[vx,T,seval,tC,aa,←hx,qC];refine⟨by omega,fun h'=>Lg ?_,fun h'=>Lg ?_⟩
  ·rw[Tr (.inr (by omega))];simp only[vx,T,seval,tC,aa];exact Ve rfl
  simp only[vx,T,seval,tC,aa,i1];refine Lq ⟨i+1,by omega,So fun h2=>by unfold nc at h2;omega⟩ ?_ (by show a.length-(i+1)<a.length-i;omega);refine Sa ?_;simp only[ry,seval,rz,tC,aa]
 have ha:∀i,i<a.length→¬nc 2 (a.getD i default):=fun j hj=>hz j (by omega);clear hz i1 g;simp only[vx,T,seval,tC,aa];refine Lk (fun y:{j:Nat//j≤t.length∧∀k,k<j→∀i,i<(t.getD k []).length→¬nc 2 ((t.getD k []).getD i default)}=>⟨[(1,.one (.ptr 1 0)),(2,.one (.bool false)),(4,.one (.int .i64 y.1))],[(1,⟨.var [tC t.length t,aa a],true⟩)],2,71⟩) (fun y=>t.length-y.1) ⟨0,Nat.zero_le _,fun j hj=>absurd hj (Nat.not_lt_zero _)⟩ ?_ (fun⟨j,hj,hz⟩=>?_)
 ·refine Sa ?_;simp only[ry,seval,rz,tC,aa]
 have j1:=wI j (by omega);simp only[vx,T,seval,tC,aa];refine⟨fun g=>Lg ?_,fun g=>Lg ?_⟩
 ·have R4:j<t.length:=by omega
  have Tr:∀i,i<(t.getD j []).length→nc 2 ((t.getD j []).getD i default)→b=true:=fun i hi h=>hb.2 (.inr ⟨j,R4,i,hi,h⟩);have So:(∀i,i<(t.getD j []).length→¬nc 2 ((t.getD j []).getD i default))→∀k,k<j+1→∀i,i<(t.getD k []).length→¬nc 2 ((t.getD k []).getD i default):=fun h0 k hk=>by
   by_cases h:k<j
   ·exact hz k h
   obtain rfl:k=j:=by omega
   exact h0
  have Wd:=ht j R4;obtain⟨e,he⟩:∃e,e=t.getD j []:=⟨_,rfl⟩;rw[←he]at Tr So Wd;simp only[vx,T,seval,tC,aa];refine Lk (fun y:{i:Nat//i≤e.length∧∀k,k<i→¬nc 2 (e.getD k default)}=>⟨[(1,.one (.ptr 1 0)),(2,.one (.bool false)),(4,.one (.int .i64 j)),(5,.one (.int .i64 y.1))],[(1,⟨.var [tC t.length t,aa a],true⟩)],2,71⟩) (fun y=>e.length-y.1) ⟨0,Nat.zero_le _,fun j hj=>absurd hj (Nat.not_lt_zero _)⟩ ?_ (fun⟨i,hi,hz⟩=>?_)
  ·refine Sa ?_;simp only[ry,seval,rz,tC,aa]
  have i1:=wI i (by omega);simp only[vx,T,seval,tC,aa,←he];refine⟨by omega,fun g=>Lg ?_,fun g=>Lg ?_⟩
  ·have RG:i<e.length:=by omega
   have Tr:=Tr i RG;have So:¬nc 2 (e.getD i default)→∀j,j<i+1→¬nc 2 (e.getD j default):=fun h0 j hj=>by
    by_cases h:j<i
    ·exact hz j h
    obtain rfl:j=i:=by omega
    exact h0
   obtain⟨x,hx⟩:∃x,x=e.getD i default:=⟨_,rfl⟩;rw[←hx]at Tr So;have ln:(zm x.num).length=zn x.num:=rfl;have ld:(zm (x.den:Int)).length=nl x.den:=rfl;simp only[vx,T,seval,tC,aa,←he,←hx,qC];refine⟨by omega,by omega,fun h=>Lg ?_,fun h=>Lg ?_⟩
   ·rw[Tr (.inl (by omega))];simp only[vx,T,seval,tC,aa];exact Ve rfl
   simp only[vx,T,seval,tC,aa,←he,←hx,qC];refine⟨fun h'=>Lg ?_,fun h'=>Lg ?_⟩
   ·rw[Tr (.inr (by omega))];simp only[vx,T,seval,tC,aa];exact Ve rfl
   simp only[vx,T,seval,tC,aa,i1];refine Lq ⟨i+1,by omega,So fun h2=>by unfold nc at h2;omega⟩ ?_ (by show e.length-(i+1)<e.length-i;omega);refine Sa ?_;simp only[ry,seval,rz,tC,aa]
  simp only[vx,T,seval,tC,aa,j1];refine Lq ⟨j+1,by omega,So fun i hi=>hz i (by omega)⟩ ?_ (by show t.length-(j+1)<t.length-j;omega);refine Sa ?_;simp only[ry,seval,rz,tC,aa]
 rw[show b=false by
  cases TP:b with
  |false=>rfl
  |true=>
   rcases hb.1 TP with⟨i,h1,h2⟩|⟨k,h1,i,h2,h3⟩
   ·exact absurd h2 (ha i h1)
   exact absurd h3 (hz k (by have:k<t.length:=h1;omega) i h2)]
 simp only[vx,T,seval,tC,aa];exact Ve rfl
theorem KZ (x:List El×El)(hl:x.2.length<2^38)(hh:x.1.length<2^38)(ht:∀j,j<x.1.length→(x.1.getD j []).length<2^38){b:Bool}(hb:b=false↔PQ 6 x):Pr prog 56 [nX x] (.one (.bool b)):=by
 obtain⟨t,a⟩:=x;simp only at hl hh ht;refine pw func56 ⟨[0,1,2,3,4,5,10,32,37,47,75],[]⟩ ?_;simp only[Tryz.f56,ntmps56,iz,seval];simp only[vx,T,seval,nX,nV,tC,aa];refine Lk (fun y:{i:Nat//i≤a.length∧∀j,j<i→¬nc 6 (a.getD j default)}=>⟨[(1,.one (.ptr 1 0)),(2,.one (.bool false)),(3,.one (.int .i64 y.1))],[(1,⟨.var [tC t.length t,aa a],true⟩)],2,76⟩) (fun y=>a.length-y.1) ⟨0,Nat.zero_le _,fun j hj=>absurd hj (Nat.not_lt_zero _)⟩ ?_ (fun⟨i,hi,hz⟩=>?_)
 ·refine Sa ?_;simp only[ry,seval,rz,tC,aa]
 have i1:=wI i (by omega);simp only[vx,T,seval,tC,aa];refine⟨fun g=>Lg ?_,fun g=>Lg ?_⟩
 ·have RG:i<a.length:=by omega
  have Tr:nc 6 (a.getD i default)→b=false:=fun h=>hb.2 (.inl ⟨i,RG,h⟩);have So:¬nc 6 (a.getD i default)→∀j,j<i+1→¬nc 6 (a.getD j default):=fun h0 j hj=>by
   by_cases h:j<i
   ·exact hz j h
   obtain rfl:j=i:=by omega
   exact h0
  obtain⟨x,hx⟩:∃x,x=a.getD i default:=⟨_,rfl⟩;rw[←hx]at Tr So;have ln:(zm x.num).length=zn x.num:=rfl;have ld:(zm (x.den:Int)).length=nl x.den:=rfl;simp only[vx,T,seval,tC,aa,←hx,qC];refine⟨by omega,fun h=>Lg ?_,fun h=>Lg ?_⟩
  ·rw[Tr (.inl (by omega))];simp only[vx,T,seval,tC,aa];exact Ve rfl
  simp only[vx,T,seval,tC,aa,←hx,qC];refine⟨by omega,fun h'=>Lg ?_,fun h'=>Lg ?_⟩
  ·rw[Tr (.inr (by omega))];simp only[vx,T,seval,tC,aa];exact Ve rfl
  simp only[vx,T,seval,tC,aa,i1];refine Lq ⟨i+1,by omega,So fun h2=>by unfold nc at h2;omega⟩ ?_ (by show a.length-(i+1)<a.length-i;omega);refine Sa ?_;simp only[ry,seval,rz,tC,aa]
 have ha:∀i,i<a.length→¬nc 6 (a.getD i default):=fun j hj=>hz j (by omega);clear hz i1 g;simp only[vx,T,seval,tC,aa];refine Lk (fun y:{j:Nat//j≤t.length∧∀k,k<j→∀i,i<(t.getD k []).length→¬nc 6 ((t.getD k []).getD i default)}=>⟨[(1,.one (.ptr 1 0)),(2,.one (.bool false)),(4,.one (.int .i64 y.1))],[(1,⟨.var [tC t.length t,aa a],true⟩)],2,76⟩) (fun y=>t.length-y.1) ⟨0,Nat.zero_le _,fun j hj=>absurd hj (Nat.not_lt_zero _)⟩ ?_ (fun⟨j,hj,hz⟩=>?_)
 ·refine Sa ?_;simp only[ry,seval,rz,tC,aa]
 have j1:=wI j (by omega);simp only[vx,T,seval,tC,aa];refine⟨fun g=>Lg ?_,fun g=>Lg ?_⟩
 ·have R4:j<t.length:=by omega
  have Tr:∀i,i<(t.getD j []).length→nc 6 ((t.getD j []).getD i default)→b=false:=fun i hi h=>hb.2 (.inr ⟨j,R4,i,hi,h⟩);have So:(∀i,i<(t.getD j []).length→¬nc 6 ((t.getD j []).getD i default))→∀k,k<j+1→∀i,i<(t.getD k []).length→¬nc 6 ((t.getD k []).getD i default):=fun h0 k hk=>by
   by_cases h:k<j
   ·exact hz k h
   obtain rfl:k=j:=by omega
   exact h0
  have Wd:=ht j R4;obtain⟨e,he⟩:∃e,e=t.getD j []:=⟨_,rfl⟩;rw[←he]at Tr So Wd;simp only[vx,T,seval,tC,aa];refine Lk (fun y:{i:Nat//i≤e.length∧∀k,k<i→¬nc 6 (e.getD k default)}=>⟨[(1,.one (.ptr 1 0)),(2,.one (.bool false)),(4,.one (.int .i64 j)),(5,.one (.int .i64 y.1))],[(1,⟨.var [tC t.length t,aa a],true⟩)],2,76⟩) (fun y=>e.length-y.1) ⟨0,Nat.zero_le _,fun j hj=>absurd hj (Nat.not_lt_zero _)⟩ ?_ (fun⟨i,hi,hz⟩=>?_)
  ·refine Sa ?_;simp only[ry,seval,rz,tC,aa]
  have i1:=wI i (by omega);simp only[vx,T,seval,tC,aa,←he];refine⟨by omega,fun g=>Lg ?_,fun g=>Lg ?_⟩
  ·have RG:i<e.length:=by omega
   have Tr:=Tr i RG;have So:¬nc 6 (e.getD i default)→∀j,j<i+1→¬nc 6 (e.getD j default):=fun h0 j hj=>by
    by_cases h:j<i
    ·exact hz j h
    obtain rfl:j=i:=by omega
    exact h0
   obtain⟨x,hx⟩:∃x,x=e.getD i default:=⟨_,rfl⟩;rw[←hx]at Tr So;have ln:(zm x.num).length=zn x.num:=rfl;have ld:(zm (x.den:Int)).length=nl x.den:=rfl;simp only[vx,T,seval,tC,aa,←he,←hx,qC];refine⟨by omega,by omega,fun h=>Lg ?_,fun h=>Lg ?_⟩
   ·rw[Tr (.inl (by omega))];simp only[vx,T,seval,tC,aa];exact Ve rfl
   simp only[vx,T,seval,tC,aa,←he,←hx,qC];refine⟨by omega,by omega,fun h'=>Lg ?_,fun h'=>Lg ?_⟩
   ·rw[Tr (.inr (by omega))];simp only[vx,T,seval,tC,aa];exact Ve rfl
   simp only[vx,T,seval,tC,aa,i1];refine Lq ⟨i+1,by omega,So fun h2=>by unfold nc at h2;omega⟩ ?_ (by show e.length-(i+1)<e.length-i;omega);refine Sa ?_;simp only[ry,seval,rz,tC,aa]
  simp only[vx,T,seval,tC,aa,j1];refine Lq ⟨j+1,by omega,So fun i hi=>hz i (by omega)⟩ ?_ (by show t.length-(j+1)<t.length-j;omega);refine Sa ?_;simp only[ry,seval,rz,tC,aa]
 rw[show b=true by
  cases TP:b with
  |true=>rfl
  |false=>
   rcases hb.1 TP with⟨i,h1,h2⟩|⟨k,h1,i,h2,h3⟩
   ·exact absurd h2 (ha i h1)
   exact absurd h3 (hz k (by have:k<t.length:=h1;omega) i h2)]
 simp only[vx,T,seval,tC,aa];exact Ve rfl
open Go Go.Eng
open Go.Tw (El Oc wo fv kM jt cB TG iL)
def Nd (i:Nat)(x:List El×El)(k:Nat):Prop:=Oc i x.2∨∃m,i<m∧m<k∧Oc i (x.1.getD m [])
open Classical in
noncomputable def kP:Nat→List El×El→List El×El
 |0,x=>x
 |i+1,x=>if Nd i x x.1.length then kP i x else kP i (fv i x.1,wo i x.2 x.2.length)
theorem mT {A:List R}{B:Nat}{v:R}:∀(n:Nat) {x:List El×El},n≤x.1.length→cB A B x.1 x.2 v→cB A B (kP n x).1 (kP n x).2 v
 |0,_,_,h=>h
 |n+1,x,hn,h=>by
  rw[kP]
  split
  ·exact mT n (by omega) h
  rename_i no
  refine mT n (by show n≤(fv n x.1).length;rw[kM];omega) (h.drop (by omega) (fun k h1 h2 h3=>no (.inr ⟨k,h1,h2,h3⟩)) fun h3=>no (.inl h3))
theorem iL.qk {B:Nat}{a:El}(h:iL B a)(hB:B<2^38):Qk a:=fun c hc=>by
 have:=Go.Tw.sD (h c hc).1 (h c hc).2
 omega
theorem DI (p:Prop):∃b:Bool,b=true↔p:=by
 by_cases h:p
 ·exact⟨true,fun _=>h,fun _=>rfl⟩
 exact⟨false,fun e=>(by cases e),fun k=>absurd k h⟩
def wR (t:List El)(i k m:Nat):El:=if i<m∧m<k then wo i (t.getD m []) (2^m)else t.getD m []
theorem GP {t:List El}{i m:Nat}:wR t i (i+1) m=t.getD m []:=if_neg (by omega)
theorem JR {t:List El}{i k:Nat}:wR t i k k=t.getD k []:=if_neg (by omega)
theorem OB {t:List El}{i k m j:Nat}{e:El}(T8:i<k)(he:e=wo i (t.getD k []) (2^k))(hj:j<1):a8 (fun m _=>aa (wR t i k m)) k 0 [aa e] m j=aa (wR t i (k+1) m):=by
 obtain rfl:j=0:=by omega
 unfold a8 wR
 by_cases h:m=k
 ·subst h;rw[if_pos rfl,if_pos (Nat.zero_le _),if_pos (by simp),if_pos ⟨T8,by omega⟩,he];rfl
 rw[if_neg h];simp only
 by_cases h2:i<m∧m<k
 ·rw[if_pos h2,if_pos ⟨h2.1,by omega⟩]
 rw[if_neg h2,if_neg (by omega)]
theorem JL {t:List El}{i m:Nat}(hi:i<t.length)(hm:m<t.length-1):(if m<i then aa (wR t i t.length m)else aa (wR t i t.length (i+1+(m-i))))=aa ((fv i t).getD m []):=by
 rw[jt hm]
 split
 ·unfold wR;rw[if_neg (by omega)]
 unfold wR;rw[show i+1+(m-i)=m+1 by omega,if_pos ⟨by omega,by omega⟩]
section
variable {A:List R}(S:Go.Tw.Src 64 A)(hA:A.length≤3)
include S hA
theorem MP (x:List El×El){v:R}(hx:cB A 64 x.1 x.2 v):Pr prog 36 [nX x] (nX (kP x.1.length x)):=by
 obtain⟨R,hR⟩:∃R,R=kP x.1.length x:=⟨_,rfl⟩;rw[←hR];have h3:=hx.tg.kg S hA;have w1:IntKind.i64.wrap ((x.1.length:Int)-1)=(x.1.length:Int)-1:=IntWalk.i64_in _ (by omega);refine pw func36 ⟨[0,1,2,3,4,5,6,7,20,33,46,58],[(1,(.opt 7 3 (.cons 3 [4,5] (.cons 6 [] (.cons 8 [] .nil .nil) .nil) .nil) (.cons 3 [4,5] (.cons 6 [] (.cons 7 [] (.cons 8 [] .nil .nil) .nil) (.cons 7 [4,5] (.cons 6 [] (.cons 8 [] .nil .nil) .nil) .nil)) .nil)))]⟩ ?_;simp only[Tryz.f36,ntmps36,iz,seval];simp only[vx,T,seval,nX,nV,tC,aa,w1]
 repeat' (with_reducible refine And.intro ?_ ?_)
 all_goals first|omega|skip
 all_goals refine Lk (fun y:{y:Nat×(List El×El)//y.1≤y.2.1.length∧cB A 64 y.2.1 y.2.2 v∧kP y.1 y.2=R}=>⟨[(2,.one (.ptr 1 0)),(3,.one (.ptr 2 0)),(4,.one (.int .i64 ((y.1.1:Int)-1)))],[(1,⟨.var [.nil,.nil],true⟩),(2,⟨.var [.own 3 1 0 y.1.2.1.length,aa y.1.2.2],true⟩),(3,⟨.rows 35 1 y.1.2.1.length (fun i _=>aa (y.1.2.1.getD i [])),true⟩)],4,85⟩) (fun y=>y.1.1) ⟨(x.1.length,x),Nat.le_refl _,hx,hR.symm⟩ ?_ (fun⟨⟨n,t,a⟩,hn,hs,hr⟩=>?_)
 all_goals first
  |(refine j4 [(1,some 2),(2,some 10),(3,some 12)] ?_;simp only[ry,seval,tC,aa,Nat.not_lt_zero,Nat.sub_zero];done)
  |(refine j4 [(1,some 2),(2,some 14),(3,some 12)] ?_;simp only[ry,seval,tC,aa,Nat.not_lt_zero,Nat.sub_zero];done)
  |(refine j4 [(1,some 2),(2,some 13),(3,some 12)] ?_;simp only[ry,seval,tC,aa,Nat.not_lt_zero,Nat.sub_zero];done)
  |skip
 all_goals
  simp only at hn hs hr;have t3:=hs.tg.kg S hA;have al:a.length≤2^3:=by rw[hs.len];exact Nat.pow_le_pow_right (by decide) t3
  have tl:∀m,m<t.length→(t.getD m []).length=2^m:=fun m hm=>(hs.tg.rd.rl m hm).1;simp only[vx,T,seval,tC,aa];refine⟨fun g=>Lg ?_,fun g=>Lg ?_⟩
  ·obtain⟨i,rfl⟩:∃i,n=i+1:=⟨n-1,by omega⟩;have e0:((i+1:Nat):Int)-1=(i:Int):=by omega
   have i1:=wI i (by omega);have i2:IntKind.i64.wrap ((i:Int)-1)=(i:Int)-1:=IntWalk.i64_in _ (by omega);obtain⟨b0,Xy⟩:∃b:Bool,b=true↔Oc i a:=DI _;have c1:=AA a i (by omega) (by omega) (iL.qk hs.bits (by decide)) Xy;clear g;simp only[vx,T,seval,tC,aa,e0,i1];refine Cg c1 ?_;simp only[vx,T,seval,tC,aa,e0,i1];refine Lk (fun y:{p:Nat×Bool//i+1≤p.1∧p.1≤t.length∧(p.2=true↔Nd i (t,a) p.1)}=>⟨[(2,.one (.ptr 1 0)),(3,.one (.ptr 2 0)),(4,.one (.int .i64 i)),(5,.one (.bool y.1.2)),(6,.one (.int .i64 y.1.1))],[(1,⟨.var [.nil,.nil],true⟩),(2,⟨.var [.own 3 1 0 t.length,aa a],true⟩),(3,⟨.rows 35 1 t.length (fun i _=>aa (t.getD i [])),true⟩)],4,85⟩) (fun y=>t.length-y.1.1) ⟨(i+1,b0),Nat.le_refl _,hn,Xy.trans ⟨.inl,fun h=>h.elim id fun⟨m,h1,h2,_⟩=>absurd h1 (by simp only at h2;omega)⟩⟩ ?_ (fun⟨⟨k,b⟩,XZ,SX,hb⟩=>?_)
   ·refine j4 [(1,some 1),(2,some 2),(3,some 3)] ?_;simp only[ry,seval,tC,aa]
   simp only at XZ SX hb;have k1:=wI k (by omega);simp only[vx,T,seval,tC,aa];refine⟨fun g=>Lg ?_,fun g=>Lg ?_⟩
   ·have TV:k<t.length:=by omega
    have Wd:=tl k TV;have p8:2^k≤2^3:=Nat.pow_le_pow_right (by decide) (by omega);obtain⟨b1,Uk⟩:∃b:Bool,b=true↔Oc i (t.getD k []):=DI _;have c2:=AA (t.getD k []) i (by omega) (by omega) (iL.qk (hs.tb k TV) (by decide)) Uk;have nx:∀b':Bool,(b'=true↔b=true∨b1=true)→(b'=true↔Nd i (t,a) (k+1)):=fun b' h=>by
     rw[h,hb,Uk]
     constructor
     ·rintro((h|⟨m,h1,h2,h3⟩)|h)
      ·exact .inl h
      ·exact .inr ⟨m,h1,by omega,h3⟩
      exact .inr ⟨k,by omega,by omega,h⟩
     rintro(h|⟨m,h1,h2,h3⟩)
     ·exact .inl (.inl h)
     by_cases hm:m=k
     ·subst hm;exact .inr h3
     exact .inl (.inr ⟨m,h1,by omega,h3⟩)
    obtain⟨e,he⟩:∃e,e=t.getD k []:=⟨_,rfl⟩;rw[←he]at c2;simp only[vx,T,seval,tC,aa,k1];refine⟨fun h=>Lg ?_,fun h=>Lg ?_⟩
    ·simp only[vx,T,seval,tC,aa,k1];refine Lq ⟨(k+1,true),by simp only;omega,TV,nx true ⟨fun _=>.inl h,fun _=>rfl⟩⟩ ?_ (by show t.length-(k+1)<t.length-k;omega);refine j4 [(1,some 1),(2,some 2),(3,some 3)] ?_;simp only[ry,seval,tC,aa]
    simp only[vx,T,seval,tC,aa,k1,←he];refine⟨by omega,Cg c2 ?_⟩;simp only[vx,T,seval,tC,aa,k1];refine Lq ⟨(k+1,b1),by simp only;omega,TV,nx b1 ⟨.inr,fun x=>x.elim (fun y=>absurd y (by rw[h];decide)) id⟩⟩ ?_ (by show t.length-(k+1)<t.length-k;omega);refine j4 [(1,some 1),(2,some 2),(3,some 3)] ?_;simp only[ry,seval,tC,aa]
   have TV:k=t.length:=by omega
   subst TV;clear g
   cases b with
   |true=>
    have e1:kP i (t,a)=R:=by rw[←hr,kP,if_pos (hb.1 rfl)]
    simp only[vx,T,seval,tC,aa,i2];refine Lq ⟨(i,t,a),by simp only;omega,hs,e1⟩ ?_ (by show i<i+1;omega);refine j4 [(1,some 1),(2,some 2),(3,some 3)] ?_;simp only[ry,seval,tC,aa]
   |false=>
    have no:¬Nd i (t,a) t.length:=fun h=>absurd (hb.2 h) (by decide);have na:¬Oc i a:=fun h=>no (.inl h);have nt:∀k,i<k→k<t.length→¬Oc i (t.getD k []):=fun k h1 h2 h3=>no (.inr ⟨k,h1,h2,h3⟩);have e1:kP i (fv i t,wo i a a.length)=R:=by rw[←hr,kP,if_neg no]
    have Ul:=hs.drop (by omega) nt na;have c3:=(vO a i (by omega) (by omega)).rows;rw[←GG]at c3;obtain⟨a',R8⟩:∃a',a'=wo i a a.length:=⟨_,rfl⟩;rw[←R8]at c3 e1 Ul;clear k1 hb Xy c1 hr hs no na x hx hR h3 w1;simp only[vx,T,seval,tC,aa,i1];refine Cg c3 ?_;simp only[vx,T,seval,tC,aa,i1];refine Lk (fun y:{k:Nat//i+1≤k∧k≤t.length}=>⟨[(2,.one (.ptr 1 0)),(3,.one (.ptr 2 0)),(4,.one (.int .i64 i)),(7,.one (.int .i64 y.1))],[(1,⟨.var [.nil,.nil],true⟩),(2,⟨.var [.own 3 1 0 t.length,aa a'],true⟩),(3,⟨.rows 35 1 t.length (fun m _=>aa (wR t i y.1 m)),true⟩)],4,85⟩) (fun y=>t.length-y.1) ⟨i+1,Nat.le_refl _,hn⟩ ?_ (fun⟨k,XZ,SX⟩=>?_)
    ·refine j4 [(1,some 1),(2,some 2),(3,some 3)] ?_;simp only[ry,seval,tC,aa];exact fun m j _ _=>congrArg aa GP.symm
    simp only;have k1:=wI k (by omega);simp only[vx,T,seval,tC,aa];refine⟨fun g=>Lg ?_,fun g=>Lg ?_⟩
    ·have TV:k<t.length:=by omega
     have Wd:=tl k TV;have p8:2^k≤2^3:=Nat.pow_le_pow_right (by decide) (by omega);have c4:=(vO (t.getD k []) i (by omega) (by omega)).rows;rw[←GG,Wd]at c4;obtain⟨e,he⟩:∃e,e=wo i (t.getD k []) (2^k):=⟨_,rfl⟩;rw[←he,←JR (i:=i)]at c4;obtain⟨u,hu⟩:∃u,u=wR t i k k:=⟨_,rfl⟩;rw[←hu]at c4;simp only[vx,T,seval,tC,aa,k1,←hu];refine⟨by omega,Cg c4 ?_⟩;simp only[vx,T,seval,tC,aa,k1];refine⟨by omega,Lq ⟨k+1,by omega,TV⟩ ?_ (by show t.length-(k+1)<t.length-k;omega)⟩;refine j4 [(1,some 1),(2,some 2),(3,some 3)] ?_;simp only[ry,seval,tC,aa];exact fun m j _ hj=>OB (by omega) he hj
    have TV:k=t.length:=by omega
    subst TV;have dl:(fv i t).length=t.length-1:=kM;have en:i+((t.length:Int)-((i+1:Nat):Int)).toNat=t.length-1:=by omega
    simp only[vx,T,seval,tC,aa,i1,i2,en];refine⟨by omega,by omega,by omega,Lq ⟨(i,fv i t,a'),by simp only[dl];omega,Ul,e1⟩ ?_ (by show i<i+1;omega)⟩;refine j4 [(1,some 1),(2,some 2),(3,some 22)] ?_;simp only[ry,seval,tC,aa,dl];exact fun m j hm _=>JL (by omega) hm
  obtain rfl:n=0:=by omega
  obtain rfl:(t,a)=R:=hr;simp only[vx,T,seval,tC,aa];exact Ve rfl
end
open Go Go.Eng
open Go.Tw (El aB aJ zE ai ar aq ao ae QB mS ah ag aP aI tB aX aG dI)
theorem dP {h:Nat}{t:List El}(hh:h≤8)(q:Rat):Fr prog 88 [tV h t,QV q] (.rows 62 4 (aX h q).length (fQ (aX h q))):=by
 have hp:=aN hh;have z:=bc 0 (by decide) (by decide);have hs:=dL (h:=h) hh;have hl:(aX h q).length=2^h:=aG;have h1:1≤2^h:=Nat.two_pow_pos h;have RM:∀k,k+1<2^h→(q::zE k)++[0]=q::zE (k+1):=fun k _=>by
  rw[List.cons_append,←Go.Tw.Bz];rfl
 have er:aX h q=q::zE (2^h-1):=rfl;rw[er]at hl⊢;obtain⟨N,hN⟩:∃N,N=2^h:=⟨_,rfl⟩;rw[←hN]at hs hl hp h1 RM⊢;refine fw func88 ⟨[0,1,3,4,5,13],[]⟩ ?_;simp only[Tryz.f88,ntmps88,iz,seval];simp only[vx,T,seval,tV,tC,eV,aa,QV,QC];refine Lk (fun y:{k:Nat//k+1≤N}=>⟨[(0,tV h t),(4,.one .nil),(5,.one (.own 2 4 0 (y.1+1)))],[(2,⟨.rows 62 4 (y.1+1) (fQ (q::zE y.1)),true⟩)],3,19⟩) (fun y=>N-(y.1+1)) ⟨0,by omega⟩ ?_ (fun⟨k,hk⟩=>?_)
 ·refine Sa ?_;simp only[ry,seval,rz,tV,tC,eV,aa];intro i j hi hj;obtain rfl:i=0:=by omega
  rw[Nat.zero_mul,Nat.zero_add];exact dx q rfl j
 simp only;simp only[vx,T,seval,tV,tC,eV,aa,hs];refine⟨by omega,?_⟩;refine⟨fun g=>Lg ?_,fun g=>Lg ?_⟩
 ·simp only[vx,T,seval,tV,tC,eV,aa,hs];refine Cg z ?_;simp only[vx,T,seval,tV,tC,eV,aa,hs,QV,QC];refine⟨⟨by omega,by omega⟩,Lq ⟨k+1,by omega⟩ ?_ (by show N-(k+1+1)<N-(k+1);omega)⟩;refine Sa ?_;simp only[ry,seval,rz,tV,tC,eV,aa,hs];rw[←RM k (by omega)];exact Df (by rw[List.length_cons,ar]) (Rat.ofInt 0)
 simp only[vx,T,seval,tV,tC,eV,aa,hs];have ek:k=N-1:=by omega
 subst ek;exact⟨ar.symm,rfl,by rw[ar],fun _ _ _ _=>rfl⟩
theorem Oq {h:Nat}{U:List El}(h8:h+1≤8):Pr prog 122 [tV (h+1) U,.one (.int .i64 h)] (eV (dI h)):=by
 have Ul:=dL (h:=h) (by omega);have hp:=aN h8;have o0:=bc 0 (by decide) (by decide);have o:=bc 1 (by decide) (by decide);have z:=dP (h:=h+1) (t:=U) h8 (Rat.ofInt 0);have e0:aX (h+1) (Rat.ofInt 0)=zE (2^(h+1)):=by
  have:=Nat.two_pow_pos (h+1)
  show(0:Rat)::List.replicate (2^(h+1)-1) 0=List.replicate (2^(h+1)) 0
  rw[←List.replicate_succ];congr 1;omega
 rw[e0]at z;have Ru:2^h<2^(h+1):=Nat.pow_lt_pow_right (by decide) (by omega);have hlen:(zE (2^(h+1))).length=2^(h+1):=ar;obtain⟨N,hN⟩:∃N,N=2^(h+1):=⟨_,rfl⟩;obtain⟨M,hM⟩:∃M,M=2^h:=⟨_,rfl⟩;have st:=zf h;rw[←hN]at z Ru hlen hp st;rw[←hM]at Ul Ru st;refine pw func122 ⟨[0,1,4,5],[]⟩ ?_;simp only[Tryz.f122,ntmps122,iz,seval];simp only[vx,T,seval,tV,tC,aa];refine Cg o0 ?_;simp only[vx,T,seval,tV,tC,aa,QV,QC];refine cH.fresh z ?_;simp only[vx,T,seval,tV,tC,aa,Ul,hlen];refine⟨by omega,Cg o ?_⟩;simp only[vx,T,seval,tV,tC,aa,QV,QC,Ul,hlen];exact⟨⟨by omega,by omega⟩,fT.cell (dK.rows (by rw[Go.Tw.kJ,hN]) fun i j _ hj=>.of_eq (st i j hj))⟩
theorem Fm (q:Rat)(hq:qm q<2^40):Pr prog 157 [QV q] (.one (.bool true)):=by
 have h:=yu (zs q.num) (zs (q.den:Int)) (zm q.num) (zm (q.den:Int)) (ql _) (ql _) (by unfold qm at hq;rw[aT];omega) (by unfold qm at hq;rw[aT,aC];omega);rw[Mu]at h;exact h
theorem Dh (a:El)(n:Nat)(hl:a.length=n)(hn:n<2^38)(hq:Qk a):Pr prog 120 [eV a,.one (.int .i64 n)] (.one (.bool true)):=by
 subst hl;refine pw func120 ⟨[0,1,4,5,9,17],[]⟩ ?_;simp only[Tryz.f120,ntmps120,iz,seval];simp only[vx,T,seval,eV,aa];refine Lk (fun y:{i:Nat//i≤a.length}=>⟨[(0,eV a),(1,.one (.int .i64 a.length)),(4,.one (.bool false)),(5,.one (.int .i64 y.1))],[],2,22⟩) (fun y=>a.length-y.1) ⟨0,Nat.zero_le _⟩ ?_ (fun⟨i,hi⟩=>?_)
 ·refine Sa ?_;simp only[ry,seval,rz,eV,aa]
 have i1:=wI i (by omega);simp only[vx,T,seval,eV,aa];refine⟨fun h1=>Lg ?_,fun h1=>Lg ?_⟩
 ·have v:=Fm _ (Nat.lt_trans (hq.get i) (by decide));obtain⟨x,hx⟩:∃x,x=a.getD i default:=⟨_,rfl⟩;rw[←hx]at v;simp only[vx,T,seval,eV,aa,←hx,qC];refine⟨by omega,Cg v ?_⟩;simp only[vx,T,seval,eV,aa,i1];refine Lq ⟨i+1,by omega⟩ ?_ (by show a.length-(i+1)<a.length-i;omega);refine Sa ?_;simp only[ry,seval,rz,eV,aa]
 simp only[vx,T,seval,eV,aa];exact Ve rfl
theorem Dm {h:Nat}{t:List El}(tk:Tk h t):Pr prog 119 [tV h t] (.one (.bool true)):=by
 have h8:=tk.le8;refine pw func119 ⟨[0,2,3,7,17],[]⟩ ?_;simp only[Tryz.f119,ntmps119,iz,seval];simp only[vx,T,seval,tV,tC];refine Lk (fun y:{i:Nat//i≤h}=>⟨[(0,tV h t),(2,.one (.bool false)),(3,.one (.int .i64 y.1))],[],1,18⟩) (fun y=>h-y.1) ⟨0,Nat.zero_le _⟩ ?_ (fun⟨i,hi⟩=>?_)
 ·refine Sa ?_;simp only[ry,seval,rz,tV,tC]
 have i1:=wI i (by omega);simp only[vx,T,seval,tV,tC];refine⟨fun g=>Lg ?_,fun g=>Lg ?_⟩
 ·have Zn:i<h:=by omega
  have hs:=dL (h:=i) (by omega);have r:=Dh (t.getD i []) (2^i) (tk.len i Zn) (aN (by omega)) (tk.q i Zn);simp only[vx,T,seval,tV,tC,aa,hs];refine⟨by omega,by omega,Cg r ?_⟩;simp only[vx,T,seval,tV,tC,i1];refine Lq ⟨i+1,by omega⟩ ?_ (by show h-(i+1)<h-i;omega);refine Sa ?_;simp only[ry,seval,rz,tV,tC]
 simp only[vx,T,seval,tV,tC];exact Ve rfl
theorem uz {h:Nat}{t:List El}(tk:Tk h t)(a:El)(ha:a.length=2^h)(hq:Qk a):Pr prog 83 [tV h t,eV a] (.one (.bool true)):=by
 have hs:=dL (h:=h) tk.le8;have r:=Dh a (2^h) ha (aN tk.le8) hq;have tw:=Dm tk;refine pw func83 ⟨[0,1,4],[]⟩ ?_;simp only[Tryz.f83,ntmps83,iz,seval];simp only[vx,T,seval,tV,tC,eV,aa,hs];refine Cg tw ?_;simp only[vx,T,seval,tV,tC,eV,aa,hs];refine⟨by omega,Cg r ?_⟩;simp only[vx,T,seval,tV,tC];exact Ve rfl
open Go Go.Eng
open Go.Tw (El aB aJ zE ai ar aq ao ae QB mS ah ag aP aI tB aX aG)
theorem Lp:∀{a:El} {n:Nat},a.length=n→aB (zE n) a=a:=fun h=>by rw[Go.Tw.qt,Go.Tw.jb h]
theorem KH {h:Nat}{t:List El}{a b:El}(ha:a.drop (2^h)=zE (2^h))(hb:b.drop (2^h)=zE (2^h)):ai (h+1) t a b=ai h t (a.take (2^h)) (b.take (2^h))++zE (2^h):=by
 rw[ai,ha,hb,Go.Tw.bG,Go.Tw.bG,Go.Tw.jb ae,Go.Tw.gr,Go.Tw.bG,Go.Tw.jb ar]
theorem KC {h:Nat}{t:List El}{a b:El}(ha:a.drop (2^h)=zE (2^h)):ai (h+1) t a b=ai h t (a.take (2^h)) (b.take (2^h))++ai h t (a.take (2^h)) (b.drop (2^h)):=by
 rw[ai,ha,Go.Tw.bG,Go.Tw.bG,Go.Tw.jb ae,Go.Tw.bG,Go.Tw.jb ae]
theorem LC {h:Nat}{t:List El}{a b:El}(hb:b.drop (2^h)=zE (2^h)):ai (h+1) t a b=ai h t (a.take (2^h)) (b.take (2^h))++ai h t (a.drop (2^h)) (b.take (2^h)):=by
 rw[ai,hb,Go.Tw.gr,Go.Tw.bG,Go.Tw.jb ae,Go.Tw.gr,Lp ae]
theorem N2 {a b:El}{t:List El}(ha:a.length=2^0)(hb:b.length=2^0)(qa:Qk a)(qb:Qk b):
  Fr prog 51 [tV 0 t,eV a,eV b] (.rows 62 4 (ai 0 t a b).length (fQ (ai 0 t a b))):=by
 have Uw:=qa.get 0;have V1:=qb.get 0;have em:ai 0 t a b=[a.getD 0 default*b.getD 0 default]:=rfl;obtain⟨x,hx⟩:∃x,x=a.getD 0 default:=⟨_,rfl⟩;obtain⟨y,hy⟩:∃y,y=b.getD 0 default:=⟨_,rfl⟩;rw[←hx,←hy]at em;rw[←hx]at Uw;rw[←hy]at V1;refine fw func51 ⟨[0,1,2,6,7,8,9,10,11,12,15,57,63,74],[(4,.nil)]⟩ ?_;simp only[Tryz.f51,ntmps51,iz,seval];simp only[vx,T,seval,tV,tC,eV,aa,←hx,←hy,qC];refine⟨by omega,by omega,Cg (Cw x y Uw V1) ?_⟩;simp only[vx,T,seval,QV,QC];rw[em];refine⟨rfl,rfl,rfl,fun i j hi hj=>?_⟩;obtain rfl:i=0:=by omega
 show List.getD _ (0*4+j) _=_;rw[Nat.zero_mul,Nat.zero_add];exact dx (x*y) rfl j
def bf (a:El)(n:Nat):C:=.rows 4 n (fun i=>qC (a.getD i default))
def ba (a:El)(n:Nat):C:=.rows 4 (a.length-n) (fun i=>qC (a.getD (n+i) default))
theorem ND {t:List El}{C:Nat}(hC:1≤C){h:Nat}(ih:∀{a b:El} {A B:Nat},1≤A→1≤B→a.length=2^h→b.length=2^h→QB A a→QB B b→mS h (A+B) C<2^38→
  Fr prog 51 [tV h t,eV a,eV b] (.rows 62 4 (ai h t a b).length (fQ (ai h t a b)))) {a b:El} {A B:Nat} (tk:Tk (h+1) t) (ht:∀i,i<h+1→QB C (t.getD i []))
  (h1:1≤A) (h2:1≤B) (ha:a.length=2^(h+1)) (hb:b.length=2^(h+1)) (qa:QB A a) (qb:QB B b) (hs:mS (h+1) (A+B) C<2^38):
  Fr prog 51 [tV (h+1) t,eV a,eV b] (.rows 62 4 (ai (h+1) t a b).length (fQ (ai (h+1) t a b))):=by
 have hh:=tk.le8;have hp:2^h≤2^8:=Nat.pow_le_pow_right (by decide) (by omega);have h30:2^h<2^30:=Nat.lt_of_le_of_lt hp (by decide);have h38:2^h<2^38:=Nat.lt_of_le_of_lt hp (by decide);have S1:=Go.Tw.il (h:=h) (S:=A+B) (C:=C);have XC:=Go.Tw.il (h:=h) (S:=mS h (A+B) C+C) (C:=C);rw[mS]at hs;have Sg:=ah ha;have Sd:=ag ha;have Yk:=ah hb;have W5:=ag hb;have SO:∀i,i<h→QB C (t.getD i []):=fun i hi=>ht i (by omega);have m1:=ih h1 h2 Sg Yk (qa.take _) (qb.take _) (by omega);have m2:=ih h1 h2 Sd W5 (qa.drop _) (qb.drop _) (by omega);have m3:=ih h1 h2 Sg W5 (qa.take _) (qb.drop _) (by omega);have m4:=ih h1 h2 Sd Yk (qa.drop _) (qb.take _) (by omega);have g1:=QB.mul hC SO h1 h2 (qa.take (2^h)) (qb.take (2^h));have g2:=QB.mul hC SO h1 h2 (qa.drop (2^h)) (qb.drop (2^h));have g3:=QB.mul hC SO h1 h2 (qa.take (2^h)) (qb.drop (2^h));have g4:=QB.mul hC SO h1 h2 (qa.drop (2^h)) (qb.take (2^h));have m5:=ih (by omega) hC ae (tk.len h (by omega)) g2 (ht h (by omega)) (by omega);have g5:=QB.mul hC SO (by omega) hC g2 (ht h (by omega));have a1:=s9 (h:=h) (t:=t) _ _ (by rw[ae];exact h30) (by rw[ae,ae]) (Qk.of g1 (by omega)) (Qk.of g5 (by omega));have a2:=s9 (h:=h) (t:=t) _ _ (by rw[ae];exact h30) (by rw[ae,ae]) (Qk.of g3 (by omega)) (Qk.of g4 (by omega));have za:=jx (a.drop (2^h)) (by rw[Sd];exact h38);have zb:=jx (b.drop (2^h)) (by rw[W5];exact h38);have o0:=bc 0 (by decide) (by decide);have fz:=(dP (h:=h) (t:=t) (by omega) (Rat.ofInt 0)).rows;have ez:aX h (Rat.ofInt 0)=zE (2^h):=by
  have:=Nat.two_pow_pos h
  show(0:Rat)::List.replicate (2^h-1) 0=List.replicate (2^h) 0
  rw[←List.replicate_succ];congr 1;omega
 rw[ez]at fz;have U3:(2^h:Nat)≤a.length:=by rw[ha,Nat.pow_succ];omega
 have ZY:(2^h:Nat)≤b.length:=by rw[hb,Nat.pow_succ];omega
 have cTa:=fu U3;have cDa:=eW (a:=a) (n:=2^h);have cTb:=fu ZY;have cDb:=eW (a:=b) (n:=2^h);have m1:=fV (xs:=[tV h t,.one (bf a (2^h)),.one (bf b (2^h))]) m1 ⟨.refl _,.cell cTa,.cell cTb,trivial⟩;have m2:=(fV (xs:=[tV h t,.one (ba a (2^h)),.one (ba b (2^h))]) m2 ⟨.refl _,.cell cDa,.cell cDb,trivial⟩).rows;have m3:=(fV (xs:=[tV h t,.one (bf a (2^h)),.one (ba b (2^h))]) m3 ⟨.refl _,.cell cTa,.cell cDb,trivial⟩).rows;have m4:=(fV (xs:=[tV h t,.one (ba a (2^h)),.one (bf b (2^h))]) m4 ⟨.refl _,.cell cDa,.cell cTb,trivial⟩).rows;have m5:=m5.rows;have a2:=a2.rows;have za:=za.args (xs:=[.one (ba a (2^h))]) ⟨.cell cDa,trivial⟩;have zb:=zb.args (xs:=[.one (ba b (2^h))]) ⟨.cell cDb,trivial⟩;have em:=fun(x:a.drop (2^h)=zE (2^h)) (y:b.drop (2^h)=zE (2^h))=>KH (t:=t) x y;have en:=fun(x:a.drop (2^h)=zE (2^h))=>KC (t:=t) (b:=b) x;have eo:=fun(y:b.drop (2^h)=zE (2^h))=>LC (t:=t) (a:=a) y;have ep:ai (h+1) t a b=aB (ai h t (a.take (2^h)) (b.take (2^h))) (ai h t (ai h t (a.drop (2^h)) (b.drop (2^h))) (t.getD h []))++aB (ai h t (a.take (2^h)) (b.drop (2^h))) (ai h t (a.drop (2^h)) (b.take (2^h))):=rfl;have l1:(ai h t (a.take (2^h)) (b.take (2^h))).length=2^h:=ae;have l2:(ai h t (a.drop (2^h)) (b.drop (2^h))).length=2^h:=ae;have l3:(ai h t (a.take (2^h)) (b.drop (2^h))).length=2^h:=ae;have l4:(ai h t (a.drop (2^h)) (b.take (2^h))).length=2^h:=ae;have l5:(ai h t (ai h t (a.drop (2^h)) (b.drop (2^h))) (t.getD h [])).length=2^h:=ae;have lz:(zE (2^h)).length=2^h:=ar;rw[Sd]at za;rw[W5]at zb;clear g1 g2 g3 g4 g5 ih cTa cDa cTb cDb;obtain⟨p,hP⟩:∃p,p=ai (h+1) t a b:=⟨_,rfl⟩;rw[←hP]at em en eo ep⊢;obtain⟨za',XD⟩:∃z,z=decide (a.drop (2^h)=zE (2^h)):=⟨_,rfl⟩;obtain⟨zb',Yj⟩:∃z,z=decide (b.drop (2^h)=zE (2^h)):=⟨_,rfl⟩;rw[←XD]at za;rw[←Yj]at zb;have em:za'=true→zb'=true→p=ai h t (a.take (2^h)) (b.take (2^h))++zE (2^h):=fun x y=>em (of_decide_eq_true (XD▸x)) (of_decide_eq_true (Yj▸y));have en:za'=true→p=ai h t (a.take (2^h)) (b.take (2^h))++ai h t (a.take (2^h)) (b.drop (2^h)):=fun x=>en (of_decide_eq_true (XD▸x));have eo:zb'=true→p=ai h t (a.take (2^h)) (b.take (2^h))++ai h t (a.drop (2^h)) (b.take (2^h)):=fun y=>eo (of_decide_eq_true (Yj▸y));clear XD Yj hP;obtain⟨p1,TK⟩:∃p,p=ai h t (a.take (2^h)) (b.take (2^h)):=⟨_,rfl⟩;obtain⟨p2,Tp⟩:∃p,p=ai h t (a.drop (2^h)) (b.drop (2^h)):=⟨_,rfl⟩;obtain⟨p3,UP⟩:∃p,p=ai h t (a.take (2^h)) (b.drop (2^h)):=⟨_,rfl⟩;obtain⟨p4,XF⟩:∃p,p=ai h t (a.drop (2^h)) (b.take (2^h)):=⟨_,rfl⟩;obtain⟨r,hr⟩:∃r,r=t.getD h []:=⟨_,rfl⟩;rw[←Tp,←hr]at m5 l5;rw[←Tp,←hr,←TK]at a1;rw[←Tp,←hr,←TK,←UP,←XF]at ep;rw[←TK]at m1 em en eo l1;rw[←Tp]at m2 l2;rw[←UP]at m3 en l3;rw[←XF]at m4 eo l4;rw[←UP,←XF]at a2;obtain⟨p5,XE⟩:∃p,p=ai h t p2 r:=⟨_,rfl⟩;rw[←XE]at m5 a1 ep l5;obtain⟨s1,Ux⟩:∃p,p=aB p1 p5:=⟨_,rfl⟩;obtain⟨s2,TX⟩:∃p,p=aB p3 p4:=⟨_,rfl⟩;have ls1:s1.length=2^h:=by rw[Ux];exact ao l1 l5
 have ls2:s2.length=2^h:=by rw[TX];exact ao l3 l4
 rw[←Ux]at a1 ep;rw[←TX]at a2 ep;obtain⟨n,RK⟩:∃n,n=2^h:=⟨_,rfl⟩;obtain⟨zn,S9⟩:∃zn,zn=zE (2^h):=⟨_,rfl⟩;rw[←S9]at fz em lz;have RT:a.length=2*n:=by rw[ha,Nat.pow_succ,RK];omega
 have Sc:b.length=2*n:=by rw[hb,Nat.pow_succ,RK];omega
 rw[←RK]at hp za zb m1 m2 m3 m4 l1 l2 l3 l4 l5 ls1 ls2 lz;clear h30 h38 hs S1 XC Sg Sd Yk W5 U3 ZY TK Tp UP XF XE Ux TX ez S9 ht SO hC h1 h2 ha hb qa qb RK tk;have w1:IntKind.i64.wrap (((h+1:Nat):Int)-1)=(h:Int):=by rw[IntWalk.i64_in _ (by omega)];omega
 have w2:IntKind.i64.wrap (((a.length:Nat):Int).tdiv 2)=(n:Int):=by
  rw[RT,Int.tdiv_eq_ediv_of_nonneg (by omega),IntWalk.i64_in _ (by omega)];omega
 have w4:((a.length:Int)-(n:Int)).toNat=a.length-n:=by omega
 have w5:((b.length:Int)-(n:Int)).toNat=b.length-n:=by omega
 refine fw func51 ⟨[0,1,2,6,7,8,9,10,11,12,15,57,63,74],[(4,.nil)]⟩ ?_;simp only[Tryz.f51,ntmps51,iz,seval];simp only[vx,T,seval,tV,tC,eV,aa,bf,ba,QV,QC,w1,w2,w4,w5,←hr];refine⟨fun h=>absurd h (by omega),fun _=>Lg ?_⟩;simp only[vx,T,seval,tV,tC,eV,aa,bf,ba,QV,QC,w1,w2,w4,w5,←hr];refine⟨⟨by omega,by omega⟩,⟨by omega,by omega⟩,⟨by omega,by omega,by omega⟩,Cg za ?_⟩;simp only[vx,T,seval,tV,tC,eV,aa,bf,ba,QV,QC,w1,w2,w4,w5,←hr];refine⟨⟨by omega,by omega,by omega⟩,Cg zb ?_⟩;simp only[vx,T,seval,tV,tC,eV,aa,bf,ba,QV,QC,w1,w2,w4,w5,←hr];refine⟨⟨by omega,by omega⟩,⟨by omega,by omega⟩,cH.fresh m1 ?_⟩
 cases za' with
 |true=>
  cases zb' with
  |true=>
   rw[em rfl rfl];simp only[vx,T,seval,tV,tC,eV,aa,bf,ba,QV,QC,w1,w2,w4,w5,←hr];refine Cg o0 ?_;simp only[vx,T,seval,tV,tC,eV,aa,bf,ba,QV,QC,w1,w2,w4,w5,←hr];refine Cg fz ?_;simp only[vx,T,seval,tV,tC,eV,aa,bf,ba,QV,QC,w1,w2,w4,w5,←hr];exact⟨⟨by omega,by omega⟩,List.length_append.symm,rfl,List.length_append.symm,fun i j _ _=>lD p1 zn i j⟩
  |false=>
   rw[en rfl];simp only[vx,T,seval,tV,tC,eV,aa,bf,ba,QV,QC,w1,w2,w4,w5,←hr];refine⟨⟨by omega,by omega⟩,⟨by omega,by omega,by omega⟩,Cg m3 ?_⟩;simp only[vx,T,seval,tV,tC,eV,aa,bf,ba,QV,QC,w1,w2,w4,w5,←hr];exact⟨⟨by omega,by omega⟩,List.length_append.symm,rfl,List.length_append.symm,fun i j _ _=>lD p1 p3 i j⟩
 |false=>
  cases zb' with
  |true=>
   rw[eo rfl];simp only[vx,T,seval,tV,tC,eV,aa,bf,ba,QV,QC,w1,w2,w4,w5,←hr];refine⟨⟨by omega,by omega,by omega⟩,⟨by omega,by omega⟩,Cg m4 ?_⟩;simp only[vx,T,seval,tV,tC,eV,aa,bf,ba,QV,QC,w1,w2,w4,w5,←hr];exact⟨⟨by omega,by omega⟩,List.length_append.symm,rfl,List.length_append.symm,fun i j _ _=>lD p1 p4 i j⟩
  |false=>
   rw[ep];simp only[vx,T,seval,tV,tC,eV,aa,bf,ba,QV,QC,w1,w2,w4,w5,←hr];refine⟨⟨by omega,by omega,by omega⟩,⟨by omega,by omega,by omega⟩,Cg m2 ?_⟩;simp only[vx,T,seval,tV,tC,eV,aa,bf,ba,QV,QC,w1,w2,w4,w5,←hr];refine Cg m5 ?_;simp only[vx,T,seval,tV,tC,eV,aa,bf,ba,QV,QC,w1,w2,w4,w5,←hr];refine cH.fresh a1 ?_;simp only[vx,T,seval,tV,tC,eV,aa,bf,ba,QV,QC,w1,w2,w4,w5,←hr];refine⟨⟨by omega,by omega⟩,⟨by omega,by omega,by omega⟩,Cg m3 ?_⟩;simp only[vx,T,seval,tV,tC,eV,aa,bf,ba,QV,QC,w1,w2,w4,w5,←hr];refine⟨⟨by omega,by omega,by omega⟩,⟨by omega,by omega⟩,Cg m4 ?_⟩;simp only[vx,T,seval,tV,tC,eV,aa,bf,ba,QV,QC,w1,w2,w4,w5,←hr];refine Cg a2 ?_;simp only[vx,T,seval,tV,tC,eV,aa,bf,ba,QV,QC,w1,w2,w4,w5,←hr];exact⟨⟨by omega,by omega⟩,List.length_append.symm,rfl,List.length_append.symm,fun i j _ _=>lD s1 s2 i j⟩
theorem fU {t:List El}{C:Nat}(hC:1≤C):∀{h:Nat} {a b:El} {A B:Nat},Tk h t→(∀i,i<h→QB C (t.getD i []))→1≤A→1≤B→a.length=2^h→b.length=2^h→QB A a→QB B b→mS h (A+B) C<2^38→
  Fr prog 51 [tV h t,eV a,eV b] (.rows 62 4 (ai h t a b).length (fQ (ai h t a b)))
 |0,a,b,A,B,_,_,_,_,ha,hb,qa,qb,hs=>by
  have hs:A+B<2^38:=hs;exact N2 ha hb (.of qa (by omega)) (.of qb (by omega))
 |h+1,a,b,A,B,tk,ht,h1,h2,ha,hb,qa,qb,hs=>
  ND hC (fun g1 g2 la lb ga gb gs=>fU hC (tk.le (Nat.le_succ h)) (fun i hi=>ht i (by omega)) g1 g2 la lb ga gb gs) tk ht h1 h2 ha hb qa qb hs
open Go Go.Eng
open Go.Tw (El aB aJ zE ai ar aq ao ae QB mS ah ag aP aI tB aX aG cC lY val Rd)
theorem Cv {h X:Nat}{t:List El}(W:TQ (h+1) t)(a:El)(ha:a.length=2^(h+1))(Rw:1≤X)(hX:X≤2^30)(hq:QB X a):Pr prog 98 [tV (h+1) t,eV a] (eV (aP h t a)):=by
 have W':=W.le (Nat.le_succ h);have h3:=W.h3;have Sg:=ah ha;have Sd:=ag ha;have hp:2^h≤8:=Nat.pow_le_pow_right (n:=2) (by decide) (show h≤3 by omega);have hr:=W.tk.len h (by omega);have Uo:=W.q h (by omega);have ht:=W'.q;have b1:=ko (h:=h) (S:=X+X) (by omega);have b2:=ko (h:=h) (S:=mS h (X+X) tB+tB) (by omega);have btB:tB=32769:=rfl;have m1:=fU fY W'.tk ht Rw Rw Sg Sg (hq.take _) (hq.take _) (by omega);have m2:=fU fY W'.tk ht Rw Rw Sd Sd (hq.drop _) (hq.drop _) (by omega);have g1:=QB.mul fY ht Rw Rw (hq.take (2^h)) (hq.take (2^h));have g2:=QB.mul fY ht Rw Rw (hq.drop (2^h)) (hq.drop (2^h));have S1:=Go.Tw.il (h:=h) (S:=X+X) (C:=tB);have m3:=(fU fY W'.tk ht (by omega) fY ae hr g2 Uo (by omega)).rows;have g3:=QB.mul fY ht (by omega) fY g2 Uo;have sb:=(IG (h:=h) (t:=t) _ _ (by rw[ae];omega) (by rw[ae,ae]) (Qk.of g1 (by omega)) (Qk.of g3 (by omega))).rows;have hn:(2^h:Nat)≤a.length:=by rw[ha,Nat.pow_succ];omega
 have cT:=fu hn;have cD:=eW (a:=a) (n:=2^h);have m1:=(fV (xs:=[tV h t,.one (bf a (2^h)),.one (bf a (2^h))]) m1 ⟨.refl _,.cell cT,.cell cT,trivial⟩).rows;have m2:=(fV (xs:=[tV h t,.one (ba a (2^h)),.one (ba a (2^h))]) m2 ⟨.refl _,.cell cD,.cell cD,trivial⟩).rows;have em:aP h t a=aB (ai h t (a.take (2^h)) (a.take (2^h))) (aJ (ai h t (ai h t (a.drop (2^h)) (a.drop (2^h))) (t.getD h []))):=rfl;rw[←em]at sb;clear em;obtain⟨e,he⟩:∃e,e=aP h t a:=⟨_,rfl⟩;rw[←he]at sb⊢;obtain⟨n,RK⟩:∃n,n=2^h:=⟨_,rfl⟩;obtain⟨p1,TK⟩:∃p,p=ai h t (a.take (2^h)) (a.take (2^h)):=⟨_,rfl⟩;obtain⟨p2,Tp⟩:∃p,p=ai h t (a.drop (2^h)) (a.drop (2^h)):=⟨_,rfl⟩;obtain⟨r,RD⟩:∃r,r=t.getD h []:=⟨_,rfl⟩;rw[←TK]at m1 sb;rw[←Tp]at m2 m3 sb;rw[←RD]at m3 sb;obtain⟨p3,UP⟩:∃p,p=ai h t p2 r:=⟨_,rfl⟩;rw[←UP]at m3 sb;have RT:a.length=2*n:=by rw[ha,Nat.pow_succ,RK];omega
 have w1:IntKind.i64.wrap (((h+1:Nat):Int)-1)=(h:Int):=by rw[IntWalk.i64_in _ (by omega)];omega
 have w2:IntKind.i64.wrap (((a.length:Nat):Int).tdiv 2)=(n:Int):=by
  rw[RT,Int.tdiv_eq_ediv_of_nonneg (by omega),IntWalk.i64_in _ (by omega)];omega
 have w4:((a.length:Int)-(n:Int)).toNat=a.length-n:=by omega
 rw[←RK]at m1 m2;refine pw func98 ⟨[0,1,4,5,6,7],[(2,.nil)]⟩ ?_;simp only[Tryz.f98,ntmps98,iz,seval];simp only[vx,T,seval,tV,tC,eV,aa,bf,ba,QV,QC,w1,w2,w4,←RD];refine⟨⟨by omega,by omega⟩,⟨by omega,by omega⟩,⟨by omega,by omega⟩,⟨by omega,by omega⟩,Cg m1 ?_⟩;simp only[vx,T,seval,tV,tC,eV,aa,bf,ba,QV,QC,w1,w2,w4,←RD];refine⟨⟨by omega,by omega,by omega⟩,⟨by omega,by omega,by omega⟩,Cg m2 ?_⟩;simp only[vx,T,seval,tV,tC,eV,aa,bf,ba,QV,QC,w1,w2,w4,←RD];refine Cg m3 ?_;simp only[vx,T,seval,tV,tC,eV,aa,bf,ba,QV,QC,w1,w2,w4,←RD];refine Cg sb ?_;simp only[vx,T,seval,tV,tC,eV,aa,bf,ba,QV,QC,w1,w2,w4,←RD];exact Ve rfl
theorem G2 {h:Nat}{t:List El}:∀{a b:El},a.length=2^h→ai h t (aJ a) b=aJ (ai h t a b):=by
 have nadd:∀(x y:El),aJ (aB x y)=aB (aJ x) (aJ y):=by
  intro x
  induction x with
  |nil=>intro y;rfl
  |cons u x ih=>
   intro y
   cases y with
   |nil=>rfl
   |cons v y=>
    show-(u+v)::aJ (aB x y)=(-u+ -v)::aB (aJ x) (aJ y)
    rw[ih,Rat.neg_add]
 induction h with
 |zero=>
  intro a b ha;obtain⟨x,rfl⟩:=Go.Tw.bA ha
  show[-x*_]=[-(x*_)]
  rw[Rat.neg_mul]
 |succ h ih=>
  intro a b ha;have e1:(aJ a).take (2^h)=aJ (a.take (2^h)):=List.map_take.symm;have e2:(aJ a).drop (2^h)=aJ (a.drop (2^h)):=List.map_drop.symm;have e3:∀x y:El,aJ (x++y)=aJ x++aJ y:=fun x y=>List.map_append;rw[Go.Tw.ai,Go.Tw.ai,e1,e2,ih (ah ha),ih (ag ha),ih (ah ha),ih (ag ha),ih ae,e3,nadd,nadd]
def JD (h:Nat)(t:List El)(a:El)(f:FuncId):Prop:=
 (∀n,cC h t a=some n→dG prog f [tV h t,eV a] (.rows 62 4 n.length (fQ n)) (.int .i64 0))∧
 (cC h t a=none→Pr prog f [tV h t,eV a] (.aF [.one .nil,.one (.int .i64 6)]))
theorem N3 {X:Nat}{t:List El}(hX:X≤2^30){a:El}(ha:a.length=2^0)(hq:QB X a):JD 0 t a 58:=by
 obtain⟨x,rfl⟩:=Go.Tw.bA ha;have hx:qm x≤X:=hq x (by simp);have e:cC 0 t [x]=if x=0 then none else some [x⁻¹]:=rfl
 have hz:=@Cj x;unfold JD;rw[e]
 by_cases h0:x=0
 ·rw[if_pos h0];have hl:(zm x.num).length=0:=by rw[aT];exact dW.2 (by rw[h0];rfl)
  refine⟨fun n h=>(by cases h),fun _=>?_⟩;refine pw func58 ⟨[0,1,4,5,6,7,8,9,10,11,14,21,38,48,64],[]⟩ ?_;simp only[Tryz.f58,ntmps58,iz,seval];simp only[vx,T,seval,tV,tC,eV,aa,qC,X0,hl];exact Ve rfl
 rw[if_neg h0];have hl:¬((zm x.num).length:Int)=0:=by have:=hz.2 h0;omega
 refine⟨fun n h=>?_,fun h=>(by cases h)⟩;obtain rfl:=Option.some.inj h;have d:=Bl x (by omega) h0;refine tw func58 ⟨[0,1,4,5,6,7,8,9,10,11,14,21,38,48,64],[]⟩ ?_;simp only[Tryz.f58,ntmps58,iz,seval];simp only[vx,T,seval,tV,tC,eV,aa,qC,X0];refine⟨fun h=>absurd h hl,fun _=>Lg ?_⟩;simp only[vx,T,seval,tV,tC,eV,aa,qC,X0];refine Cg d ?_;simp only[vx,T,seval,QV,QC];refine⟨rfl,rfl,fun i j hi hj=>?_⟩;obtain rfl:i=0:=by omega
 show List.getD _ (0*4+j) _=_;rw[Nat.zero_mul,Nat.zero_add];exact dx x⁻¹ rfl j
theorem Ni {X h:Nat}{t:List El}{a n:El}(hX:X≤2^30)(W:TQ (h+1) t)(ha:a.length=2^(h+1))(hv:a.drop (2^h)=zE (2^h))(ln:n.length=2^h)
  (c:dG prog 58 [tV h t,eV (a.take (2^h))] (.rows 62 4 n.length (fQ n)) (.int .i64 0)):
  dG prog 58 [tV (h+1) t,eV a] (.rows 62 4 (n++zE (2^h)).length (fQ (n++zE (2^h)))) (.int .i64 0):=by
 have h3:=W.h3;have hp:2^h≤8:=Nat.pow_le_pow_right (n:=2) (by decide) (show h≤3 by omega);have lz:(zE (2^h)).length=2^h:=ar;have U3:(2^h:Nat)≤a.length:=by rw[ha,Nat.pow_succ];omega
 have cT:=fu U3;have cD:=eW (a:=a) (n:=2^h);have z:=jx (a.drop (2^h)) (by rw[ag ha];omega);rw[decide_eq_true (by rw[ag ha];exact hv)]at z;have z:=z.args (xs:=[.one (ba a (2^h))]) ⟨.cell cD,trivial⟩;have c:=c.args (xs:=[tV h t,.one (bf a (2^h))]) ⟨.refl _,.cell cT,trivial⟩;have o0:=bc 0 (by decide) (by decide);have fz:=(dP (h:=h) (t:=t) (by omega) (Rat.ofInt 0)).rows;have ez:aX h (Rat.ofInt 0)=zE (2^h):=by
  have:=Nat.two_pow_pos h
  show(0:Rat)::List.replicate (2^h-1) 0=List.replicate (2^h) 0
  rw[←List.replicate_succ];congr 1;omega
 rw[ez]at fz;obtain⟨zn,S9⟩:∃zn,zn=zE (2^h):=⟨_,rfl⟩;rw[←S9]at fz lz⊢;obtain⟨n',RK⟩:∃n,n=2^h:=⟨_,rfl⟩;have RT:a.length=2*n':=by rw[ha,Nat.pow_succ,RK];omega
 have w1:IntKind.i64.wrap (((h+1:Nat):Int)-1)=(h:Int):=by rw[IntWalk.i64_in _ (by omega)];omega
 have hp8:n'≤8:=by omega
 have w2:IntKind.i64.wrap (((a.length:Nat):Int).tdiv 2)=(n':Int):=by
  rw[RT,Int.tdiv_eq_ediv_of_nonneg (by omega),IntWalk.i64_in _ (by omega)];omega
 have w4:((a.length:Int)-(n':Int)).toNat=a.length-n':=by omega
 rw[←RK]at z c hp ln lz;clear hv S9 ez cT cD U3 ha;refine tw func58 ⟨[0,1,4,5,6,7,8,9,10,11,14,21,38,48,64],[]⟩ ?_;simp only[Tryz.f58,ntmps58,iz,seval];simp only[vx,T,seval,tV,tC,eV,aa,bf,ba,QV,QC,w1,w2,w4];refine⟨fun h=>absurd h (by omega),fun _=>Lg ?_⟩;simp only[vx,T,seval,tV,tC,eV,aa,bf,ba,QV,QC,w1,w2,w4];refine⟨⟨by omega,by omega⟩,⟨by omega,by omega,by omega⟩,Cg z ?_⟩;simp only[vx,T,seval,tV,tC,eV,aa,bf,ba,QV,QC,w1,w2,w4];refine⟨⟨by omega,by omega⟩,cH.CC c ?_⟩;simp only[vx,T,seval,tV,tC,eV,aa,bf,ba,QV,QC,w1,w2,w4];refine Cg o0 ?_;simp only[vx,T,seval,tV,tC,eV,aa,bf,ba,QV,QC,w1,w2,w4];refine Cg fz ?_;simp only[vx,T,seval,tV,tC,eV,aa,bf,ba,QV,QC,w1,w2,w4];exact⟨⟨by omega,by omega⟩,List.length_append.symm,rfl,List.length_append.symm,fun i j _ _=>lD n zn i j⟩
theorem Ls {X h:Nat}{t:List El}{a:El}(hX:X≤2^30)(W:TQ (h+1) t)(ha:a.length=2^(h+1))(hv:a.drop (2^h)=zE (2^h))
  (c:Pr prog 58 [tV h t,eV (a.take (2^h))] (.aF [.one .nil,.one (.int .i64 6)])):
  Pr prog 58 [tV (h+1) t,eV a] (.aF [.one .nil,.one (.int .i64 6)]):=by
 have h3:=W.h3;have hp:2^h≤8:=Nat.pow_le_pow_right (n:=2) (by decide) (show h≤3 by omega);have U3:(2^h:Nat)≤a.length:=by rw[ha,Nat.pow_succ];omega
 have cT:=fu U3;have cD:=eW (a:=a) (n:=2^h);have z:=jx (a.drop (2^h)) (by rw[ag ha];omega);rw[decide_eq_true (by rw[ag ha];exact hv)]at z;have z:=z.args (xs:=[.one (ba a (2^h))]) ⟨.cell cD,trivial⟩;have c:=c.args (xs:=[tV h t,.one (bf a (2^h))]) ⟨.refl _,.cell cT,trivial⟩;obtain⟨n',RK⟩:∃n,n=2^h:=⟨_,rfl⟩;have RT:a.length=2*n':=by rw[ha,Nat.pow_succ,RK];omega
 have w1:IntKind.i64.wrap (((h+1:Nat):Int)-1)=(h:Int):=by rw[IntWalk.i64_in _ (by omega)];omega
 have hp8:n'≤8:=by omega
 have w2:IntKind.i64.wrap (((a.length:Nat):Int).tdiv 2)=(n':Int):=by
  rw[RT,Int.tdiv_eq_ediv_of_nonneg (by omega),IntWalk.i64_in _ (by omega)];omega
 have w4:((a.length:Int)-(n':Int)).toNat=a.length-n':=by omega
 rw[←RK]at z c hp;clear hv cT cD U3 ha;refine pw func58 ⟨[0,1,4,5,6,7,8,9,10,11,14,21,38,48,64],[]⟩ ?_;simp only[Tryz.f58,ntmps58,iz,seval];simp only[vx,T,seval,tV,tC,eV,aa,bf,ba,QV,QC,w1,w2,w4];refine⟨fun h=>absurd h (by omega),fun _=>Lg ?_⟩;simp only[vx,T,seval,tV,tC,eV,aa,bf,ba,QV,QC,w1,w2,w4];refine⟨⟨by omega,by omega⟩,⟨by omega,by omega,by omega⟩,Cg z ?_⟩;simp only[vx,T,seval,tV,tC,eV,aa,bf,ba,QV,QC,w1,w2,w4];refine⟨⟨by omega,by omega⟩,Cg c ?_⟩;simp only[vx,T,seval,tV,tC,eV,aa,bf,ba,QV,QC,w1,w2,w4];exact Ve rfl
theorem NJ {X h:Nat}{t:List El}{a n:El}(Rw:1≤X)(hX:X≤2^30)(W:TQ (h+1) t)(ha:a.length=2^(h+1))(hq:QB X a)(qn:QB X n)(hv:a.drop (2^h)≠zE (2^h))(ln:n.length=2^h)
  (c:dG prog 58 [tV h t,eV (aP h t a)] (.rows 62 4 n.length (fQ n)) (.int .i64 0)):
  dG prog 58 [tV (h+1) t,eV a] (.rows 62 4 (ai h t (a.take (2^h)) n++aJ (ai h t (a.drop (2^h)) n)).length (fQ (ai h t (a.take (2^h)) n++aJ (ai h t (a.drop (2^h)) n)))) (.int .i64 0):=by
 have h3:=W.h3;have W':=W.le (Nat.le_succ h);have hp:2^h≤8:=Nat.pow_le_pow_right (n:=2) (by decide) (show h≤3 by omega);have U3:(2^h:Nat)≤a.length:=by rw[ha,Nat.pow_succ];omega
 have cT:=fu U3;have cD:=eW (a:=a) (n:=2^h);have z:=jx (a.drop (2^h)) (by rw[ag ha];omega);rw[decide_eq_false (by rw[ag ha];exact hv)]at z;have z:=z.args (xs:=[.one (ba a (2^h))]) ⟨.cell cD,trivial⟩;have cn:=Cv W a ha Rw hX hq;have b1:=kZ (h:=h) (S:=X+X) (by omega) (by omega);have m1:=fV (xs:=[tV h t,.one (bf a (2^h)),eV n]) (fU fY W'.tk W'.q Rw Rw (ah ha) ln (hq.take _) qn b1) ⟨.refl _,.cell cT,.refl _,trivial⟩;have ng:=(fV (xs:=[tV h t,.one (ba a (2^h))]) (zd (h:=h) (t:=t) (a.drop (2^h)) (by rw[ag ha];omega) (.of (hq.drop _) (by omega))) ⟨.refl _,.cell cD,trivial⟩).rows;have lneg:(aJ (a.drop (2^h))).length=2^h:=by rw[aq,ag ha]
 have m2:=(fU fY W'.tk W'.q Rw Rw lneg ln (hq.drop _).neg qn b1).rows;rw[G2 (ag ha)]at m2;have l1:(ai h t (a.take (2^h)) n).length=2^h:=ae;have l2:(aJ (ai h t (a.drop (2^h)) n)).length=2^h:=by rw[aq,ae]
 obtain⟨e,he⟩:∃e,e=aP h t a:=⟨_,rfl⟩;obtain⟨s1,Ux⟩:∃s,s=ai h t (a.take (2^h)) n:=⟨_,rfl⟩;obtain⟨s2,TX⟩:∃s,s=aJ (ai h t (a.drop (2^h)) n):=⟨_,rfl⟩;obtain⟨y,hy⟩:∃y,y=aJ (a.drop (2^h)):=⟨_,rfl⟩;rw[←he]at c cn;rw[←Ux]at m1 l1⊢;rw[←hy]at ng m2 lneg;rw[←TX]at m2 l2⊢;obtain⟨n',RK⟩:∃n,n=2^h:=⟨_,rfl⟩;have RT:a.length=2*n':=by rw[ha,Nat.pow_succ,RK];omega
 have w1:IntKind.i64.wrap (((h+1:Nat):Int)-1)=(h:Int):=by rw[IntWalk.i64_in _ (by omega)];omega
 have hp8:n'≤8:=by omega
 have w2:IntKind.i64.wrap (((a.length:Nat):Int).tdiv 2)=(n':Int):=by
  rw[RT,Int.tdiv_eq_ediv_of_nonneg (by omega),IntWalk.i64_in _ (by omega)];omega
 have w4:((a.length:Int)-(n':Int)).toNat=a.length-n':=by omega
 rw[←RK]at z m1 ng hp ln l1 l2 lneg;clear hv cT cD U3 ha he Ux TX hy hq qn b1 W';refine tw func58 ⟨[0,1,4,5,6,7,8,9,10,11,14,21,38,48,64],[]⟩ ?_;simp only[Tryz.f58,ntmps58,iz,seval];simp only[vx,T,seval,tV,tC,eV,aa,bf,ba,QV,QC,w1,w2,w4];refine⟨fun h=>absurd h (by omega),fun _=>Lg ?_⟩;simp only[vx,T,seval,tV,tC,eV,aa,bf,ba,QV,QC,w1,w2,w4];refine⟨⟨by omega,by omega⟩,⟨by omega,by omega,by omega⟩,Cg z ?_⟩;simp only[vx,T,seval,tV,tC,eV,aa,bf,ba,QV,QC,w1,w2,w4];refine Cg cn ?_;simp only[vx,T,seval,tV,tC,eV,aa,bf,ba,QV,QC,w1,w2,w4];refine cH.CC c ?_;simp only[vx,T,seval,tV,tC,eV,aa,bf,ba,QV,QC,w1,w2,w4];refine⟨⟨by omega,by omega⟩,cH.fresh m1 ?_⟩;simp only[vx,T,seval,tV,tC,eV,aa,bf,ba,QV,QC,w1,w2,w4];refine⟨⟨by omega,by omega,by omega⟩,Cg ng ?_⟩;simp only[vx,T,seval,tV,tC,eV,aa,bf,ba,QV,QC,w1,w2,w4];refine Cg m2 ?_;simp only[vx,T,seval,tV,tC,eV,aa,bf,ba,QV,QC,w1,w2,w4];exact⟨⟨by omega,by omega⟩,List.length_append.symm,rfl,List.length_append.symm,fun i j _ _=>lD s1 s2 i j⟩
theorem JH {X h:Nat}{t:List El}{a:El}(Rw:1≤X)(hX:X≤2^30)(W:TQ (h+1) t)(ha:a.length=2^(h+1))(hq:QB X a)(hv:a.drop (2^h)≠zE (2^h))
  (c:Pr prog 58 [tV h t,eV (aP h t a)] (.aF [.one .nil,.one (.int .i64 6)])):
  Pr prog 58 [tV (h+1) t,eV a] (.aF [.one .nil,.one (.int .i64 6)]):=by
 have h3:=W.h3;have hp:2^h≤8:=Nat.pow_le_pow_right (n:=2) (by decide) (show h≤3 by omega);have U3:(2^h:Nat)≤a.length:=by rw[ha,Nat.pow_succ];omega
 have cT:=fu U3;have cD:=eW (a:=a) (n:=2^h);have z:=jx (a.drop (2^h)) (by rw[ag ha];omega);rw[decide_eq_false (by rw[ag ha];exact hv)]at z;have z:=z.args (xs:=[.one (ba a (2^h))]) ⟨.cell cD,trivial⟩;have cn:=Cv W a ha Rw hX hq;obtain⟨e,he⟩:∃e,e=aP h t a:=⟨_,rfl⟩;rw[←he]at c cn;obtain⟨n',RK⟩:∃n,n=2^h:=⟨_,rfl⟩;have RT:a.length=2*n':=by rw[ha,Nat.pow_succ,RK];omega
 have w1:IntKind.i64.wrap (((h+1:Nat):Int)-1)=(h:Int):=by rw[IntWalk.i64_in _ (by omega)];omega
 have hp8:n'≤8:=by omega
 have w2:IntKind.i64.wrap (((a.length:Nat):Int).tdiv 2)=(n':Int):=by
  rw[RT,Int.tdiv_eq_ediv_of_nonneg (by omega),IntWalk.i64_in _ (by omega)];omega
 have w4:((a.length:Int)-(n':Int)).toNat=a.length-n':=by omega
 rw[←RK]at z hp;clear hv cT cD U3 ha he hq;refine pw func58 ⟨[0,1,4,5,6,7,8,9,10,11,14,21,38,48,64],[]⟩ ?_;simp only[Tryz.f58,ntmps58,iz,seval];simp only[vx,T,seval,tV,tC,eV,aa,bf,ba,QV,QC,w1,w2,w4];refine⟨fun h=>absurd h (by omega),fun _=>Lg ?_⟩;simp only[vx,T,seval,tV,tC,eV,aa,bf,ba,QV,QC,w1,w2,w4];refine⟨⟨by omega,by omega⟩,⟨by omega,by omega,by omega⟩,Cg z ?_⟩;simp only[vx,T,seval,tV,tC,eV,aa,bf,ba,QV,QC,w1,w2,w4];refine Cg cn ?_;simp only[vx,T,seval,tV,tC,eV,aa,bf,ba,QV,QC,w1,w2,w4];refine Cg c ?_;simp only[vx,T,seval,tV,tC,eV,aa,bf,ba,QV,QC,w1,w2,w4];exact Ve rfl
theorem uw {X:Nat}(Rw:1≤X)(hX:X≤2^30){t:List El}:∀{h:Nat} {a:El},TQ h t→Rd h t→a.length=2^h→lY X h t a→JD h t a 58
 |0,a,_,_,ha,hi=>N3 hX ha hi
 |h+1,a,W,D,ha,hi=>by
  have W':=W.le (Nat.le_succ h);have D':=D.le (Nat.le_succ h);have Tc:=hi.qb;obtain⟨_,i2,i3,_,i5⟩:=hi;have ev:cC (h+1) t a=(cC h t (aP h t a)).map fun n=>ai h t (a.take (2^h)) n++aJ (ai h t (a.drop (2^h)) n):=rfl
  by_cases hv:a.drop (2^h)=zE (2^h)
  ·have ih:=uw Rw hX W' D' (ah ha) i2;have vl:=Go.Tw.se (t:=t) hv;refine⟨fun n hn=>?_,fun hn=>?_⟩
   ·obtain⟨ln,en⟩:=Go.Tw.df D.rl ha hn;rw[vl]at en;have h0:val h t (a.take (2^h))≠R.q 0:=fun e=>by rw[e,R.zero_mul]at en;exact R.eR en.symm
    obtain⟨m,hm,lm,em⟩:=Go.Tw.jn D' (ah ha) h0;have V8:n=m++zE (2^h):=by
     refine Go.Tw.val_inj D ln (by rw[X6,lm,ar,Nat.pow_succ];omega) ?_;rw[Go.Tw.lQ lm];refine R.ju (z:=val h t (a.take (2^h))) ?_ h0;rw[R.mul_comm,en,R.mul_comm,em]
    rw[V8];exact Ni hX W ha hv lm (ih.1 m hm)
   have e0:=Go.Tw.ny D ha hn;rw[vl]at e0;refine Ls hX W ha hv (ih.2 ?_)
   cases hk:cC h t (a.take (2^h))with
   |none=>rfl
   |some m=>
    have:=(Go.Tw.df D'.rl (ah ha) hk).2
    rw[e0,R.zero_mul]at this;exact absurd this.symm R.eR
  have ih:=uw Rw hX W' D' aI i3;unfold JD;rw[ev]
  cases hn:cC h t (aP h t a)with
  |none=>exact⟨fun n h=>(by cases h),fun _=>JH Rw hX W ha Tc hv (ih.2 hn)⟩
  |some n=>
   refine⟨fun n' hh=>?_,fun hh=>(by cases hh)⟩;obtain rfl:=Option.some.inj hh;exact NJ Rw hX W ha Tc (i5 n hn) hv (Go.Proofs.YthnkehdgnagmnaaGreat.jm hn) (ih.1 n hn)
open Go Go.Eng
open Go.Tw (El aB aJ zE ai ar aq ao ae QB mS ah ag aP aI tB aX aG bo gT dA sh)
theorem Kb {t:List El}{a:El}(ha:a.length=2^0)(hq:Qk a):Pr prog 99 [tV 0 t,eV a] (.one (.int .i64 (bo 0 t a))):=by
 obtain⟨x,rfl⟩:=Go.Tw.bA ha;have hx:qm x<2^38:=hq x (by simp);have e:bo 0 t [x]=bQ x.num:=sh x;have c:=rL x (by omega);rw[e];refine pw func99 ⟨[0,1,4,5,6,7,8,9,12,46,49],[(4,.nil)]⟩ ?_;simp only[Tryz.f99,ntmps99,iz,seval];simp only[vx,T,seval,tV,tC,eV,aa,qC,X0];refine Cg c ?_;simp only[vx,T,seval,aa];exact Ve rfl
theorem rj {X:Nat}(Rw:1≤X)(hX:X≤2^30){t:List El}:∀{h:Nat} {a:El},TQ h t→a.length=2^h→gT X h t a→Pr prog 99 [tV h t,eV a] (.one (.int .i64 (bo h t a)))
 |0,a,_,ha,hi=>Kb ha (.of hi.qb (by omega))
 |h+1,a,W,ha,hi=>by
  have W':=W.le (Nat.le_succ h);obtain⟨Tc,i1,i2,i3⟩:=hi;have v1:=rj Rw hX W' (ah ha) i1;have v2:=rj Rw hX W' (ag ha) i2;have v3:=rj Rw hX W' aI i3;have h3:=W.h3;have hp:2^h≤8:=Nat.pow_le_pow_right (n:=2) (by decide) (show h≤3 by omega);have cn:=Cv W a ha Rw hX Tc;have hn:(2^h:Nat)≤a.length:=by rw[ha,Nat.pow_succ];omega
  have cT:=fu hn;have cD:=eW (a:=a) (n:=2^h);have v1:=v1.args (xs:=[tV h t,.one (bf a (2^h))]) ⟨.refl _,.cell cT,trivial⟩;have v2:=v2.args (xs:=[tV h t,.one (ba a (2^h))]) ⟨.refl _,.cell cD,trivial⟩;have e:bo (h+1) t a=if bo h t (a.drop (2^h))=0∨bo h t (a.take (2^h))=bo h t (a.drop (2^h))then bo h t (a.take (2^h))else if bo h t (a.take (2^h))=0 then bo h t (a.drop (2^h))else bo h t (a.take (2^h))*bo h t (aP h t a):=rfl
  have r1:=@dA h t (a.take (2^h));have r3:=@dA h t (aP h t a);obtain⟨n,RK⟩:∃n,n=2^h:=⟨_,rfl⟩;have RT:a.length=2*n:=by rw[ha,Nat.pow_succ,RK];omega
  obtain⟨m,hm⟩:∃m,m=aP h t a:=⟨_,rfl⟩;obtain⟨s1,Ux⟩:∃s,s=bo h t (a.take (2^h)):=⟨_,rfl⟩;obtain⟨s2,TX⟩:∃s,s=bo h t (a.drop (2^h)):=⟨_,rfl⟩;rw[←hm]at v3 e cn r3;obtain⟨s3,XG⟩:∃s,s=bo h t m:=⟨_,rfl⟩;rw[←Ux,←TX,←XG]at e;rw[←Ux]at v1 r1;rw[←TX]at v2;rw[←XG]at v3 r3;rw[e];rw[←RK]at v1 v2 hp;clear Tc i1 i2 i3 Ux TX XG cT cD W hm hn ha;have w1:IntKind.i64.wrap (((h+1:Nat):Int)-1)=(h:Int):=by rw[IntWalk.i64_in _ (by omega)];omega
  have w2:IntKind.i64.wrap (((a.length:Nat):Int).tdiv 2)=(n:Int):=by
   rw[RT,Int.tdiv_eq_ediv_of_nonneg (by omega),IntWalk.i64_in _ (by omega)];omega
  have w4:((a.length:Int)-(n:Int)).toNat=a.length-n:=by omega
  have w3:IntKind.i64.wrap (s1*s3)=s1*s3:=by
   rw[IntWalk.i64_in]
   have:s1= -1∨s1=0∨s1=1:=by omega
   rcases this with h|h|h<;>rw [h]<;>omega
  refine pw func99 ⟨[0,1,4,5,6,7,8,9,12,46,49],[(4,.nil)]⟩ ?_;simp only[Tryz.f99,ntmps99,iz,seval];simp only[vx,T,seval,tV,tC,eV,aa,bf,ba,w1,w2,w3,w4];refine⟨fun h=>absurd h (by omega),fun _=>Lg ?_⟩;simp only[vx,T,seval,tV,tC,eV,aa,bf,ba,w1,w2,w3,w4];refine⟨⟨by omega,by omega⟩,⟨by omega,by omega,by omega⟩,⟨by omega,by omega⟩,Cg v1 ?_⟩;simp only[vx,T,seval,tV,tC,eV,aa,bf,ba,w1,w2,w3,w4];refine⟨⟨by omega,by omega⟩,Cg v2 ?_⟩;simp only[vx,T,seval,tV,tC,eV,aa,bf,ba,w1,w2,w3,w4];refine⟨fun k2=>Lg ?_,fun k2=>Lg ?_⟩
  ·rw[if_pos (.inl k2)];simp only[vx,T,seval,tV,tC,eV,aa,bf,ba,w1,w2,w3,w4];exact Ve rfl
  simp only[vx,T,seval,tV,tC,eV,aa,bf,ba,w1,w2,w3,w4];refine⟨fun k3=>Lg ?_,fun k3=>Lg ?_⟩
  ·rw[if_pos (.inr k3)];simp only[vx,T,seval,tV,tC,eV,aa,bf,ba,w1,w2,w3,w4];exact Ve rfl
  rw[if_neg (not_or.2 ⟨k2,k3⟩)];simp only[vx,T,seval,tV,tC,eV,aa,bf,ba,w1,w2,w3,w4];refine⟨fun k1=>Lg ?_,fun k1=>Lg ?_⟩
  ·rw[if_pos k1];simp only[vx,T,seval,tV,tC,eV,aa,bf,ba,w1,w2,w3,w4];exact Ve rfl
  rw[if_neg k1];simp only[vx,T,seval,tV,tC,eV,aa,bf,ba,w1,w2,w3,w4];refine⟨⟨by omega,by omega⟩,Cg cn ?_⟩;simp only[vx,T,seval,tV,tC,eV,aa,bf,ba,w1,w2,w3,w4];refine Cg v3 ?_;simp only[vx,T,seval,tV,tC,eV,aa,bf,ba,w1,w2,w3,w4];exact Ve rfl
theorem Nk {X h:Nat}(Rw:1≤X)(hX:X≤2^30){t:List El}{a:El}(W:TQ h t)(ha:a.length=2^h)(hs:gT X h t a):Pr prog 59 [tV h t,eV a] (.one (.int .i64 (bo h t a))):=by
 have c:=rj Rw hX W ha hs;refine pw func59 ⟨[0,1,4],[]⟩ ?_;simp only[Tryz.f59,ntmps59,iz,seval];simp only[vx,T,seval,tV,tC,eV,aa];refine Cg c ?_;simp only[vx,T,seval,aa];exact Ve rfl
theorem MJ {X h:Nat}(Rw:1≤X)(hX:X≤2^30){t:List El}(W:wW X h t):Pr prog 154 [tV h t] (.one (.bool true)):=by
 have h3:=W.tq.h3;have f:=Dm W.tq.tk;have v:∀i,i<h→Pr prog 99 [tV i t,eV (t.getD i [])] (.one (.int .i64 1)):=fun i hi=>by
  have c:=rj Rw hX (W.tq.le (show i≤h by omega)) (W.tq.tk.len i hi) (W.s i hi);have p:=W.p i hi;have q:=@dA i t (t.getD i [])
  rwa [show bo i t (t.getD i [])=1 by omega]at c
 refine pw func154 ⟨[0,2,3,6,10,21],[]⟩ ?_;simp only[Tryz.f154,ntmps154,iz,seval];simp only[vx,T,seval,tV,tC,aa];refine Cg f ?_;simp only[vx,T,seval,tV,tC,aa];refine Lk (fun y:{i:Nat//i≤h}=>⟨[(0,tV h t),(2,.one (.bool false)),(3,.one (.int .i64 y.1))],[],2,22⟩) (fun y=>h-y.1) ⟨0,Nat.zero_le _⟩ ?_ (fun⟨i,hi⟩=>?_)
 ·refine Sa ?_;simp only[ry,seval,rz,tV,tC,aa]
 simp only;have wi:=wI i (by omega);simp only[vx,T,seval,tV,tC,aa];refine⟨fun k=>Lg ?_,fun k=>Lg ?_⟩
 ·have vi:=v i (by omega);obtain⟨r,hr⟩:∃r,r=t.getD i []:=⟨_,rfl⟩;rw[←hr]at vi;simp only[vx,T,seval,tV,tC,aa,←hr];refine⟨⟨by omega,by omega⟩,⟨by omega,by omega⟩,Cg vi ?_⟩;simp only[vx,T,seval,tV,tC,aa,wi];refine Lq ⟨i+1,by omega⟩ ?_ (by show h-(i+1)<h-i;omega);refine Sa ?_;simp only[ry,seval,rz,tV,tC,aa]
 simp only[vx,T,seval,tV,tC,aa];exact Ve rfl
theorem lS {X h:Nat}(Rw:1≤X)(hX:X≤2^30){t:List El}{a:El}(W:wW X h t)(ha:a.length=2^h)(hs:gT X h t a):Pr prog 117 [tV h t,eV a] (.one (.int .i64 (bo h t a))):=by
 have v:=rj Rw hX W.tq ha hs;have f:=uz W.tq.tk a ha (.of hs.qb (by omega));have g:=MJ Rw hX W;refine pw func117 ⟨[0,1,4,13],[]⟩ ?_;simp only[Tryz.f117,ntmps117,iz,seval];simp only[vx,T,seval,tV,tC,eV,aa];refine Cg f ?_;simp only[vx,T,seval,tV,tC,eV,aa];refine Cg g ?_;simp only[vx,T,seval,tV,tC,eV,aa];refine Cg v ?_;simp only[vx,T,seval,tV,tC,eV,aa];exact Ve rfl
open Go Go.Eng
open Go.Tw (El aB aJ zE ai ar aq ao ae QB mS ah ag aP aI tB aX aG cC lY kU gT val In Rd l6 bo bZ dA)
theorem A3 (a b:El)(hl:a.length+b.length<2^38):Pr prog 156 [eV a,eV b] (eV (a++b)):=by
 refine pw func156 ⟨[0,1,4],[]⟩ ?_;simp only[Tryz.f156,ntmps156,iz,seval];simp only[vx,T,seval,eV,aa];refine⟨⟨by omega,by omega⟩,⟨by omega,by omega⟩,fT.cell (dK.rows List.length_append.symm fun i j hi hj=>.of_eq ?_)⟩;have e:=lD a b i j;unfold fQ at e;rw[if_neg (Nat.not_lt_zero _),Nat.sub_zero];exact e
theorem EZ {t:List El}{a:El}(ha:a.length=2^0)(hq:Qk a):JK 0 t a 118:=by
 obtain⟨x,rfl⟩:=Go.Tw.bA ha;have hx:qm x<2^38:=hq x (by simp);have c:=Af x hx
 cases h:zu x with
 |some r=>
  rw[h]at c;refine .inl ⟨[r],rfl,?_,?_⟩
  ·show R.q r*R.q r=R.q x;rw[←R.dU,(pQ h).1]
  refine pw func118 ⟨[0,1,4,5,6,7,8,9,10,11,12,13,14,15,16,17,19,20,21,22,23,24,25,26,27,28,32,46,70,77,96,120,125,140],[(7,.nil),(9,.nil)]⟩ ?_;simp only[Tryz.f118,ntmps118,iz,seval];simp only[vx,T,seval,QV,QC,tV,tC,eV,aa,qC,X0];refine Cg c ?_;simp only[vx,T,seval,QV,QC,tV,tC,eV,aa,qC,X0];refine fT.aF ⟨.cell (.rows rfl fun i j hi _=>.of_eq ?_),.refl _,trivial⟩;obtain rfl:i=0:=by omega
  rw[Nat.zero_mul,Nat.zero_add];exact dx r rfl j
 |none=>
  rw[h]at c;refine .inr ⟨?_,[fun j=>[C.bool false,.nil,.bool false,.nil].getD j .any],Nat.le_refl _,?_⟩
  ·rintro z ⟨b,hb,rfl⟩ e;obtain⟨y,rfl⟩:=Go.Tw.bA hb;have e:R.q y*R.q y=R.q x:=e;rw[←R.dU]at e;exact zD h y (R.kr e)
  refine pw func118 ⟨[0,1,4,5,6,7,8,9,10,11,12,13,14,15,16,17,19,20,21,22,23,24,25,26,27,28,32,46,70,77,96,120,125,140],[(7,.nil),(9,.nil)]⟩ ?_;simp only[Tryz.f118,ntmps118,iz,seval];simp only[vx,T,seval,QV,QC,tV,tC,eV,aa,qC,X0];refine Cg c ?_;simp only[vx,T,seval,QV,QC,tV,tC,eV,aa,qC,X0];refine fT.aF ⟨.cell (.rows rfl fun i j hi _=>.of_eq ?_),.refl _,trivial⟩;obtain rfl:i=0:=by omega
  rw[Nat.zero_mul,Nat.zero_add];rfl
theorem PI {X h:Nat}(Rw:1≤X)(hX:X≤2^30){t:List El}{a:El}(W:wW X (h+1) t)(ha:a.length=2^(h+1))(hs:gT X (h+1) t a)(TM:bo (h+1) t a<0):Pr prog 118 [tV (h+1) t,eV a] (.aF [.one .nil,.one (.bool false)]):=by
 have sg:=lS Rw hX W ha hs;obtain⟨sgn',Uz⟩:∃s,s=bo (h+1) t a:=⟨_,rfl⟩;rw[←Uz]at sg TM;refine pw func118 ⟨[0,1,4,5,6,7,8,9,10,11,12,13,14,15,16,17,19,20,21,22,23,24,25,26,27,28,32,46,70,77,96,120,125,140],[(7,.nil),(9,.nil)]⟩ ?_;simp only[Tryz.f118,ntmps118,iz,seval];simp only[vx,T,seval,tV,tC,eV,aa];refine⟨fun h=>absurd h (by omega),fun _=>Lg ?_⟩;simp only[vx,T,seval,tV,tC,eV,aa];refine Cg sg ?_;simp only[vx,T,seval,tV,tC,eV,aa];refine⟨fun _=>Lg ?_,fun h=>absurd TM h⟩;simp only[vx,T,seval,tV,tC,eV,aa];exact Ve rfl
theorem NW {X h:Nat}(Rw:1≤X)(hX:X≤2^30){t:List El}{a w:El}(W:wW X (h+1) t)(ha:a.length=2^(h+1))(hs:gT X (h+1) t a)(TM:¬bo (h+1) t a<0)(hv:a.drop (2^h)=zE (2^h))(hw:w.length=2^h)
  (c:Pr prog 118 [tV h t,eV (a.take (2^h))] (.aF [eV w,.one (.bool true)])):
  Pr prog 118 [tV (h+1) t,eV a] (.aF [eV (w++zE (2^h)),.one (.bool true)]):=by
 have W':=W.tq.le (Nat.le_succ h);have h3:=W.tq.h3;have hp:2^h≤8:=Nat.pow_le_pow_right (n:=2) (by decide) (show h≤3 by omega);have sg:=lS Rw hX W ha hs;have z:=jx (a.drop (2^h)) (by rw[ag ha];omega);have o0:=bc 0 (by decide) (by decide);have fz:=(dP (h:=h) (t:=t) (by omega) (Rat.ofInt 0)).rows;rw[BL]at fz;have lz:(zE (2^h)).length=2^h:=ar;rw[decide_eq_true (by rw[ag ha];exact hv)]at z;have hn:(2^h:Nat)≤a.length:=by rw[ha,Nat.pow_succ];omega
 have cT:=fu hn;have cD:=eW (a:=a) (n:=2^h);have z:=z.args (xs:=[.one (ba a (2^h))]) ⟨.cell cD,trivial⟩;have k:=A3 w (zE (2^h)) (by rw[hw,lz];omega);have c:=c.args (xs:=[tV h t,.one (bf a (2^h))]) ⟨.refl _,.cell cT,trivial⟩;obtain⟨n,RK⟩:∃n,n=2^h:=⟨_,rfl⟩;have RT:a.length=2*n:=by rw[ha,Nat.pow_succ,RK];omega
 have w1:IntKind.i64.wrap (((h+1:Nat):Int)-1)=(h:Int):=by rw[IntWalk.i64_in _ (by omega)];omega
 have Z5:n≤8:=by omega
 have w2:IntKind.i64.wrap (((a.length:Nat):Int).tdiv 2)=(n:Int):=by
  rw[RT,Int.tdiv_eq_ediv_of_nonneg (by omega),IntWalk.i64_in _ (by omega)];omega
 have w4:((a.length:Int)-(n:Int)).toNat=a.length-n:=by omega
 obtain⟨sgn',Uz⟩:∃s,s=bo (h+1) t a:=⟨_,rfl⟩;obtain⟨r,RD⟩:∃r,r=t.getD h []:=⟨_,rfl⟩;obtain⟨zn,S9⟩:∃z,z=zE (2^h):=⟨_,rfl⟩;rw[←S9]at fz lz;rw[←Uz]at sg TM;rw[←S9]at k⊢;rw[←RK]at z c hp lz hw;clear hv RK S9 cT cD hn ha hs W W';refine pw func118 ⟨[0,1,4,5,6,7,8,9,10,11,12,13,14,15,16,17,19,20,21,22,23,24,25,26,27,28,32,46,70,77,96,120,125,140],[(7,.nil),(9,.nil)]⟩ ?_;simp only[Tryz.f118,ntmps118,iz,seval];simp only[vx,T,seval,tV,tC,eV,aa,bf,ba,QV,QC,GC,w1,w2,w4,←RD];refine⟨fun h=>absurd h (by omega),fun _=>Lg ?_⟩;simp only[vx,T,seval,tV,tC,eV,aa,bf,ba,QV,QC,GC,w1,w2,w4,←RD];refine Cg sg ?_;simp only[vx,T,seval,tV,tC,eV,aa,bf,ba,QV,QC,GC,w1,w2,w4,←RD];refine⟨fun h=>absurd h (by omega),fun _=>Lg ?_⟩;simp only[vx,T,seval,tV,tC,eV,aa,bf,ba,QV,QC,GC,w1,w2,w4,←RD];refine⟨⟨by omega,by omega⟩,⟨by omega,by omega⟩,⟨by omega,by omega⟩,⟨by omega,by omega,by omega⟩,Cg o0 ?_⟩;simp only[vx,T,seval,tV,tC,eV,aa,bf,ba,QV,QC,GC,w1,w2,w4,←RD];refine Cg fz ?_;simp only[vx,T,seval,tV,tC,eV,aa,bf,ba,QV,QC,GC,w1,w2,w4,←RD];refine Cg z ?_;simp only[vx,T,seval,tV,tC,eV,aa,bf,ba,QV,QC,GC,w1,w2,w4,←RD];refine Cg c ?_;simp only[vx,T,seval,tV,tC,eV,aa,bf,ba,QV,QC,GC,w1,w2,w4,←RD];refine Cg k ?_;simp only[vx,T,seval,tV,tC,eV,aa,bf,ba,QV,QC,GC,w1,w2,w4,←RD];exact Ve rfl
theorem N4 {X h:Nat}(Rw:1≤X)(hX:X≤2^30){t:List El}{a i w:El}(W:wW X (h+1) t)(ha:a.length=2^(h+1))(hs:gT X (h+1) t a)(TM:¬bo (h+1) t a<0)(hv:a.drop (2^h)=zE (2^h)){l:List (Nat→C)}(D':Rd h t)(hw:w.length=2^h)
  (c:Pr prog 118 [tV h t,eV (a.take (2^h))] (.aF [.one (GC l),.one (.bool false)])) (hr:lY X h t (t.getD h [])) (hi:cC h t (t.getD h [])=some i) (qi:QB X i)
  (c2:Pr prog 118 [tV h t,eV (ai h t (a.take (2^h)) i)] (.aF [eV w,.one (.bool true)])):
  Pr prog 118 [tV (h+1) t,eV a] (.aF [eV (zE (2^h)++w),.one (.bool true)]):=by
 have W':=W.tq.le (Nat.le_succ h);have h3:=W.tq.h3;have hp:2^h≤8:=Nat.pow_le_pow_right (n:=2) (by decide) (show h≤3 by omega);have sg:=lS Rw hX W ha hs;have z:=jx (a.drop (2^h)) (by rw[ag ha];omega);have o0:=bc 0 (by decide) (by decide);have fz:=(dP (h:=h) (t:=t) (by omega) (Rat.ofInt 0)).rows;rw[BL]at fz;have lz:(zE (2^h)).length=2^h:=ar;rw[decide_eq_true (by rw[ag ha];exact hv)]at z;have hn:(2^h:Nat)≤a.length:=by rw[ha,Nat.pow_succ];omega
 have cT:=fu hn;have cD:=eW (a:=a) (n:=2^h);have z:=z.args (xs:=[.one (ba a (2^h))]) ⟨.cell cD,trivial⟩;have k:=A3 (zE (2^h)) w (by rw[hw,lz];omega);have c:=c.args (xs:=[tV h t,.one (bf a (2^h))]) ⟨.refl _,.cell cT,trivial⟩;have lr:=W.tq.tk.len h (by omega);have li:=Go.Proofs.YthnkehdgnagmnaaGreat.jm hi;have iv:=((uw Rw hX W' D' lr hr).1 i hi).rows;have m:=(fU fY W'.tk W'.q Rw Rw (ah ha) li (hs.qb.take _) qi (kZ (h:=h) (S:=X+X) (by omega) (by omega))).rows;have m:=m.args (xs:=[tV h t,.one (bf a (2^h)),eV i]) ⟨.refl _,.cell cT,.refl _,trivial⟩;obtain⟨y,hy⟩:∃y,y=ai h t (a.take (2^h)) i:=⟨_,rfl⟩;rw[←hy]at m c2;obtain⟨n,RK⟩:∃n,n=2^h:=⟨_,rfl⟩;have RT:a.length=2*n:=by rw[ha,Nat.pow_succ,RK];omega
 have w1:IntKind.i64.wrap (((h+1:Nat):Int)-1)=(h:Int):=by rw[IntWalk.i64_in _ (by omega)];omega
 have Z5:n≤8:=by omega
 have w2:IntKind.i64.wrap (((a.length:Nat):Int).tdiv 2)=(n:Int):=by
  rw[RT,Int.tdiv_eq_ediv_of_nonneg (by omega),IntWalk.i64_in _ (by omega)];omega
 have w4:((a.length:Int)-(n:Int)).toNat=a.length-n:=by omega
 obtain⟨sgn',Uz⟩:∃s,s=bo (h+1) t a:=⟨_,rfl⟩;obtain⟨r,RD⟩:∃r,r=t.getD h []:=⟨_,rfl⟩;obtain⟨zn,S9⟩:∃z,z=zE (2^h):=⟨_,rfl⟩;rw[←S9]at fz lz;rw[←Uz]at sg TM;rw[←S9]at k⊢;rw[←RD]at iv;rw[←RK]at z c m hp lz hw;clear hv RK S9 cT cD hn ha hs W W' hr hi qi lr li hy;refine pw func118 ⟨[0,1,4,5,6,7,8,9,10,11,12,13,14,15,16,17,19,20,21,22,23,24,25,26,27,28,32,46,70,77,96,120,125,140],[(7,.nil),(9,.nil)]⟩ ?_;simp only[Tryz.f118,ntmps118,iz,seval];simp only[vx,T,seval,tV,tC,eV,aa,bf,ba,QV,QC,GC,w1,w2,w4,←RD];refine⟨fun h=>absurd h (by omega),fun _=>Lg ?_⟩;simp only[vx,T,seval,tV,tC,eV,aa,bf,ba,QV,QC,GC,w1,w2,w4,←RD];refine Cg sg ?_;simp only[vx,T,seval,tV,tC,eV,aa,bf,ba,QV,QC,GC,w1,w2,w4,←RD];refine⟨fun h=>absurd h (by omega),fun _=>Lg ?_⟩;simp only[vx,T,seval,tV,tC,eV,aa,bf,ba,QV,QC,GC,w1,w2,w4,←RD];refine⟨⟨by omega,by omega⟩,⟨by omega,by omega⟩,⟨by omega,by omega⟩,⟨by omega,by omega,by omega⟩,Cg o0 ?_⟩;simp only[vx,T,seval,tV,tC,eV,aa,bf,ba,QV,QC,GC,w1,w2,w4,←RD];refine Cg fz ?_;simp only[vx,T,seval,tV,tC,eV,aa,bf,ba,QV,QC,GC,w1,w2,w4,←RD];refine Cg z ?_;simp only[vx,T,seval,tV,tC,eV,aa,bf,ba,QV,QC,GC,w1,w2,w4,←RD];refine Cg c ?_;simp only[vx,T,seval,tV,tC,eV,aa,bf,ba,QV,QC,GC,w1,w2,w4,←RD];refine Cg iv ?_;simp only[vx,T,seval,tV,tC,eV,aa,bf,ba,QV,QC,GC,w1,w2,w4,←RD];refine Cg m ?_;simp only[vx,T,seval,tV,tC,eV,aa,bf,ba,QV,QC,GC,w1,w2,w4,←RD];refine Cg c2 ?_;simp only[vx,T,seval,tV,tC,eV,aa,bf,ba,QV,QC,GC,w1,w2,w4,←RD];refine Cg k ?_;simp only[vx,T,seval,tV,tC,eV,aa,bf,ba,QV,QC,GC,w1,w2,w4,←RD];exact Ve rfl
theorem MV {X h:Nat}(Rw:1≤X)(hX:X≤2^30){t:List El}{a i:El}(W:wW X (h+1) t)(ha:a.length=2^(h+1))(hs:gT X (h+1) t a)(TM:¬bo (h+1) t a<0)(hv:a.drop (2^h)=zE (2^h)){l p:List (Nat→C)}(D':Rd h t)
  (c:Pr prog 118 [tV h t,eV (a.take (2^h))] (.aF [.one (GC l),.one (.bool false)])) (hr:lY X h t (t.getD h [])) (hi:cC h t (t.getD h [])=some i) (qi:QB X i)
  (c2:Pr prog 118 [tV h t,eV (ai h t (a.take (2^h)) i)] (.aF [.one (GC p),.one (.bool false)])):
  Pr prog 118 [tV (h+1) t,eV a] (.aF [.one .nil,.one (.bool false)]):=by
 have W':=W.tq.le (Nat.le_succ h);have h3:=W.tq.h3;have hp:2^h≤8:=Nat.pow_le_pow_right (n:=2) (by decide) (show h≤3 by omega);have sg:=lS Rw hX W ha hs;have z:=jx (a.drop (2^h)) (by rw[ag ha];omega);have o0:=bc 0 (by decide) (by decide);have fz:=(dP (h:=h) (t:=t) (by omega) (Rat.ofInt 0)).rows;rw[BL]at fz;have lz:(zE (2^h)).length=2^h:=ar;rw[decide_eq_true (by rw[ag ha];exact hv)]at z;have hn:(2^h:Nat)≤a.length:=by rw[ha,Nat.pow_succ];omega
 have cT:=fu hn;have cD:=eW (a:=a) (n:=2^h);have z:=z.args (xs:=[.one (ba a (2^h))]) ⟨.cell cD,trivial⟩;have c:=c.args (xs:=[tV h t,.one (bf a (2^h))]) ⟨.refl _,.cell cT,trivial⟩;have lr:=W.tq.tk.len h (by omega);have li:=Go.Proofs.YthnkehdgnagmnaaGreat.jm hi;have iv:=((uw Rw hX W' D' lr hr).1 i hi).rows;have m:=(fU fY W'.tk W'.q Rw Rw (ah ha) li (hs.qb.take _) qi (kZ (h:=h) (S:=X+X) (by omega) (by omega))).rows;have m:=m.args (xs:=[tV h t,.one (bf a (2^h)),eV i]) ⟨.refl _,.cell cT,.refl _,trivial⟩;obtain⟨y,hy⟩:∃y,y=ai h t (a.take (2^h)) i:=⟨_,rfl⟩;rw[←hy]at m c2;obtain⟨n,RK⟩:∃n,n=2^h:=⟨_,rfl⟩;have RT:a.length=2*n:=by rw[ha,Nat.pow_succ,RK];omega
 have w1:IntKind.i64.wrap (((h+1:Nat):Int)-1)=(h:Int):=by rw[IntWalk.i64_in _ (by omega)];omega
 have Z5:n≤8:=by omega
 have w2:IntKind.i64.wrap (((a.length:Nat):Int).tdiv 2)=(n:Int):=by
  rw[RT,Int.tdiv_eq_ediv_of_nonneg (by omega),IntWalk.i64_in _ (by omega)];omega
 have w4:((a.length:Int)-(n:Int)).toNat=a.length-n:=by omega
 obtain⟨sgn',Uz⟩:∃s,s=bo (h+1) t a:=⟨_,rfl⟩;obtain⟨r,RD⟩:∃r,r=t.getD h []:=⟨_,rfl⟩;obtain⟨zn,S9⟩:∃z,z=zE (2^h):=⟨_,rfl⟩;rw[←S9]at fz lz;rw[←Uz]at sg TM;rw[←RD]at iv;rw[←RK]at z c m hp lz;clear hv RK S9 cT cD hn ha hs W W' hr hi qi lr li hy;refine pw func118 ⟨[0,1,4,5,6,7,8,9,10,11,12,13,14,15,16,17,19,20,21,22,23,24,25,26,27,28,32,46,70,77,96,120,125,140],[(7,.nil),(9,.nil)]⟩ ?_;simp only[Tryz.f118,ntmps118,iz,seval];simp only[vx,T,seval,tV,tC,eV,aa,bf,ba,QV,QC,GC,w1,w2,w4,←RD];refine⟨fun h=>absurd h (by omega),fun _=>Lg ?_⟩;simp only[vx,T,seval,tV,tC,eV,aa,bf,ba,QV,QC,GC,w1,w2,w4,←RD];refine Cg sg ?_;simp only[vx,T,seval,tV,tC,eV,aa,bf,ba,QV,QC,GC,w1,w2,w4,←RD];refine⟨fun h=>absurd h (by omega),fun _=>Lg ?_⟩;simp only[vx,T,seval,tV,tC,eV,aa,bf,ba,QV,QC,GC,w1,w2,w4,←RD];refine⟨⟨by omega,by omega⟩,⟨by omega,by omega⟩,⟨by omega,by omega⟩,⟨by omega,by omega,by omega⟩,Cg o0 ?_⟩;simp only[vx,T,seval,tV,tC,eV,aa,bf,ba,QV,QC,GC,w1,w2,w4,←RD];refine Cg fz ?_;simp only[vx,T,seval,tV,tC,eV,aa,bf,ba,QV,QC,GC,w1,w2,w4,←RD];refine Cg z ?_;simp only[vx,T,seval,tV,tC,eV,aa,bf,ba,QV,QC,GC,w1,w2,w4,←RD];refine Cg c ?_;simp only[vx,T,seval,tV,tC,eV,aa,bf,ba,QV,QC,GC,w1,w2,w4,←RD];refine Cg iv ?_;simp only[vx,T,seval,tV,tC,eV,aa,bf,ba,QV,QC,GC,w1,w2,w4,←RD];refine Cg m ?_;simp only[vx,T,seval,tV,tC,eV,aa,bf,ba,QV,QC,GC,w1,w2,w4,←RD];refine Cg c2 ?_;simp only[vx,T,seval,tV,tC,eV,aa,bf,ba,QV,QC,GC,w1,w2,w4,←RD];exact Ve rfl
theorem Oa {X h:Nat}(Rw:1≤X)(hX:X≤2^30){t:List El}{a:El}(W:wW X (h+1) t)(ha:a.length=2^(h+1))(hs:gT X (h+1) t a)(TM:¬bo (h+1) t a<0)(hv:a.drop (2^h)≠zE (2^h)){l:List (Nat→C)}
  (c:Pr prog 118 [tV h t,eV (aP h t a)] (.aF [.one (GC l),.one (.bool false)])):
  Pr prog 118 [tV (h+1) t,eV a] (.aF [.one .nil,.one (.bool false)]):=by
 have W':=W.tq.le (Nat.le_succ h);have h3:=W.tq.h3;have hp:2^h≤8:=Nat.pow_le_pow_right (n:=2) (by decide) (show h≤3 by omega);have sg:=lS Rw hX W ha hs;have z:=jx (a.drop (2^h)) (by rw[ag ha];omega);have o0:=bc 0 (by decide) (by decide);have fz:=(dP (h:=h) (t:=t) (by omega) (Rat.ofInt 0)).rows;rw[BL]at fz;have lz:(zE (2^h)).length=2^h:=ar;rw[decide_eq_false (by rw[ag ha];exact hv)]at z;have hn:(2^h:Nat)≤a.length:=by rw[ha,Nat.pow_succ];omega
 have cT:=fu hn;have cD:=eW (a:=a) (n:=2^h);have z:=z.args (xs:=[.one (ba a (2^h))]) ⟨.cell cD,trivial⟩;have W'q:=W'.q;have SZ:=W.tq.tk.len h (by omega);have Uo:=W.tq.q h (by omega);have btB:tB=32769:=rfl;have Sg:=ah ha;have Sd:=ag ha;have b1:=ko (h:=h) (S:=X+X) (by omega);have b2:=ko (h:=h) (S:=tB+mS h (X+X) tB) (by omega);have S1:=Go.Tw.il (h:=h) (S:=X+X) (C:=tB);have g1:=QB.mul fY W'q Rw Rw (hs.qb.take (2^h)) (hs.qb.take (2^h));have g2:=QB.mul fY W'q Rw Rw (hs.qb.drop (2^h)) (hs.qb.drop (2^h));have g3:=QB.mul fY W'q fY (by omega) Uo g2;have q1:mS h (X+X) tB<2^38:=by omega
 have q2:mS h (tB+mS h (X+X) tB) tB<2^38:=by omega
 have q3:1≤mS h (X+X) tB:=by omega
 have m1:=(fU fY W'.tk W'q Rw Rw Sg Sg (hs.qb.take _) (hs.qb.take _) q1).rows;have m2:=(fU fY W'.tk W'q Rw Rw Sd Sd (hs.qb.drop _) (hs.qb.drop _) q1).rows;have m3:=(fU fY W'.tk W'q fY q3 SZ ae Uo g2 q2).rows;have sb:=(IG (h:=h) (t:=t) _ _ (by rw[ae];omega) (by rw[ae,ae]) (Qk.of g1 q1) (Qk.of g3 q2)).rows;rw[Go.Tw.nh]at sb;have m1:=m1.args (xs:=[tV h t,.one (bf a (2^h)),.one (bf a (2^h))]) ⟨.refl _,.cell cT,.cell cT,trivial⟩;have m2:=m2.args (xs:=[tV h t,.one (ba a (2^h)),.one (ba a (2^h))]) ⟨.refl _,.cell cD,.cell cD,trivial⟩;obtain⟨e,he⟩:∃e,e=aP h t a:=⟨_,rfl⟩;obtain⟨p1,TK⟩:∃p,p=ai h t (a.take (2^h)) (a.take (2^h)):=⟨_,rfl⟩;obtain⟨p2,Tp⟩:∃p,p=ai h t (a.drop (2^h)) (a.drop (2^h)):=⟨_,rfl⟩;rw[←he]at sb c;rw[←TK]at m1 sb;rw[←Tp]at m2 m3 sb;obtain⟨p3,UP⟩:∃p,p=ai h t (t.getD h []) p2:=⟨_,rfl⟩;rw[←UP]at m3 sb;obtain⟨n,RK⟩:∃n,n=2^h:=⟨_,rfl⟩;have RT:a.length=2*n:=by rw[ha,Nat.pow_succ,RK];omega
 have w1:IntKind.i64.wrap (((h+1:Nat):Int)-1)=(h:Int):=by rw[IntWalk.i64_in _ (by omega)];omega
 have Z5:n≤8:=by omega
 have w2:IntKind.i64.wrap (((a.length:Nat):Int).tdiv 2)=(n:Int):=by
  rw[RT,Int.tdiv_eq_ediv_of_nonneg (by omega),IntWalk.i64_in _ (by omega)];omega
 have w4:((a.length:Int)-(n:Int)).toNat=a.length-n:=by omega
 obtain⟨sgn',Uz⟩:∃s,s=bo (h+1) t a:=⟨_,rfl⟩;obtain⟨r,RD⟩:∃r,r=t.getD h []:=⟨_,rfl⟩;obtain⟨zn,S9⟩:∃z,z=zE (2^h):=⟨_,rfl⟩;rw[←S9]at fz lz;rw[←Uz]at sg TM;rw[←RD]at m3;rw[←RK]at z m1 m2 hp lz;clear hv RK S9 cT cD hn ha hs W W' W'q SZ Uo Sg Sd b1 b2 S1 g1 g2 g3 q1 q2 q3 he TK Tp UP;refine pw func118 ⟨[0,1,4,5,6,7,8,9,10,11,12,13,14,15,16,17,19,20,21,22,23,24,25,26,27,28,32,46,70,77,96,120,125,140],[(7,.nil),(9,.nil)]⟩ ?_;simp only[Tryz.f118,ntmps118,iz,seval];simp only[vx,T,seval,tV,tC,eV,aa,bf,ba,QV,QC,GC,w1,w2,w4,←RD];refine⟨fun h=>absurd h (by omega),fun _=>Lg ?_⟩;simp only[vx,T,seval,tV,tC,eV,aa,bf,ba,QV,QC,GC,w1,w2,w4,←RD];refine Cg sg ?_;simp only[vx,T,seval,tV,tC,eV,aa,bf,ba,QV,QC,GC,w1,w2,w4,←RD];refine⟨fun h=>absurd h (by omega),fun _=>Lg ?_⟩;simp only[vx,T,seval,tV,tC,eV,aa,bf,ba,QV,QC,GC,w1,w2,w4,←RD];refine⟨⟨by omega,by omega⟩,⟨by omega,by omega⟩,⟨by omega,by omega⟩,⟨by omega,by omega,by omega⟩,Cg o0 ?_⟩;simp only[vx,T,seval,tV,tC,eV,aa,bf,ba,QV,QC,GC,w1,w2,w4,←RD];refine Cg fz ?_;simp only[vx,T,seval,tV,tC,eV,aa,bf,ba,QV,QC,GC,w1,w2,w4,←RD];refine Cg z ?_;simp only[vx,T,seval,tV,tC,eV,aa,bf,ba,QV,QC,GC,w1,w2,w4,←RD];refine Cg m1 ?_;simp only[vx,T,seval,tV,tC,eV,aa,bf,ba,QV,QC,GC,w1,w2,w4,←RD];refine Cg m2 ?_;simp only[vx,T,seval,tV,tC,eV,aa,bf,ba,QV,QC,GC,w1,w2,w4,←RD];refine Cg m3 ?_;simp only[vx,T,seval,tV,tC,eV,aa,bf,ba,QV,QC,GC,w1,w2,w4,←RD];refine Cg sb ?_;simp only[vx,T,seval,tV,tC,eV,aa,bf,ba,QV,QC,GC,w1,w2,w4,←RD];refine Cg c ?_;simp only[vx,T,seval,tV,tC,eV,aa,bf,ba,QV,QC,GC,w1,w2,w4,←RD];exact Ve rfl
def mE (m:El):Nat→El
 |0=>m
 |j+1=>aJ (mE m j)
theorem Iy {m:El}{n:Nat}(h:m.length=n):∀j,(mE m j).length=n
 |0=>h
 |j+1=>by rw[mE,aq];exact Iy h j
theorem Mj {X:Nat}{m:El}(h:QB X m):∀j,QB X (mE m j)
 |0=>h
 |j+1=>(Mj h j).neg
theorem Bc {X h:Nat}(Rw:1≤X)(hX:X≤2^30){t:List El}{a m w i:El}(W:wW X (h+1) t)(ha:a.length=2^(h+1))(hs:gT X (h+1) t a)(TM:¬bo (h+1) t a<0)(hv:a.drop (2^h)≠zE (2^h))(D':Rd h t){k:Nat}{r:V}(hk:k≤2)
  (c:Pr prog 118 [tV h t,eV (aP h t a)] (.aF [eV m,.one (.bool true)])) (lm:m.length=2^h) (qm:QB X m) (qx:∀j,j<2→QB X (aB (a.take (2^h)) (mE m j)))
  (no:∀j,j<k→∃l:List (Nat→C),Pr prog 118 [tV h t,eV (ai h t (aX h (mkRat 1 2)) (aB (a.take (2^h)) (mE m j)))] (.aF [.one (GC l),.one (.bool false)]))
  (yes:k<2→r= .aF [eV (w++ai h t (aX h (mkRat 1 2)) (ai h t (a.drop (2^h)) i)),.one (.bool true)]∧w.length=2^h∧lY X h t w∧cC h t w=some i∧QB X i∧QB X (ai h t (a.drop (2^h)) i)∧
   Pr prog 118 [tV h t,eV (ai h t (aX h (mkRat 1 2)) (aB (a.take (2^h)) (mE m k)))] (.aF [eV w,.one (.bool true)]))
  (fin:k=2→r= .aF [.one .nil,.one (.bool false)]):
  Pr prog 118 [tV (h+1) t,eV a] r:=by
 have W':=W.tq.le (Nat.le_succ h);have h3:=W.tq.h3;have hp:2^h≤8:=Nat.pow_le_pow_right (n:=2) (by decide) (show h≤3 by omega);have sg:=lS Rw hX W ha hs;have z:=jx (a.drop (2^h)) (by rw[ag ha];omega);have o0:=bc 0 (by decide) (by decide);have fz:=(dP (h:=h) (t:=t) (by omega) (Rat.ofInt 0)).rows;rw[BL]at fz;have lz:(zE (2^h)).length=2^h:=ar;rw[decide_eq_false (by rw[ag ha];exact hv)]at z;have hn:(2^h:Nat)≤a.length:=by rw[ha,Nat.pow_succ];omega
 have cT:=fu hn;have cD:=eW (a:=a) (n:=2^h);have z:=z.args (xs:=[.one (ba a (2^h))]) ⟨.cell cD,trivial⟩;have W'q:=W'.q;have SZ:=W.tq.tk.len h (by omega);have Uo:=W.tq.q h (by omega);have btB:tB=32769:=rfl;have Sg:=ah ha;have Sd:=ag ha;have b1:=ko (h:=h) (S:=X+X) (by omega);have b2:=ko (h:=h) (S:=tB+mS h (X+X) tB) (by omega);have S1:=Go.Tw.il (h:=h) (S:=X+X) (C:=tB);have g1:=QB.mul fY W'q Rw Rw (hs.qb.take (2^h)) (hs.qb.take (2^h));have g2:=QB.mul fY W'q Rw Rw (hs.qb.drop (2^h)) (hs.qb.drop (2^h));have g3:=QB.mul fY W'q fY (by omega) Uo g2;have q1:mS h (X+X) tB<2^38:=by omega
 have q2:mS h (tB+mS h (X+X) tB) tB<2^38:=by omega
 have q3:1≤mS h (X+X) tB:=by omega
 have m1:=(fU fY W'.tk W'q Rw Rw Sg Sg (hs.qb.take _) (hs.qb.take _) q1).rows;have m2:=(fU fY W'.tk W'q Rw Rw Sd Sd (hs.qb.drop _) (hs.qb.drop _) q1).rows;have m3:=(fU fY W'.tk W'q fY q3 SZ ae Uo g2 q2).rows;have sb:=(IG (h:=h) (t:=t) _ _ (by rw[ae];omega) (by rw[ae,ae]) (Qk.of g1 q1) (Qk.of g3 q2)).rows;rw[Go.Tw.nh]at sb;have m1:=m1.args (xs:=[tV h t,.one (bf a (2^h)),.one (bf a (2^h))]) ⟨.refl _,.cell cT,.cell cT,trivial⟩;have m2:=m2.args (xs:=[tV h t,.one (ba a (2^h)),.one (ba a (2^h))]) ⟨.refl _,.cell cD,.cell cD,trivial⟩;obtain⟨e,he⟩:∃e,e=aP h t a:=⟨_,rfl⟩;obtain⟨p1,TK⟩:∃p,p=ai h t (a.take (2^h)) (a.take (2^h)):=⟨_,rfl⟩;obtain⟨p2,Tp⟩:∃p,p=ai h t (a.drop (2^h)) (a.drop (2^h)):=⟨_,rfl⟩;rw[←he]at sb c;rw[←TK]at m1 sb;rw[←Tp]at m2 m3 sb;obtain⟨p3,UP⟩:∃p,p=ai h t (t.getD h []) p2:=⟨_,rfl⟩;rw[←UP]at m3 sb;have fr:=om 1 2 (by decide) (by decide) (by decide) (by decide+kernel) (by decide+kernel);have hf:=(dP (h:=h) (t:=t) (by omega) (mkRat 1 2)).rows;have qh:QB 8 (aX h (mkRat 1 2)):=GZ (by decide+kernel) (by decide+kernel);have lh:(aX h (mkRat 1 2)).length=2^h:=aG;have lmj:=Iy lm;have qmj:=Mj qm;have ad:∀j,Pr prog 57 [tV h t,.one (bf a (2^h)),eV (mE m j)] (eV (aB (a.take (2^h)) (mE m j))):=fun j=>
  (s9 (h:=h) (t:=t) (a.take (2^h)) (mE m j) (by rw[Sg];omega) (by rw[Sg,lmj j]) (.of (hs.qb.take _) (by omega)) (.of (qmj j) (by omega))).rows.args ⟨.refl _,.cell cT,.refl _,trivial⟩
 have b8:=kZ (h:=h) (S:=8+X) (by omega) (by omega);have mh:∀j,j<2→Pr prog 51 [tV h t,eV (aX h (mkRat 1 2)),eV (aB (a.take (2^h)) (mE m j))] (eV (ai h t (aX h (mkRat 1 2)) (aB (a.take (2^h)) (mE m j)))):=fun j hj=>
  (fU fY W'.tk W'q (by decide) Rw lh (ao Sg (lmj j)) qh (qx j hj) b8).rows
 have ng:∀j,Pr prog 60 [tV h t,eV (mE m j)] (eV (mE m (j+1))):=fun j=>
  (zd (h:=h) (t:=t) (mE m j) (by rw[lmj j];omega) (.of (qmj j) (by omega))).rows
 have fn:k<2→∃g,g=ai h t (a.drop (2^h)) i∧Pr prog 58 [tV h t,eV w] (.aF [eV i,.one (.int .i64 0)])∧Pr prog 51 [tV h t,.one (ba a (2^h)),eV i] (eV g)∧
   Pr prog 51 [tV h t,eV (aX h (mkRat 1 2)),eV g] (eV (ai h t (aX h (mkRat 1 2)) g))∧Pr prog 156 [eV w,eV (ai h t (aX h (mkRat 1 2)) g)] (eV (w++ai h t (aX h (mkRat 1 2)) g)):=fun SX=>by
  obtain⟨_,lw,iw,hi,qi,qg,_⟩:=yes SX;have li:=Go.Proofs.YthnkehdgnagmnaaGreat.jm hi;refine⟨_,rfl,((uw Rw hX W' D' lw iw).1 i hi).rows,?_,(fU fY W'.tk W'q (by decide) Rw lh ae qh qg b8).rows,A3 _ _ (by rw[lw,ae];omega)⟩;exact(fU fY W'.tk W'q Rw Rw Sd li (hs.qb.drop _) qi (kZ (h:=h) (S:=X+X) (by omega) (by omega))).rows.args ⟨.refl _,.cell cD,.refl _,trivial⟩
 have yes:k<2→∃g,r= .aF [eV (w++ai h t (aX h (mkRat 1 2)) g),.one (.bool true)]∧Pr prog 118 [tV h t,eV (ai h t (aX h (mkRat 1 2)) (aB (a.take (2^h)) (mE m k)))] (.aF [eV w,.one (.bool true)])∧
   Pr prog 58 [tV h t,eV w] (.aF [eV i,.one (.int .i64 0)])∧Pr prog 51 [tV h t,.one (ba a (2^h)),eV i] (eV g)∧
   Pr prog 51 [tV h t,eV (aX h (mkRat 1 2)),eV g] (eV (ai h t (aX h (mkRat 1 2)) g))∧Pr prog 156 [eV w,eV (ai h t (aX h (mkRat 1 2)) g)] (eV (w++ai h t (aX h (mkRat 1 2)) g)):=fun SX=>by
  obtain⟨g,hg,f1,f2,f3,f4⟩:=fn SX;obtain⟨y1,_,_,_,_,_,y2⟩:=yes SX;exact⟨g,by rw[hg];exact y1,y2,f1,f2,f3,f4⟩
 obtain⟨two,Zu⟩:∃x,x=aX h (mkRat 1 2):=⟨_,rfl⟩;obtain⟨u,hu⟩:∃u,u=a.take (2^h):=⟨_,rfl⟩;rw[←Zu]at hf mh no yes;rw[←hu]at ad mh no yes;obtain⟨n,RK⟩:∃n,n=2^h:=⟨_,rfl⟩;have RT:a.length=2*n:=by rw[ha,Nat.pow_succ,RK];omega
 have w1:IntKind.i64.wrap (((h+1:Nat):Int)-1)=(h:Int):=by rw[IntWalk.i64_in _ (by omega)];omega
 have Z5:n≤8:=by omega
 have w2:IntKind.i64.wrap (((a.length:Nat):Int).tdiv 2)=(n:Int):=by
  rw[RT,Int.tdiv_eq_ediv_of_nonneg (by omega),IntWalk.i64_in _ (by omega)];omega
 have w4:((a.length:Int)-(n:Int)).toNat=a.length-n:=by omega
 obtain⟨sgn',Uz⟩:∃s,s=bo (h+1) t a:=⟨_,rfl⟩;obtain⟨r0,RD⟩:∃r,r=t.getD h []:=⟨_,rfl⟩;obtain⟨zn,S9⟩:∃z,z=zE (2^h):=⟨_,rfl⟩;rw[←S9]at fz lz;rw[←Uz]at sg TM;rw[←RD]at m3;rw[←RK]at z m1 m2 hp lz ad yes;clear hv RK S9 cT cD hn ha hs W W' W'q SZ Uo Sg Sd b1 b2 S1 g1 g2 g3 q1 q2 q3 he TK Tp UP fn qh lh lmj qmj b8 D' lm qm qx Zu hu;refine pw func118 ⟨[0,1,4,5,6,7,8,9,10,11,12,13,14,15,16,17,19,20,21,22,23,24,25,26,27,28,32,46,70,77,96,120,125,140],[(7,.nil),(9,.nil)]⟩ ?_;simp only[Tryz.f118,ntmps118,iz,seval];simp only[vx,T,seval,tV,tC,eV,aa,bf,ba,QV,QC,GC,w1,w2,w4,←RD];refine⟨fun h=>absurd h (by omega),fun _=>Lg ?_⟩;simp only[vx,T,seval,tV,tC,eV,aa,bf,ba,QV,QC,GC,w1,w2,w4,←RD];refine Cg sg ?_;simp only[vx,T,seval,tV,tC,eV,aa,bf,ba,QV,QC,GC,w1,w2,w4,←RD];refine⟨fun h=>absurd h (by omega),fun _=>Lg ?_⟩;simp only[vx,T,seval,tV,tC,eV,aa,bf,ba,QV,QC,GC,w1,w2,w4,←RD];refine⟨⟨by omega,by omega⟩,⟨by omega,by omega⟩,⟨by omega,by omega⟩,⟨by omega,by omega,by omega⟩,Cg o0 ?_⟩;simp only[vx,T,seval,tV,tC,eV,aa,bf,ba,QV,QC,GC,w1,w2,w4,←RD];refine Cg fz ?_;simp only[vx,T,seval,tV,tC,eV,aa,bf,ba,QV,QC,GC,w1,w2,w4,←RD];refine Cg z ?_;simp only[vx,T,seval,tV,tC,eV,aa,bf,ba,QV,QC,GC,w1,w2,w4,←RD];refine Cg m1 ?_;simp only[vx,T,seval,tV,tC,eV,aa,bf,ba,QV,QC,GC,w1,w2,w4,←RD];refine Cg m2 ?_;simp only[vx,T,seval,tV,tC,eV,aa,bf,ba,QV,QC,GC,w1,w2,w4,←RD];refine Cg m3 ?_;simp only[vx,T,seval,tV,tC,eV,aa,bf,ba,QV,QC,GC,w1,w2,w4,←RD];refine Cg sb ?_;simp only[vx,T,seval,tV,tC,eV,aa,bf,ba,QV,QC,GC,w1,w2,w4,←RD];refine Cg c ?_;simp only[vx,T,seval,tV,tC,eV,aa,bf,ba,QV,QC,GC,w1,w2,w4,←RD];refine Cg fr ?_;simp only[vx,T,seval,tV,tC,eV,aa,bf,ba,QV,QC,GC,w1,w2,w4,←RD];refine Cg hf ?_;simp only[vx,T,seval,tV,tC,eV,aa,bf,ba,QV,QC,GC,w1,w2,w4,←RD];refine Lk (fun y:{j:Nat//j≤k}=>⟨[(4,.one .nil),(5,.one (.bool false)),(9,tV h t),(12,.one (bf a n)),(13,.one (ba a n)),(22,eV (mE m y.1)),(24,eV two),(25,.one (.int .i64 y.1))],[],2,159⟩) (fun y=>k-y.1) ⟨0,Nat.zero_le _⟩ ?_ (fun⟨j,hj⟩=>?_)
 ·refine Sa ?_;simp only[ry,seval,rz,tV,tC,eV,aa,bf,ba,mE];exact fun _ _ _ _=>rfl
 simp only;have wi:=wI j (by omega);simp only[vx,T,seval,tV,tC,eV,aa,bf,ba,QV,QC,GC,w1,w2,w4,←RD];refine⟨fun g=>Lg ?_,fun g=>Lg ?_⟩
 ·have OJ:=ad j;have mhj:=mh j (by omega);have ngj:=ng j;have Uy:=no j;obtain⟨mj,hmj⟩:∃x,x=mE m j:=⟨_,rfl⟩;obtain⟨mj',Zv⟩:∃x,x=mE m (j+1):=⟨_,rfl⟩;rw[←hmj,←Zv]at ngj;rw[←hmj]at OJ mhj Uy⊢;obtain⟨x,hx⟩:∃x,x=aB u mj:=⟨_,rfl⟩;rw[←hx]at OJ mhj Uy;obtain⟨y,hy⟩:∃y,y=ai h t two x:=⟨_,rfl⟩;rw[←hy]at mhj Uy
  by_cases U9:j<k
  ·obtain⟨l,hl⟩:=Uy U9;simp only[vx,T,seval,tV,tC,eV,aa,bf,ba,QV,QC,GC,w1,w2,w4,wi];refine Cg OJ ?_;simp only[vx,T,seval,tV,tC,eV,aa,bf,ba,QV,QC,GC,w1,w2,w4,wi];refine Cg mhj ?_;simp only[vx,T,seval,tV,tC,eV,aa,bf,ba,QV,QC,GC,w1,w2,w4,wi];refine Cg hl ?_;simp only[vx,T,seval,tV,tC,eV,aa,bf,ba,QV,QC,GC,w1,w2,w4,wi];refine Cg ngj ?_;simp only[vx,T,seval,tV,tC,eV,aa,bf,ba,QV,QC,GC,w1,w2,w4,wi];refine Lq ⟨j+1,by omega⟩ ?_ (by show k-(j+1)<k-j;omega);refine Sa ?_;simp only[ry,seval,rz,tV,tC,eV,aa,GC,bf,ba,←Zv]
  obtain rfl:j=k:=by omega
  obtain⟨g',hr,y1,y2,y3,y4,y5⟩:=yes (by omega);rw[←hmj,←hx,←hy]at y1;rw[hr];obtain⟨q,hq⟩:∃q,q=ai h t two g':=⟨_,rfl⟩;rw[←hq]at y4 y5⊢;simp only[vx,T,seval,tV,tC,eV,aa,bf,ba,QV,QC,GC,w1,w2,w4,wi];refine Cg OJ ?_;simp only[vx,T,seval,tV,tC,eV,aa,bf,ba,QV,QC,GC,w1,w2,w4,wi];refine Cg mhj ?_;simp only[vx,T,seval,tV,tC,eV,aa,bf,ba,QV,QC,GC,w1,w2,w4,wi];refine Cg y1 ?_;simp only[vx,T,seval,tV,tC,eV,aa,bf,ba,QV,QC,GC,w1,w2,w4,wi];refine Cg y2 ?_;simp only[vx,T,seval,tV,tC,eV,aa,bf,ba,QV,QC,GC,w1,w2,w4,wi];refine Cg y3 ?_;simp only[vx,T,seval,tV,tC,eV,aa,bf,ba,QV,QC,GC,w1,w2,w4,wi];refine Cg y4 ?_;simp only[vx,T,seval,tV,tC,eV,aa,bf,ba,QV,QC,GC,w1,w2,w4,wi];refine Cg y5 ?_;simp only[vx,T,seval,tV,tC,eV,aa,bf,ba,QV,QC,GC,w1,w2,w4,wi];exact Ve rfl
 have SX:k=2:=by omega
 rw[fin SX];simp only[vx,T,seval,tV,tC,eV,aa,bf,ba,QV,QC,GC,w1,w2,w4,←RD];exact Ve rfl
open Go Go.Eng
open Go.Tw (El aB aJ zE ai ar aq ao ae QB mS ah ag aP aI tB aX aG cC lY kU gT val In Rd l6 bo bZ dA Fx TG jL dI)
theorem mg {h:Nat}{t:List El}(x:El):ai h t (aX h (mkRat 1 2)) x=ai h t x (aX h (mkRat 1 2)):=Go.Tw.vE _ _
theorem Ip {h:Nat}{t:List El}{a:El}(H:Go.Tw.Rl h t)(ha:a.length=2^h)(hs:bo h t a<0):l6 h t (val h t a):=by
 intro z _ e;rw[bZ H ha]at hs;have h1:=R.Mw z;rw[e]at h1
 rcases R.dc (val h t a)with⟨k,k2⟩|⟨k,k2⟩|⟨k,k2⟩
 ·omega
 ·omega
 exact h1 k
theorem tn {X:Nat}(Rw:1≤X)(hX:X≤2^30){t:List El}:∀{h:Nat} {a:El},wW X h t→Rd h t→a.length=2^h→kU X h t a→JK h t a 118
 |0,a,_,_,ha,hs=>EZ ha (.of hs.qb (by omega))
 |h+1,a,W,D,ha,hs=>by
  have W':=W.le (Nat.le_succ h);have D':=D.le (Nat.le_succ h);have ih:=fun{b:El} (hb:b.length=2^h) (k:kU X h t b)=>tn Rw hX (a:=b) W' D' hb k;have lz:(zE (2^h)).length=2^h:=ar;obtain⟨s1,s2,s3⟩:=hs
  by_cases TM:bo (h+1) t a<0
  ·exact .inr ⟨Ip D.rl ha TM,[],Nat.zero_le _,Ea (PI Rw hX W ha s1 TM)⟩
  by_cases hv:a.drop (2^h)=zE (2^h)
  ·obtain⟨g1,g2,g3⟩:=s2 hv
   rcases ih (ah ha) g1 with⟨w,lw,ew,cw⟩|⟨n1,l,hl,c⟩
   ·obtain⟨k1,k2⟩:=Go.Tw.Am hv lw ew;exact .inl ⟨_,k1,k2,NW Rw hX W ha s1 TM hv lw cw⟩
   obtain⟨i,hi,_,_⟩:=Go.Tw.jn D' (D.rl h (by omega)).1 (R.ly (D.rl h (by omega)).2);obtain⟨qi,sq⟩:=g3 i hi
   rcases ih ae sq with⟨w,lw,ew,cw⟩|⟨n2,p,hp,c2⟩
   ·obtain⟨k1,k2⟩:=Go.Tw.yA D.rl ha hv hi lw ew;exact .inl ⟨_,k1,k2,N4 Rw hX W ha s1 TM hv D' lw c g2 hi qi cw⟩
   exact .inr ⟨Go.Tw.Ak D ha hv hi n1 n2,[],Nat.zero_le _,Ea (MV Rw hX W ha s1 TM hv D' c g2 hi qi c2)⟩
  obtain⟨g1,g2⟩:=s3 hv
  rcases ih aI g1 with⟨n,ln,en,cn⟩|⟨n1,l,hl,c⟩
  ·have lm:(aJ n).length=2^h:=by rw[aq,ln]
   have em:val h t (aJ n)*val h t (aJ n)=val h t (aP h t a):=by rw[Go.Tw.val_neg ln,R.neg_mul,R.mul_neg,R.neg_neg,en]
   obtain⟨k1,k2,k3,k4⟩:=g2 n ln en;obtain⟨k1',k2',Zq,Zr⟩:=g2 (aJ n) lm em;rw[Ax]at k3 k4 Zq Zr;have qx:∀j,j<2→QB X (aB (a.take (2^h)) (mE n j)):=fun j hj=>by
    match j,hj with
    |0,_=>exact k2
    |1,_=>exact k2'
   have fin:∀{m w:El},m.length=2^h→val h t m*val h t m=val h t (aP h t a)→w.length=2^h→val h t w*val h t w=val h t (ai h t (aB (a.take (2^h)) m) (aX h (mkRat 1 2)))→
     ∃i,cC h t w=some i∧(w++ai h t (aX h (mkRat 1 2)) (ai h t (a.drop (2^h)) i)).length=2^(h+1)∧
      val (h+1) t (w++ai h t (aX h (mkRat 1 2)) (ai h t (a.drop (2^h)) i))*val (h+1) t (w++ai h t (aX h (mkRat 1 2)) (ai h t (a.drop (2^h)) i))=val (h+1) t a:=by
    intro m w lm em lw ew;have h0:=Go.Tw.xu D ha hv lm em ew;obtain⟨i,hi,li,vi⟩:=Go.Tw.jn D' lw h0;refine⟨i,hi,Go.Tw.wH D ha hv lm em lw ew ae ?_⟩;rw[mg,Go.Tw.val_mul D'.rl ae aG,Go.Tw.cG,Go.Tw.val_mul D'.rl (ag ha) li,R.mul_comm (val h t w),R.mul_assoc,R.mul_comm (R.q _),←R.mul_assoc,R.mul_assoc (val h t (a.drop (2^h))),R.mul_comm (val h t i),vi,R.mul_one,R.nU]
   rcases ih ae k3 with⟨w,lw,ew,cw⟩|⟨n1,l1,_,c1⟩
   ·obtain⟨i,hi,f1,f2⟩:=fin ln en lw ew;obtain⟨_,m2,_,m4,_⟩:=k4 w lw ew;obtain⟨m5,m6⟩:=m4 i hi;exact .inl ⟨_,f1,f2,Bc Rw hX W ha s1 TM hv D' (k:=0) (by omega) cn ln k1 qx (fun j hj=>absurd hj (Nat.not_lt_zero _)) (fun _=>⟨rfl,lw,m2,hi,m5,m6,by rw[mg];exact cw⟩) (fun e=>absurd e (by decide))⟩
   have no1:∀j,j<1→∃l:List (Nat→C),Pr prog 118 [tV h t,eV (ai h t (aX h (mkRat 1 2)) (aB (a.take (2^h)) (mE n j)))] (.aF [.one (GC l),.one (.bool false)]):=fun j hj=>by
    obtain rfl:j=0:=by omega
    rw[mg];exact⟨l1,c1⟩
   rcases ih ae Zq with⟨w,lw,ew,cw⟩|⟨n2,l2,_,c2⟩
   ·obtain⟨i,hi,f1,f2⟩:=fin lm em lw ew;obtain⟨_,m2,_,m4,_⟩:=Zr w lw ew;obtain⟨m5,m6⟩:=m4 i hi;exact .inl ⟨_,f1,f2,Bc Rw hX W ha s1 TM hv D' (k:=1) (by omega) cn ln k1 qx no1 (fun _=>⟨rfl,lw,m2,hi,m5,m6,by rw[mg];exact cw⟩) (fun e=>absurd e (by decide))⟩
   refine .inr ⟨Go.Tw.wO D ha hv ln en n1 n2,[],Nat.zero_le _,Ea (Bc (w:=[]) (i:=[]) Rw hX W ha s1 TM hv D' (k:=2) (by omega) cn ln k1 qx (fun j hj=>?_) (fun e=>absurd e (by decide)) (fun _=>rfl))⟩;rw[mg]
   match j,hj with
   |0,_=>exact⟨l1,c1⟩
   |1,_=>exact⟨l2,c2⟩
  exact .inr ⟨Go.Tw.vk D ha hv n1,[],Nat.zero_le _,Ea (Oa Rw hX W ha s1 TM hv c)⟩
end Go.Proofs.YthnkehdgnagmnaaGreat
