/-
  MatrixDeterminant: for every input the law returns true, and each argument reads afterwards as it read before. No condition beyond the given row's own cells.
  (Text 4 of 9; made by a program out of smaller texts.)
-/
import Derived.RangeFuncBox
import Derived.RangeFuncLeaves
import Derived.Shelf.Abstract
import Derived.WalkKit
import Derived.OwnWalkIn
import Derived.TacticsInMore
import Derived.LoopNIn
import Derived.LoopIn
import Derived.Lib.Hide
import Derived.Test.YtchkplkghknabaaGreatChecked
import Derived.Test.YtchkplkghknabaaGreatPa
import Derived.Test.YtchkplkghknabaaGreatP3
set_option linter.unusedSimpArgs false
set_option linter.unusedVariables false
set_option maxHeartbeats 16000000
set_option maxRecDepth 10000
open Nat renaming reduceAdd→J1,reduceMul→J2,reduceSub→J3,reduceEqDiff→J4,reduceLT→J5,reduceLeDiff→J6,reduceBEq→J7,reduceDiv→J8,reduceMod→J9,reducePow→J0
open Int renaming reduceToNat→K1,reduceLE→K2,reduceLT→K3,reduceEq→K4,reducePow→K5,reduceSub→K6,reduceNeg→K7,natCast_add→X2,natCast_one→X3,natCast_zero→X4
open List renaming getD_cons_zero→X0,getD_cons_succ→X1,length_take→X5,length_append→X6,getD_eq_getElem?_getD→X7,getElem?_eq_getElem→X8
namespace Go.Proofs.YtchkplkghknabaaGreat
open Go.Proofs.Tryz
open Go Go.Eng
theorem oh (m n:Nat)(hm:nl m<2^44)(hn:nl n<2^44):Pr prog 246 [.one (.ints .u32 (aj m)),.one (.ints .u32 (aj n))] (.one (.ints .u32 (aj (m+n)))):=by
 rcases Nat.lt_or_ge (nl m) (nl n)with h|h
 ·have:=vB true n m (by omega) (fun _=>h) hn
  rw[Nat.add_comm];exact this
 exact vB false m n h (fun h=>by cases h) hm
theorem gK {os:List Int}{i:Nat}{d:Int}(h:i<os.length):(os.set i d).take (i+1)=os.take i++[d]:=by
 rw[List.take_set,List.take_succ_eq_append_getElem h,List.set_append_right _ _ (by simp;omega)]
 have:i-(os.take i).length=0:=by simp;omega
 rw[this];rfl
theorem cV.Kv {a b i:Nat}{os os':List Int}{c:Nat}(h:cV a b i os c)(he:os'.take i=os.take i)(hl:i≤os'.length):cV a b i os' c:=
 ⟨h.le,by rw[he];exact h.inr,hl,by rw[he];exact h.eq,h.c⟩
theorem cV.put {a b i:Nat}{os:List Int}{c s:Nat}(h:cV a b i os c)(hi:i<nl a)(hl:i<os.length)(hs:s=c+a/BB^i%BB+b/BB^i%BB):cV a b (i+1) (os.set i ((s%BB:Nat):Int)) (s/BB):=
 (h.step hi hs).Kv (by rw[gK hl,List.take_of_length_le (l:=os.take i++_) (by simp;omega)]) (by simp;omega)
theorem cV.last {a b:Nat}{os:List Int}{c:Nat}(hb:nl b≤nl a)(h:cV a b (nl a) os c)(hl:os.length=nl a+1):val (os.set (nl a) ((c%BB:Nat):Int))=a+b∧bI (os.set (nl a) ((c%BB:Nat):Int)):=by
 have e:os.set (nl a) ((c%BB:Nat):Int)=os.take (nl a)++[((c%BB:Nat):Int)]:=by
  rw[←gK (by omega),List.take_of_length_le (by simp;omega)]
 have h1:c%BB=c:=Nat.mod_eq_of_lt (by have:=h.c;unfold BB;omega);have hlen:(os.take (nl a)).length=nl a:=by simp;omega
 refine⟨?_,by rw[e];exact h.inr.append (bI.digit c)⟩;rw[e,fe,val_one,h1,hlen];exact h.sum hb
theorem u7 (swap:Bool)(a b:Nat)(Tp:nl b≤nl a)(WA:swap=true→nl b<nl a)(ha:nl a<2^44):Pr prog 187 [.one (.ints .u32 (aj (if swap then b else a))),.one (.ints .u32 (aj (if swap then a else b)))] (.one (.ints .u32 (aj (a+b)))):=by
 refine pw func187 ⟨[0,1,4,5,6,7,12,22,35],[]⟩ ?_;simp only[Tryz.f187,ntmps187,iz,seval]
 cases swap
 case' false=>have RE:((nl a:Int)<nl b)=False:=by simp;omega
 case' true=>have RE:((nl b:Int)<nl a)=True:=by have:=WA rfl;simp;omega
 all_goals
  simp only[vx,T,seval,RE];rw[IntWalk.i64_in _ (by omega)];refine⟨⟨by omega,by omega,by omega⟩,Lk (fun i:{i:Nat×List Int×Nat//cV a b i.1 i.2.1 i.2.2∧i.2.1.length=nl a+1}=>⟨[(0,.one (.ints .u32 (aj a))),(1,.one (.ints .u32 (aj b))),(5,.one (.own 1 1 0 (nl a+1))),(6,.one (.int .u64 i.1.2.2)),(7,.one (.int .i64 i.1.1))],[(1,⟨.ints 147 .u32 i.1.2.1,true⟩)],3,58⟩) (fun i=>nl a-i.1.1) ⟨(0,List.replicate (nl a+1) 0,0),⟨Nat.zero_le _,bI.nil,Nat.zero_le _,by simp[val,Nat.mod_one],Nat.zero_le _⟩,by simp⟩ ?_ (fun⟨⟨i,os,c⟩,hi,hl⟩=>?_)⟩
  ·have e:((nl a:Int)+1).toNat=nl a+1:=by omega
   refine Sa ?_;simp only[ry,seval,rz,e]
  have h1:=hi.le;have h2:=hi.len;have h3:=hi.c;simp only at h1 h2 h3 hl;simp only[vx,T,seval];refine⟨fun h=>Lg ?_,fun h=>Lg ?_⟩
  ·simp only[vx,T,seval];refine⟨⟨by omega,by omega⟩,?_⟩;have hx:=bc (a/BB^i);have hy:=bc (b/BB^i)
   simp(disch:=omega) only[lG,←X2,←Int.natCast_mul,Int.toNat_natCast,IntWalk.i64_in,IntWalk.u64_in,aA,aI,true_and,and_true]
   refine⟨fun h'=>Lg ?_,fun h'=>Lg ?_⟩
   ·simp only[vx,T,seval];refine⟨⟨by omega,by omega⟩,?_⟩
    simp(disch:=omega) only[lG,←X2,←Int.natCast_mul,Int.toNat_natCast,IntWalk.i64_in,IntWalk.u64_in,aA,aI,true_and,and_true]
    refine⟨by omega,Lq ⟨(i+1,_,_),hi.put (by omega) (by simp only;omega) rfl,by simp only[List.length_set];exact hl⟩ ?_ ?_⟩
    ·refine Sa ?_;simp only[ry,seval,rz]
    simp only;omega
   simp only[vx,T,seval];have WG:=iW (x:=b) (k:=i) (by omega)
   simp(disch:=omega) only[lG,←X2,←Int.natCast_mul,Int.toNat_natCast,IntWalk.i64_in,IntWalk.u64_in,aA,aI,true_and,and_true]
   refine⟨by omega,Lq ⟨(i+1,_,_),hi.put (s:=c+a/BB^i%BB) (by omega) (by simp only;omega) (by rw[WG];rfl),by simp only[List.length_set];exact hl⟩ ?_ ?_⟩
   ·refine Sa ?_;simp only[ry,seval,rz]
   simp only;omega
  simp only[vx,T,seval];have Tg:i=nl a:=by omega
  subst Tg;refine⟨⟨by omega,by omega⟩,?_⟩;obtain⟨hv,hr⟩:=hi.last Tp hl;simp only at hv hr
  simp(disch:=omega) only[lG,←X2,←Int.natCast_mul,Int.toNat_natCast,IntWalk.i64_in,IntWalk.u64_in,aA,aI,true_and,and_true]
  rw[List.take_of_length_le (by simp;omega)];refine Cg (bH _ hr (by simp;omega)) ?_;rw[hv];simp only[vx,T,seval];refine Va ?_;simp only[cU,aY,ry,seval]
theorem Ct (m n:Nat)(hm:nl m<2^44)(hn:nl n<2^44):Pr prog 187 [.one (.ints .u32 (aj m)),.one (.ints .u32 (aj n))] (.one (.ints .u32 (aj (m+n)))):=by
 rcases Nat.lt_or_ge (nl m) (nl n)with h|h
 ·have:=u7 true n m (by omega) (fun _=>h) hn
  rw[Nat.add_comm];exact this
 exact u7 false m n h (fun h=>by cases h) hm
structure gY (a b i:Nat) (os:List Int) (c:Nat):Prop where
 le:i≤nl a
 inr:bI (os.take i)
 len:os.length=nl a
 eq:val (os.take i)+b%BB^i=a%BB^i+BB^i*c
 c:c≤1
@[irreducible] def eY (x y c:Nat):Nat:=if x<y+c then 1 else 0
@[irreducible] def ir (x y c:Nat):Nat:=x+BB*eY x y c-(y+c)
theorem xT {x y c:Nat}(hx:x<BB)(hy:y<BB)(hc:c≤1):ir x y c+(y+c)=x+BB*eY x y c∧ir x y c<BB∧eY x y c≤1:=by
 unfold ir eY;unfold BB at*
 split<;>omega
theorem F7 {P v c A B' x y d c':Nat}(h:v+B'=A+P*c)(hd:d+(y+c)=x+BB*c'):(v+P*d)+(B'+P*y)=(A+P*x)+(P*BB)*c':=by
 have h1:P*d+P*y+P*c=P*x+P*(BB*c'):=by rw[←Nat.mul_add,←Nat.mul_add,←Nat.mul_add,←hd,Nat.add_assoc]
 rw[Nat.mul_assoc];omega
theorem gY.put {a b i:Nat}{os:List Int}{c:Nat}(h:gY a b i os c)(hi:i<nl a):gY a b (i+1) (os.set i ((ir (a/BB^i%BB) (b/BB^i%BB) c:Nat):Int)) (eY (a/BB^i%BB) (b/BB^i%BB) c):=by
 have hl:i<os.length:=by rw[h.len];exact hi
 obtain⟨h1,h2,h3⟩:=xT (bc (a/BB^i)) (bc (b/BB^i)) h.c;have hlen:(os.take i).length=i:=by simp;omega
 refine⟨hi,?_,by rw[List.length_set];exact h.len,?_,h3⟩
 ·rw[gK hl];have h4:ir (a/BB^i%BB) (b/BB^i%BB) c<4294967296:=h2;exact h.inr.append (bI.one ⟨by omega,by omega⟩)
 rw[gK hl,fe,hlen,val_one,eZ a,eZ b,Nat.pow_succ];exact F7 h.eq h1
theorem gY.last {a b:Nat}{os:List Int}{c:Nat}(hb:b≤a)(h:gY a b (nl a) os c):val os=a-b∧bI os:=by
 have e:os.take (nl a)=os:=List.take_of_length_le (by rw[h.len];exact Nat.le_refl _);have h1:=h.eq;have h2:=h.inr;rw[e]at h1 h2;rw[gP (Nat.le_refl _),gP (bf hb)]at h1;have h3:=j3 h2;rw[h.len]at h3;refine⟨?_,h2⟩;have h4:=h.c
 rcases Nat.lt_or_ge c 1 with h5|h5
 ·have:c=0:=by omega
  subst this;omega
 have:c=1:=by omega
 subst this;omega
theorem aT (n:Int):IntKind.u64.wrap n=n%18446744073709551616:=by
 simp[IntKind.wrap,IntKind.bits,IntKind.signed]
theorem Hu {x y c:Nat}(hx:x<BB)(hy:y<BB)(hc:c≤1):IntKind.u32.wrap (IntKind.u64.wrap (IntKind.u64.wrap ((x:Int)-c)-y))=(ir x y c:Nat):=by
 unfold ir eY;unfold BB at*
 rw[IntKind.wrap_u32,aT,aT]
 split<;>omega
theorem Gc {x y c:Nat}(hx:x<BB)(hy:y<BB)(hc:c≤1):(IntKind.u64.wrap (IntKind.u64.wrap ((x:Int)-c)-y)).fdiv 9223372036854775808=(eY x y c:Nat):=by
 unfold eY;unfold BB at*
 rw[aT,aT,Int.fdiv_eq_ediv_of_nonneg _ (by decide)]
 split<;>omega
theorem EH {x c:Nat}(hx:x<BB)(hc:c≤1):IntKind.u32.wrap (IntKind.u64.wrap ((x:Int)-c))=(ir x 0 c:Nat):=by
 unfold ir eY;unfold BB at*
 rw[IntKind.wrap_u32,aT]
 split<;>omega
theorem EU {x c:Nat}(hx:x<BB)(hc:c≤1):(IntKind.u64.wrap ((x:Int)-c)).fdiv 9223372036854775808=(eY x 0 c:Nat):=by
 unfold eY;unfold BB at*
 rw[aT,Int.fdiv_eq_ediv_of_nonneg _ (by decide)]
 split<;>omega
theorem zg {x y c:Nat}(hx:x<BB)(hy:y<BB)(hc:c≤1):IntKind.u32.wrap (IntKind.u64.wrap (IntKind.u64.wrap (IntKind.u64.wrap ((x:Int)+4294967296)-y)-c))=(ir x y c:Nat):=by
 unfold ir eY;unfold BB at*
 rw[IntKind.wrap_u32,aT,aT,aT]
 split<;>omega
theorem zO {x y c:Nat}(hx:x<BB)(hy:y<BB)(hc:c≤1):IntKind.u64.wrap (1-(IntKind.u64.wrap (IntKind.u64.wrap (IntKind.u64.wrap ((x:Int)+4294967296)-y)-c)).fdiv 4294967296)=(eY x y c:Nat):=by
 unfold eY;unfold BB at*
 rw[aT,aT,aT,aT,Int.fdiv_eq_ediv_of_nonneg _ (by decide)]
 split<;>omega
theorem wc {x c:Nat}(hx:x<BB)(hc:c≤1):IntKind.u32.wrap (IntKind.u64.wrap (IntKind.u64.wrap (IntKind.u64.wrap ((x:Int)+4294967296))-c))=(ir x 0 c:Nat):=by
 unfold ir eY;unfold BB at*
 rw[IntKind.wrap_u32,aT,aT,aT]
 split<;>omega
theorem vE {x c:Nat}(hx:x<BB)(hc:c≤1):IntKind.u64.wrap (1-(IntKind.u64.wrap (IntKind.u64.wrap (IntKind.u64.wrap ((x:Int)+4294967296))-c)).fdiv 4294967296)=(eY x 0 c:Nat):=by
 unfold eY;unfold BB at*
 rw[aT,aT,aT,aT,Int.fdiv_eq_ediv_of_nonneg _ (by decide)]
 split<;>omega
theorem mR (a b:Nat)(Tp:b≤a)(ha:nl a<2^44):Pr prog 247 [.one (.ints .u32 (aj a)),.one (.ints .u32 (aj b))] (.one (.ints .u32 (aj (a-b)))):=by
 have hba:=bf Tp;refine pw func247 ⟨[0,1,4,5,6,7,8,9,13,14,15,16,27],[]⟩ ?_;simp only[Tryz.f247,ntmps247,iz,seval];simp only[vx,T,seval];refine⟨⟨by omega,by omega,by omega,by omega⟩,Lk (fun i:{i:Nat×List Int×Nat//gY a b i.1 i.2.1 i.2.2}=>⟨[(0,.one (.ints .u32 (aj a))),(1,.one (.ints .u32 (aj b))),(5,.one (.own 1 1 0 (nl a))),(6,.one (.int .u64 i.1.2.2)),(13,.one (.ints .u32 (aj a))),(14,.one (.int .i64 (nl a))),(15,.one (.int .i64 i.1.1))],[(1,⟨.ints 147 .u32 i.1.2.1,true⟩)],3,45⟩) (fun i=>nl a-i.1.1) ⟨(0,List.replicate (nl a) 0,0),Nat.zero_le _,bI.nil,by simp,by simp[val,Nat.mod_one],Nat.zero_le _⟩ ?_ (fun⟨⟨i,os,c⟩,hi⟩=>?_)⟩
 ·refine Sa ?_;simp only[ry,seval,rz]
 have h1:=hi.le;have h2:=hi.len;have h3:=hi.c;simp only at h1 h2 h3;simp only[vx,T,seval];refine⟨fun h=>Lg ?_,fun h=>Lg ?_⟩
 ·simp only[vx,T,seval];refine⟨⟨by omega,by omega⟩,?_⟩;have hx:=bc (a/BB^i);have hy:=bc (b/BB^i);have e1:=IntWalk.u64_in (a/BB^i%BB:Nat) (by omega);have e2:=IntWalk.u64_in (b/BB^i%BB:Nat) (by omega);refine⟨fun h'=>Lg ?_,fun h'=>Lg ?_⟩
  ·simp only[vx,T,seval];have hp:=hi.put (by omega);simp only[lG,e1,e2,Hu hx hy h3,Gc hx hy h3,IntWalk.i64_in _ (show-9223372036854775808≤(i:Int)+1∧(i:Int)+1≤9223372036854775807 by omega)];refine⟨⟨by omega,by omega⟩,⟨by omega,by omega⟩,Lq ⟨(i+1,_,_),hp⟩ ?_ ?_⟩
   ·refine Sa ?_;simp only[ry,seval,rz]
   simp only;omega
  simp only[vx,T,seval];have WG:=iW (x:=b) (k:=i) (by omega);have hp:=hi.put (by omega);rw[WG]at hp;simp only[lG,e1,e2,EH hx h3,EU hx h3,IntWalk.i64_in _ (show-9223372036854775808≤(i:Int)+1∧(i:Int)+1≤9223372036854775807 by omega)];refine⟨⟨by omega,by omega⟩,Lq ⟨(i+1,_,_),hp⟩ ?_ ?_⟩
  ·refine Sa ?_;simp only[ry,seval,rz]
  simp only;omega
 simp only[vx,T,seval];have Tg:i=nl a:=by omega
 subst Tg;obtain⟨hv,hr⟩:=hi.last Tp;simp only at hv hr;rw[List.take_of_length_le (by omega)];refine Cg (du _ hr (by omega)) ?_;rw[hv];simp only[vx,T,seval];refine Va ?_;simp only[cU,aY,ry,seval]
theorem jU (a b:Nat)(Tp:b≤a)(ha:nl a<2^44):Pr prog 167 [.one (.ints .u32 (aj a)),.one (.ints .u32 (aj b))] (.one (.ints .u32 (aj (a-b)))):=by
 have hba:=bf Tp;refine pw func167 ⟨[0,1,4,5,6,7,8,9,16,22],[]⟩ ?_;simp only[Tryz.f167,ntmps167,iz,seval];simp only[vx,T,seval];refine⟨⟨by omega,by omega,by omega,by omega⟩,Lk (fun i:{i:Nat×List Int×Nat//gY a b i.1 i.2.1 i.2.2}=>⟨[(0,.one (.ints .u32 (aj a))),(1,.one (.ints .u32 (aj b))),(5,.one (.own 1 1 0 (nl a))),(6,.one (.int .u64 i.1.2.2)),(7,.one (.int .i64 i.1.1))],[(1,⟨.ints 147 .u32 i.1.2.1,true⟩)],3,48⟩) (fun i=>nl a-i.1.1) ⟨(0,List.replicate (nl a) 0,0),Nat.zero_le _,bI.nil,by simp,by simp[val,Nat.mod_one],Nat.zero_le _⟩ ?_ (fun⟨⟨i,os,c⟩,hi⟩=>?_)⟩
 ·refine Sa ?_;simp only[ry,seval,rz]
 have h1:=hi.le;have h2:=hi.len;have h3:=hi.c;simp only at h1 h2 h3;simp only[vx,T,seval];refine⟨fun h=>Lg ?_,fun h=>Lg ?_⟩
 ·simp only[vx,T,seval];have hx:=bc (a/BB^i);have hy:=bc (b/BB^i);have e1:=IntWalk.u64_in (a/BB^i%BB:Nat) (by omega);have e2:=IntWalk.u64_in (b/BB^i%BB:Nat) (by omega);refine⟨fun h'=>Lg ?_,fun h'=>Lg ?_⟩
  ·simp only[vx,T,seval];have hp:=hi.put (by omega);simp only[lG,e1,e2,zg hx hy h3,zO hx hy h3,IntWalk.i64_in _ (show-9223372036854775808≤(i:Int)+1∧(i:Int)+1≤9223372036854775807 by omega)];refine⟨⟨by omega,by omega⟩,⟨by omega,by omega⟩,⟨by omega,by omega⟩,Lq ⟨(i+1,_,_),hp⟩ ?_ ?_⟩
   ·refine Sa ?_;simp only[ry,seval,rz]
   simp only;omega
  simp only[vx,T,seval];have WG:=iW (x:=b) (k:=i) (by omega);have hp:=hi.put (by omega);rw[WG]at hp;simp only[lG,e1,e2,wc hx h3,vE hx h3,IntWalk.i64_in _ (show-9223372036854775808≤(i:Int)+1∧(i:Int)+1≤9223372036854775807 by omega)];refine⟨⟨by omega,by omega⟩,⟨by omega,by omega⟩,Lq ⟨(i+1,_,_),hp⟩ ?_ ?_⟩
  ·refine Sa ?_;simp only[ry,seval,rz]
  simp only;omega
 simp only[vx,T,seval];have Tg:i=nl a:=by omega
 subst Tg;obtain⟨hv,hr⟩:=hi.last Tp;simp only at hv hr;rw[List.take_of_length_le (by omega)];refine Cg (bH _ hr (by omega)) ?_;rw[hv];simp only[vx,T,seval];refine Va ?_;simp only[cU,aY,ry,seval]
open Go Go.Eng
structure gy (a b i:Nat) (os:List Int):Prop where
 le:i≤nl a
 len:os.length=nl a+nl b
 inr:bI os
 zero:∀j,i+nl b≤j→os.getD j 0=0
 eq:val os=(a%BB^i)*b
structure pJ (a b i k:Nat) (os:List Int) (c:Nat):Prop where
 le:k≤nl b
 len:os.length=nl a+nl b
 inr:bI os
 zero:∀j,i+nl b≤j→os.getD j 0=0
 eq:val os+BB^(i+k)*c=(a%BB^i)*b+BB^i*((a/BB^i%BB)*(b%BB^k))
 c:c<BB
theorem gy.init (a b:Nat):gy a b 0 (List.replicate (nl a+nl b) 0):=
 ⟨Nat.zero_le _,by simp,bI.replicate _,fun j _=>by simp[X7,List.getElem?_replicate];split<;>rfl,by rw[cL];simp[Nat.mod_one]⟩
theorem gy.start {a b i:Nat}{os:List Int}(h:gy a b i os):pJ a b i 0 os 0:=
 ⟨Nat.zero_le _,h.len,h.inr,h.zero,by rw[h.eq];simp[Nat.mod_one],by decide⟩
theorem getD_set_ne {os:List Int}{i j:Nat}{d:Int}(h:i≠j):(os.set i d).getD j 0=os.getD j 0:=by
 rw[X7,X7,List.getElem?_set_ne h]
theorem pJ.put {a b i k:Nat}{os:List Int}{c o s:Nat}(h:pJ a b i k os c)(hi:i<nl a)(hk:k<nl b)(ho:os.getD (i+k) 0=(o:Int))(hs:s=(a/BB^i%BB)*(b/BB^k%BB)+o+c):
  pJ a b i (k+1) (os.set (i+k) ((s%BB:Nat):Int)) (s/BB):=by
 have hl:i+k<os.length:=by rw[h.len];omega
 have hx:=bc (a/BB^i);have hy:=bc (b/BB^k);have TJ:o<BB:=by have:=h.inr.getD (i+k);rw[ho]at this;unfold BB;omega
 refine⟨hk,by rw[List.length_set];exact h.len,h.inr.set _ ⟨by omega,by have:=bc s;omega⟩,fun j hj=>?_,?_,?_⟩
 ·rw[getD_set_ne (by omega)];exact h.zero j hj
 ·have e:=dP (xs:=os) (x:=((s%BB:Nat):Int)) hl;rw[ho]at e;simp only[Int.toNat_natCast]at e;have h1:=h.eq;have e2:BB^(i+(k+1))*(s/BB)+BB^(i+k)*(s%BB)=BB^(i+k)*s:=by
   rw[←Nat.add_assoc,Nat.pow_succ,Nat.mul_assoc,←Nat.mul_add,Nat.div_add_mod]
  have e3:BB^(i+k)*s=BB^i*((a/BB^i%BB)*(BB^k*(b/BB^k%BB)))+BB^(i+k)*o+BB^(i+k)*c:=by
   rw[hs,Nat.mul_add,Nat.mul_add,Nat.pow_add]
   congr 2
   simp only[Nat.mul_comm,Nat.mul_left_comm]
  rw[eZ b k,Nat.mul_add,Nat.mul_add];omega
 have hp:(a/BB^i%BB)*(b/BB^k%BB)≤4294967295*4294967295:=Nat.mul_le_mul (by omega) (by omega);have h3:=h.c;rw[Nat.div_lt_iff_lt_mul (by decide)];unfold BB at*
 omega
theorem pJ.next {a b i:Nat}{os:List Int}{c:Nat}(h:pJ a b i (nl b) os c)(hi:i<nl a):gy a b (i+1) (os.set (i+nl b) ((c%BB:Nat):Int)):=by
 have hl:i+nl b<os.length:=by rw[h.len];omega
 have hc:c%BB=c:=Nat.mod_eq_of_lt h.c;refine⟨hi,by rw[List.length_set];exact h.len,h.inr.set _ ⟨by omega,by have:=bc c;omega⟩,fun j hj=>?_,?_⟩
 ·rw[getD_set_ne (by omega)];exact h.zero j (by omega)
 have e:=dP (xs:=os) (x:=((c%BB:Nat):Int)) hl;rw[h.zero _ (Nat.le_refl _),hc]at e;simp only[Int.toNat_natCast,Int.toNat_zero,Nat.mul_zero,Nat.add_zero]at e;rw[hc,e,h.eq,gP (Nat.le_refl _),eZ a,Nat.add_mul,Nat.mul_assoc]
theorem gy.done {a b:Nat}{os:List Int}(h:gy a b (nl a) os):val os=a*b:=by
 rw[h.eq,gP (Nat.le_refl _)]
theorem yN (a b:Nat)(ha:nl a<2^44)(hb:nl b<2^44):Pr prog 227 [.one (.ints .u32 (aj a)),.one (.ints .u32 (aj b))] (.one (.ints .u32 (aj (a*b)))):=by
 refine pw func227 ⟨[0,1,4,5,6,7,8,9,10,18,25,26,27,28,32,33,34,35],[]⟩ ?_;simp only[Tryz.f227,ntmps227,iz,seval];simp only[vx,T,seval];refine⟨fun h0=>Lg ?_,fun h0=>Lg ?_⟩
 ·simp only[vx,T,seval];have h1:=jq h0;refine Va ?_;simp only[cU,aY,ry,seval,h1,Nat.zero_mul,bp]
 simp only[vx,T,seval];refine⟨fun h0=>Lg ?_,fun h0=>Lg ?_⟩
 ·simp only[vx,T,seval];have h1:=jq h0;refine Va ?_;simp only[cU,aY,ry,seval,h1,Nat.mul_zero,bp]
 simp only[vx,T,seval]
 simp(disch:=omega) only[lG,←X2,←Int.natCast_mul,Int.toNat_natCast,IntWalk.i64_in,IntWalk.u64_in,aA,aI,true_and,and_true]
 refine⟨⟨by omega,by omega,by omega,by omega⟩,Lk (fun i:{i:Nat×List Int//gy a b i.1 i.2}=>⟨[(0,.one (.ints .u32 (aj a))),(1,.one (.ints .u32 (aj b))),(5,.one (.own 1 1 0 (nl a+nl b))),(25,.one (.ints .u32 (aj a))),(26,.one (.int .i64 (nl a))),(27,.one (.int .i64 i.1.1))],[(1,⟨.ints 147 .u32 i.1.2,true⟩)],3,75⟩) (fun i=>nl a-i.1.1) ⟨(0,List.replicate (nl a+nl b) 0),gy.init a b⟩ ?_ (fun⟨⟨i,os⟩,hi⟩=>?_)⟩
 ·refine Sa ?_;simp only[ry,seval,rz]
 have h1:=hi.le;have h2:=hi.len;simp only at h1 h2;simp only[vx,T,seval];refine⟨fun h=>Lg ?_,fun h=>Lg ?_⟩
 ·simp only[vx,T,seval];have hx:=bc (a/BB^i);refine⟨⟨by omega,by omega⟩,Lk (fun k:{k:Nat×List Int×Nat//pJ a b i k.1 k.2.1 k.2.2}=>⟨[(0,.one (.ints .u32 (aj a))),(1,.one (.ints .u32 (aj b))),(5,.one (.own 1 1 0 (nl a+nl b))),(25,.one (.ints .u32 (aj a))),(26,.one (.int .i64 (nl a))),(27,.one (.int .i64 i)),(6,.one (.int .i64 i)),(7,.one (.int .u32 (a/BB^i%BB:Nat))),(8,.one (.int .u64 k.1.2.2)),(32,.one (.ints .u32 (aj b))),(33,.one (.int .i64 (nl b))),(34,.one (.int .i64 k.1.1))],[(1,⟨.ints 147 .u32 k.1.2.1,true⟩)],3,75⟩) (fun k=>nl b-k.1.1) ⟨(0,os,0),hi.start⟩ ?_ (fun⟨⟨k,os',c⟩,hk⟩=>?_)⟩
  ·refine Sa ?_;simp only[ry,seval,rz,lG]
  have h3:=hk.le;have h4:=hk.len;have h5:=hk.c;have h5:c<4294967296:=h5;have hz:=hk.inr.getD (i+k);simp only at h3 h4 hz;obtain⟨o,ho⟩:=Int.eq_ofNat_of_zero_le hz.1;rw[ho]at hz;simp only[vx,T,seval];refine⟨fun h'=>Lg ?_,fun h'=>Lg ?_⟩
  ·simp only[vx,T,seval];have hy:=bc (b/BB^k);have hp:(a/BB^i%BB)*(b/BB^k%BB)≤4294967295*4294967295:=Nat.mul_le_mul (by omega) (by omega)
   simp(disch:=omega) only[lG,←X2,←Int.natCast_mul,Int.toNat_natCast,IntWalk.i64_in,IntWalk.u64_in,aA,aI,true_and,and_true,ho]
   refine⟨by omega,by omega,by omega,Lq ⟨(k+1,_,_),hk.put (s:=c+((a/BB^i%BB)*(b/BB^k%BB)+o)) (by omega) (by omega) ho (by simp only;omega)⟩ ?_ ?_⟩
   ·refine Sa ?_;simp only[ry,seval,rz]
   simp only;omega
  simp only[vx,T,seval];have XH:k=nl b:=by omega
  subst XH
  simp(disch:=omega) only[lG,←X2,←Int.natCast_mul,Int.toNat_natCast,IntWalk.i64_in,IntWalk.u64_in,aA,aI,true_and,and_true]
  refine⟨by omega,Lq ⟨(i+1,_),hk.next (by omega)⟩ ?_ ?_⟩
  ·refine Sa ?_;simp only[ry,seval,rz]
  simp only;omega
 simp only[vx,T,seval];have Tg:i=nl a:=by omega
 subst Tg;have hr:=hi.inr;have hv:=hi.done;simp only at hr hv;rw[List.take_of_length_le (by omega)];refine Cg (du _ hr (by omega)) ?_;rw[hv];simp only[vx,T,seval];refine Va ?_;simp only[cU,aY,ry,seval]
theorem AJ (a b:Nat)(ha:nl a<2^44)(hb:nl b<2^44):Pr prog 151 [.one (.ints .u32 (aj a)),.one (.ints .u32 (aj b))] (.one (.ints .u32 (aj (a*b)))):=by
 refine pw func151 ⟨[0,1,4,5,6,7,8,18,24],[]⟩ ?_;simp only[Tryz.f151,ntmps151,iz,seval];simp only[vx,T,seval]
 simp(disch:=omega) only[lG,←X2,←Int.natCast_mul,Int.toNat_natCast,IntWalk.i64_in,IntWalk.u64_in,aA,aI,true_and,and_true]
 refine⟨⟨by omega,by omega,by omega,by omega⟩,Lk (fun i:{i:Nat×List Int//gy a b i.1 i.2}=>⟨[(0,.one (.ints .u32 (aj a))),(1,.one (.ints .u32 (aj b))),(5,.one (.own 1 1 0 (nl a+nl b))),(6,.one (.int .i64 i.1.1))],[(1,⟨.ints 147 .u32 i.1.2,true⟩)],3,67⟩) (fun i=>nl a-i.1.1) ⟨(0,List.replicate (nl a+nl b) 0),gy.init a b⟩ ?_ (fun⟨⟨i,os⟩,hi⟩=>?_)⟩
 ·refine Sa ?_;simp only[ry,seval,rz]
 have h1:=hi.le;have h2:=hi.len;simp only at h1 h2;simp only[vx,T,seval];refine⟨fun h=>Lg ?_,fun h=>Lg ?_⟩
 ·simp only[vx,T,seval];have hx:=bc (a/BB^i);refine Lk (fun k:{k:Nat×List Int×Nat//pJ a b i k.1 k.2.1 k.2.2}=>⟨[(0,.one (.ints .u32 (aj a))),(1,.one (.ints .u32 (aj b))),(5,.one (.own 1 1 0 (nl a+nl b))),(6,.one (.int .i64 i)),(7,.one (.int .u64 k.1.2.2)),(8,.one (.int .i64 k.1.1))],[(1,⟨.ints 147 .u32 k.1.2.1,true⟩)],3,67⟩) (fun k=>nl b-k.1.1) ⟨(0,os,0),hi.start⟩ ?_ (fun⟨⟨k,os',c⟩,hk⟩=>?_)
  ·refine Sa ?_;simp only[ry,seval,rz,lG]
  have h3:=hk.le;have h4:=hk.len;have h5:=hk.c;have h5:c<4294967296:=h5;have hz:=hk.inr.getD (i+k);simp only at h3 h4 hz;obtain⟨o,ho⟩:=Int.eq_ofNat_of_zero_le hz.1;rw[ho]at hz;simp only[vx,T,seval];refine⟨fun h'=>Lg ?_,fun h'=>Lg ?_⟩
  ·simp only[vx,T,seval];have hy:=bc (b/BB^k);have hp:(a/BB^i%BB)*(b/BB^k%BB)≤4294967295*4294967295:=Nat.mul_le_mul (by omega) (by omega)
   simp(disch:=omega) only[lG,←X2,←Int.natCast_mul,Int.toNat_natCast,IntWalk.i64_in,IntWalk.u64_in,aA,aI,true_and,and_true,ho]
   refine⟨by omega,by omega,by omega,by omega,Lq ⟨(k+1,_,_),hk.put (s:=c+o+(a/BB^i%BB)*(b/BB^k%BB)) (by omega) (by omega) ho (by simp only;omega)⟩ ?_ ?_⟩
   ·refine Sa ?_;simp only[ry,seval,rz]
   simp only;omega
  simp only[vx,T,seval];have XH:k=nl b:=by omega
  subst XH
  simp(disch:=omega) only[lG,←X2,←Int.natCast_mul,Int.toNat_natCast,IntWalk.i64_in,IntWalk.u64_in,aA,aI,true_and,and_true]
  refine⟨by omega,Lq ⟨(i+1,_),hk.next (by omega)⟩ ?_ ?_⟩
  ·refine Sa ?_;simp only[ry,seval,rz]
  simp only;omega
 simp only[vx,T,seval];have Tg:i=nl a:=by omega
 subst Tg;have hr:=hi.inr;have hv:=hi.done;simp only at hr hv;rw[List.take_of_length_le (by omega)];refine Cg (bH _ hr (by omega)) ?_;rw[hv];simp only[vx,T,seval];refine Va ?_;simp only[cU,aY,ry,seval]
open Go Go.Eng
theorem Le {a b:Nat}(ha:a<2^64)(hb:b<2^64):eW .or .u64 (a:Int) (b:Int)=((a|||b:Nat):Int):=by
 have Tp:a|||b<2^64:=Nat.or_lt_two_pow ha hb
 show IntKind.u64.wrap ((BitVec.ofInt 64 (a:Int)|||BitVec.ofInt 64 (b:Int)).toNat:Int)=_
 simp only[BitVec.ofInt_natCast,BitVec.toNat_or,BitVec.toNat_ofNat];rw[Nat.mod_eq_of_lt ha,Nat.mod_eq_of_lt hb,aT];omega
theorem O9 {r d:Nat}(hr:r<BB)(hd:d<BB):eW .or .u64 (IntKind.u64.wrap ((r:Int)*4294967296)) (d:Int)=((BB*r+d:Nat):Int):=by
 have h1:((r:Int)*4294967296)=((BB*r:Nat):Int):=by unfold BB;omega
 rw[h1,IntWalk.u64_in _ (by unfold BB at*;omega),Le (by unfold BB at*;omega) (by unfold BB at*;omega)]
 have:=Nat.two_pow_add_eq_or_of_lt (i:=32) (b:=d) (by unfold BB at hd;omega) r
 have h2:BB=2^32:=rfl;rw[h2,this]
theorem HI (x i:Nat):x/BB^i=BB*(x/BB^(i+1))+x/BB^i%BB:=by
 rw[Nat.pow_succ,←Nat.div_div_eq_div_mul,Nat.div_add_mod]
theorem ID {h d b:Nat}(hb:0<b):(BB*h+d)/b=BB*(h/b)+(BB*(h%b)+d)/b∧(BB*h+d)%b=(BB*(h%b)+d)%b:=by
 have e:BB*h+d=BB*(h%b)+d+b*(BB*(h/b)):=by
  have h1:=Nat.div_add_mod h b;have h2:BB*h=BB*(b*(h/b))+BB*(h%b):=by rw[←Nat.mul_add,h1]
  rw[Nat.mul_left_comm b BB];omega
 rw[e,Nat.add_mul_div_left _ _ hb,Nat.add_mul_mod_self_left];exact⟨Nat.add_comm _ _,rfl⟩
theorem CR {r d b:Nat}(hr:r<b)(hd:d<BB):(BB*r+d)/b<BB:=by
 rw[Nat.div_lt_iff_lt_mul (by omega)]
 have:BB*(r+1)≤BB*b:=Nat.mul_le_mul_left _ hr
 rw[Nat.mul_add]at this;omega
theorem uN {os:List Int}{i:Nat}{d:Int}(h:i<os.length):(os.set i d).drop i=d::os.drop (i+1):=by
 rw[List.drop_eq_getElem_cons (by simp;omega)]
 simp[List.drop_set]
structure lF (a b j:Nat) (os:List Int) (r:Nat):Prop where
 le:j≤nl a
 len:os.length=nl a
 inr:bI os
 eq:val (os.drop j)=a/BB^j/b
 r:r=a/BB^j%b
theorem lF.init (a b:Nat)(hb:0<b):lF a b (nl a) (List.replicate (nl a) 0) 0:=
 ⟨Nat.le_refl _,by simp,bI.replicate _,by rw[List.drop_of_length_le (by simp),lE (Nat.le_refl _)];simp[val],by rw[lE (Nat.le_refl _)];simp⟩
theorem lF.put {a b i:Nat}{os:List Int}{r:Nat}(hb:0<b)(h:lF a b (i+1) os r):
  lF a b i (os.set i (((BB*r+a/BB^i%BB)/b%BB:Nat):Int)) ((BB*r+a/BB^i%BB)%b):=by
 have hl:i<os.length:=by rw[h.len];exact h.le
 have hr:r<b:=by rw[h.r];exact Nat.mod_lt _ hb
 obtain⟨h1,h2⟩:=ID (h:=a/BB^(i+1)) (d:=a/BB^i%BB) hb;rw[←HI]at h1 h2;have hq:=CR (d:=a/BB^i%BB) hr (Nat.mod_lt _ (by decide));refine⟨Nat.le_of_lt h.le,by rw[List.length_set];exact h.len,h.inr.set _ ⟨by omega,by have:=bc ((BB*r+a/BB^i%BB)/b);omega⟩,?_,?_⟩
 ·rw[uN hl];simp only[val,Int.toNat_natCast];rw[h.eq,h1,Nat.mod_eq_of_lt hq,←h.r];omega
 rw[h2,←h.r]
theorem qP (a b:Nat)(ha:nl a<2^44)(hb:0<b)(Sn:b<BB):Pr prog 234 [.one (.ints .u32 (aj a)),.one (.int .u32 b)] (.aB [.one (.ints .u32 (aj (a/b))),.one (.ints .u32 (aj (a%b)))]):=by
 have hb3:b<4294967296:=Sn;refine pw func234 ⟨[0,1,4,5,6,7,8,16],[]⟩ ?_;simp only[Tryz.f234,ntmps234,iz,seval];simp only[vx,T,seval]
 simp(disch:=omega) only[lG,←X2,←Int.natCast_mul,Int.toNat_natCast,IntWalk.i64_in,IntWalk.u64_in,aA,aI,true_and,and_true]
 refine⟨⟨by omega,by omega,by omega,by omega⟩,Lk (fun j:{j:Nat×List Int×Nat//lF a b j.1 j.2.1 j.2.2}=>⟨[(0,.one (.ints .u32 (aj a))),(1,.one (.int .u32 b)),(6,.one (.own 1 1 0 (nl a))),(7,.one (.int .u64 j.1.2.2)),(8,.one (.int .i64 ((j.1.1:Int)-1)))],[(1,⟨.ints 147 .u32 j.1.2.1,true⟩)],3,43⟩) (fun j=>j.1.1) ⟨(nl a,List.replicate (nl a) 0,0),lF.init a b hb⟩ ?_ (fun⟨⟨j,os,r⟩,hj⟩=>?_)⟩
 ·refine Sa ?_;simp only[ry,seval,rz]
 have h1:=hj.le;have h2:=hj.len;have h3:r<b:=by have:=hj.r;simp only at this;rw[this];exact Nat.mod_lt _ hb
 simp only at h1 h2;simp only[vx,T,seval];refine⟨fun h=>Lg ?_,fun h=>Lg ?_⟩
 ·obtain⟨i,rfl⟩:∃i,j=i+1:=⟨j-1,by omega⟩;simp only[show ((i+1:Nat):Int)-1=(i:Int) by omega,Int.toNat_natCast]at h⊢;simp only[vx,T,seval];have hx:=bc (a/BB^i);have e1:=IntWalk.u64_in (a/BB^i%BB:Nat) (by omega);have e2:=IntWalk.u64_in (b:Int) (by omega);have e3:(((BB*r+a/BB^i%BB:Nat):Int).tdiv b)=(((BB*r+a/BB^i%BB)/b:Nat):Int):=rfl;have e4:(((BB*r+a/BB^i%BB:Nat):Int).tmod b)=(((BB*r+a/BB^i%BB)%b:Nat):Int):=rfl;have hq:=CR (d:=a/BB^i%BB) h3 hx;have YQ:(BB*r+a/BB^i%BB)/b<4294967296:=hq;have e5:IntKind.u64.wrap (((BB*r+a/BB^i%BB)/b:Nat):Int)=(((BB*r+a/BB^i%BB)/b:Nat):Int):=by
   generalize(BB*r+a/BB^i%BB)/b=q at YQ
   exact IntWalk.u64_in _ (by omega)
  simp only[lG,e1,e2,O9 (show r<BB by unfold BB;omega) hx,e3,e4,e5]
  simp(disch:=omega) only[lG,←X2,←Int.natCast_mul,Int.toNat_natCast,IntWalk.i64_in,IntWalk.u64_in,aA,aI,true_and,and_true]
  refine⟨⟨by omega,by omega⟩,by omega,⟨by omega,by omega⟩,by omega,Lq ⟨(i,_,_),hj.put hb⟩ ?_ ?_⟩
  ·refine Sa ?_;simp only[ry,seval,rz]
  simp only;omega
 simp only[vx,T,seval];have XI:j=0:=by omega
 subst XI;have hr:=hj.inr;have hv:=hj.eq;have RM:=hj.r;simp only[Nat.pow_zero,Nat.div_one,List.drop_zero]at hr hv RM;rw[List.take_of_length_le (by omega)];refine Cg (du _ hr (by omega)) ?_;rw[hv];simp only[vx,T,seval];refine Cg (dj r (by omega)) ?_;rw[RM];simp only[vx,T,seval];refine Va ?_;simp only[cU,aY,ry,seval]
theorem Hb (a b:Nat)(ha:nl a<2^44)(hb:0<b)(Sn:b<BB):Pr prog 163 [.one (.ints .u32 (aj a)),.one (.int .u32 b)] (.aB [.one (.ints .u32 (aj (a/b))),.one (.int .u32 (a%b:Nat))]):=by
 have hb3:b<4294967296:=Sn;refine pw func163 ⟨[0,1,4,5,6,7,8,16],[]⟩ ?_;simp only[Tryz.f163,ntmps163,iz,seval];simp only[vx,T,seval]
 simp(disch:=omega) only[lG,←X2,←Int.natCast_mul,Int.toNat_natCast,IntWalk.i64_in,IntWalk.u64_in,aA,aI,true_and,and_true]
 refine⟨⟨by omega,by omega,by omega,by omega⟩,Lk (fun j:{j:Nat×List Int×Nat//lF a b j.1 j.2.1 j.2.2}=>⟨[(0,.one (.ints .u32 (aj a))),(1,.one (.int .u32 b)),(6,.one (.own 1 1 0 (nl a))),(7,.one (.int .u64 j.1.2.2)),(8,.one (.int .i64 ((j.1.1:Int)-1)))],[(1,⟨.ints 147 .u32 j.1.2.1,true⟩)],3,43⟩) (fun j=>j.1.1) ⟨(nl a,List.replicate (nl a) 0,0),lF.init a b hb⟩ ?_ (fun⟨⟨j,os,r⟩,hj⟩=>?_)⟩
 ·refine Sa ?_;simp only[ry,seval,rz]
 have h1:=hj.le;have h2:=hj.len;have h3:r<b:=by have:=hj.r;simp only at this;rw[this];exact Nat.mod_lt _ hb
 simp only at h1 h2;simp only[vx,T,seval];refine⟨fun h=>Lg ?_,fun h=>Lg ?_⟩
 ·obtain⟨i,rfl⟩:∃i,j=i+1:=⟨j-1,by omega⟩;simp only[show ((i+1:Nat):Int)-1=(i:Int) by omega,Int.toNat_natCast]at h⊢;simp only[vx,T,seval];have hx:=bc (a/BB^i);have e1:=IntWalk.u64_in (a/BB^i%BB:Nat) (by omega);have e2:=IntWalk.u64_in (b:Int) (by omega);have e3:(((BB*r+a/BB^i%BB:Nat):Int).tdiv b)=(((BB*r+a/BB^i%BB)/b:Nat):Int):=rfl;have e4:(((BB*r+a/BB^i%BB:Nat):Int).tmod b)=(((BB*r+a/BB^i%BB)%b:Nat):Int):=rfl;have hq:=CR (d:=a/BB^i%BB) h3 hx;have YQ:(BB*r+a/BB^i%BB)/b<4294967296:=hq;have e5:IntKind.u64.wrap (((BB*r+a/BB^i%BB)/b:Nat):Int)=(((BB*r+a/BB^i%BB)/b:Nat):Int):=by
   generalize(BB*r+a/BB^i%BB)/b=q at YQ
   exact IntWalk.u64_in _ (by omega)
  simp only[lG,e1,e2,O9 (show r<BB by unfold BB;omega) hx,e3,e4,e5]
  simp(disch:=omega) only[lG,←X2,←Int.natCast_mul,Int.toNat_natCast,IntWalk.i64_in,IntWalk.u64_in,aA,aI,true_and,and_true]
  refine⟨⟨by omega,by omega⟩,by omega,⟨by omega,by omega⟩,by omega,Lq ⟨(i,_,_),hj.put hb⟩ ?_ ?_⟩
  ·refine Sa ?_;simp only[ry,seval,rz]
  simp only;omega
 simp only[vx,T,seval];have XI:j=0:=by omega
 subst XI;have hr:=hj.inr;have hv:=hj.eq;have RM:=hj.r;simp only[Nat.pow_zero,Nat.div_one,List.drop_zero]at hr hv RM;rw[List.take_of_length_le (by omega)];refine Cg (bH _ hr (by omega)) ?_;rw[hv];simp only[vx,T,seval];have e6:IntKind.u32.wrap (r:Int)=r:=IntWalk.u32_in _ (by omega);rw[e6,RM];refine Va ?_;simp only[cU,aY,ry,seval]
open Go Go.Eng
structure qO (xs:List Int) (off y i:Nat) (zs:List Int) (c:Nat):Prop where
 le:i≤nl y
 len:zs.length=xs.length
 inr:bI zs
 up:zs.drop (off+nl y+1)=xs.drop (off+nl y+1)
 eq:val zs+BB^(off+i)*c=val xs+BB^off*(y%BB^i)
 c:c≤1
theorem set_drop {zs:List Int}{i j:Nat}{d:Int}(h:i<j):(zs.set i d).drop j=zs.drop j:=List.drop_set_of_lt h
theorem qO.put {xs:List Int}{off y i:Nat}{zs:List Int}{c o s:Nat}(h:qO xs off y i zs c)(hi:i<nl y)(hl:off+nl y<xs.length)(ho:zs.getD (off+i) 0=(o:Int))(hs:s=o+y/BB^i%BB+c):
  qO xs off y (i+1) (zs.set (off+i) ((s%BB:Nat):Int)) (s/BB):=by
 have RF:off+i<zs.length:=by rw[h.len];omega
 have hy:=bc (y/BB^i);have TJ:o<4294967296:=by have:=h.inr.getD (off+i);rw[ho]at this;omega
 refine⟨hi,by rw[List.length_set];exact h.len,h.inr.set _ ⟨by omega,by have:=bc s;omega⟩,by rw[set_drop (by omega)];exact h.up,?_,?_⟩
 ·have e:=dP (xs:=zs) (x:=((s%BB:Nat):Int)) RF;rw[ho]at e;simp only[Int.toNat_natCast]at e;have h1:=h.eq;have e2:BB^(off+(i+1))*(s/BB)+BB^(off+i)*(s%BB)=BB^(off+i)*s:=by
   rw[←Nat.add_assoc,Nat.pow_succ,Nat.mul_assoc,←Nat.mul_add,Nat.div_add_mod]
  have e3:BB^(off+i)*s=BB^(off+i)*o+BB^off*(BB^i*(y/BB^i%BB))+BB^(off+i)*c:=by
   rw[hs,Nat.mul_add,Nat.mul_add,←Nat.mul_assoc (BB^off),←Nat.pow_add]
  rw[eZ y i,Nat.mul_add];omega
 have h3:=h.c
 have:s/BB<2:=by rw[Nat.div_lt_iff_lt_mul (by decide)];unfold BB at*;omega
 omega
def OZ (xs:List Int)(off y:Nat)(r:V)(B':Bk):Prop:=
 r= .aB []∧∃zs k,B'= .ints 147 .u32 zs∧zs.length=xs.length∧bI zs∧zs.drop (off+nl y+1)=xs.drop (off+nl y+1)∧val zs+BB^(off+nl y+1)*k=val xs+BB^off*y
theorem qO.done {xs:List Int}{off y:Nat}{zs:List Int}{c o:Nat}(h:qO xs off y (nl y) zs c)(hl:off+nl y<xs.length)(ho:zs.getD (off+nl y) 0=(o:Int)):
  OZ xs off y (.aB []) (.ints 147 .u32 (zs.set (off+nl y) (((o+c%BB)%BB:Nat):Int))):=by
 have RF:off+nl y<zs.length:=by rw[h.len];omega
 have hc:c%BB=c:=Nat.mod_eq_of_lt (by have:=h.c;unfold BB;omega);refine⟨rfl,_,(o+c)/BB,rfl,by rw[List.length_set];exact h.len,h.inr.set _ ⟨by omega,by have:=bc (o+c%BB);omega⟩,by rw[set_drop (by omega)];exact h.up,?_⟩;have e:=dP (xs:=zs) (x:=(((o+c)%BB:Nat):Int)) RF;rw[ho]at e;simp only[Int.toNat_natCast]at e;have h1:=h.eq;rw[gP (Nat.le_refl _)]at h1;have e2:BB^(off+nl y+1)*((o+c)/BB)+BB^(off+nl y)*((o+c)%BB)=BB^(off+nl y)*(o+c):=by
  rw[Nat.pow_succ,Nat.mul_assoc,←Nat.mul_add,Nat.div_add_mod]
 rw[Nat.mul_add]at e2;rw[hc];omega
theorem j4 (xs:List Int)(off y:Nat)(hx:bI xs)(hl:off+nl y<xs.length)(hlen:xs.length<2^44):Mc prog 238 [.one (.own 0 1 off (nl y+1)),.one (.ints .u32 (aj y))] (.ints 147 .u32 xs) (OZ xs off y):=by
 refine mw func238 ⟨[0,1,4,5,6,7,8,9,10],[]⟩ ?_;simp only[Tryz.f238,ntmps238,iz,seval];simp only[vx,T,seval];refine Lk (fun i:{i:Nat×List Int×Nat//qO xs off y i.1 i.2.1 i.2.2}=>⟨[(0,.one (.own 0 1 off (nl y+1))),(1,.one (.ints .u32 (aj y))),(4,.one (.int .u64 i.1.2.2)),(7,.one (.ints .u32 (aj y))),(8,.one (.int .i64 (nl y))),(9,.one (.int .i64 i.1.1))],[(0,⟨.ints 147 .u32 i.1.2.1,true⟩)],3,41⟩) (fun i=>nl y-i.1.1) ⟨(0,xs,0),Nat.zero_le _,rfl,hx,rfl,by simp[Nat.mod_one],Nat.zero_le _⟩ ?_ (fun⟨⟨i,zs,c⟩,hi⟩=>?_)
 ·refine Sa ?_;simp only[ry,seval,rz]
 have h1:=hi.le;have h2:=hi.len;have h3:=hi.c;have hz:=hi.inr.getD (off+i);simp only at h1 h2 h3 hz;obtain⟨o,ho⟩:=Int.eq_ofNat_of_zero_le hz.1;rw[ho]at hz;simp only[vx,T,seval];refine⟨fun h=>Lg ?_,fun h=>Lg ?_⟩
 ·simp only[vx,T,seval];have hy:=bc (y/BB^i)
  simp(disch:=omega) only[lG,←X2,←Int.natCast_mul,Int.toNat_natCast,IntWalk.i64_in,IntWalk.u64_in,aA,aI,true_and,and_true,ho]
  refine⟨by omega,by omega,by omega,Lq ⟨(i+1,_,_),hi.put (s:=c+(o+y/BB^i%BB)) (by simp only;omega) hl ho (by simp only;omega)⟩ ?_ ?_⟩
  ·refine Sa ?_;simp only[ry,seval,rz]
  simp only;omega
 simp only[vx,T,seval];have hiy:i=nl y:=by omega
 subst hiy
 simp(disch:=omega) only[lG,←X2,←Int.natCast_mul,Int.toNat_natCast,IntWalk.i64_in,IntWalk.u64_in,aA,aI,true_and,and_true,ho]
 exact⟨by omega,by omega,hi.done hl ho⟩
open Go Go.Eng
theorem zJ {x c:Nat}(hx:x<BB)(hc:c<BB):IntKind.u32.wrap (IntKind.u64.wrap ((x:Int)-c))=(ir x c 0:Nat):=by
 unfold ir eY;unfold BB at*
 rw[IntKind.wrap_u32,aT]
 split<;>omega
theorem AF {x c:Nat}(hx:x<BB)(hc:c<BB):(IntKind.u64.wrap ((x:Int)-c)).fdiv 9223372036854775808=(eY x c 0:Nat):=by
 unfold eY;unfold BB at*
 rw[aT,Int.fdiv_eq_ediv_of_nonneg _ (by decide)]
 split<;>omega
structure ql (xs:List Int) (off y D i:Nat) (zs:List Int) (c:Nat):Prop where
 le:i≤nl y
 len:zs.length=xs.length
 inr:bI zs
 up:zs.drop (off+nl y+1)=xs.drop (off+nl y+1)
 eq:val zs+BB^off*(D*(y%BB^i))=val xs+BB^(off+i)*c
 c:c<BB
theorem we {x D c o:Nat}(hx:x<BB)(hD:D<BB)(hc:c<BB)(ho:o<BB):ir o ((x*D+c)%BB) 0+(x*D+c)=o+BB*((x*D+c)/BB+eY o ((x*D+c)%BB) 0)∧ir o ((x*D+c)%BB) 0<BB∧(x*D+c)/BB+eY o ((x*D+c)%BB) 0<BB:=by
 obtain⟨h1,h2,h3⟩:=xT ho (Nat.mod_lt (x*D+c) (show BB>0 by decide)) (Nat.zero_le 1);have h4:=Nat.div_add_mod (x*D+c) BB;have h5:x*D≤4294967295*4294967295:=Nat.mul_le_mul (by unfold BB at hx;omega) (by unfold BB at hD;omega);refine⟨by rw[Nat.mul_add];omega,h2,?_⟩;have h6:eY o ((x*D+c)%BB) 0=1→0<(x*D+c)%BB:=by
  intro h;unfold eY at h
  split at h
  ·omega
  cases h
 generalize eY o ((x*D+c)%BB) 0=bor at*
 generalize(x*D+c)%BB=low at*
 generalize(x*D+c)/BB=q at*
 unfold BB at*
 rcases Nat.lt_or_ge bor 1 with h7|h7
 ·omega
 have:=h6 (by omega)
 omega
theorem ql.put {xs:List Int}{off y D i:Nat}{zs:List Int}{c o:Nat}(h:ql xs off y D i zs c)(hD:D<BB)(hi:i<nl y)(hl:off+nl y<xs.length)(ho:zs.getD (off+i) 0=(o:Int)):
  ql xs off y D (i+1) (zs.set (off+i) ((ir o ((y/BB^i%BB*D+c)%BB) 0:Nat):Int)) ((y/BB^i%BB*D+c)/BB+eY o ((y/BB^i%BB*D+c)%BB) 0):=by
 have RF:off+i<zs.length:=by rw[h.len];omega
 have TJ:o<BB:=by have:=h.inr.getD (off+i);rw[ho]at this;unfold BB;omega
 obtain⟨h1,h2,h3⟩:=we (bc (y/BB^i)) hD h.c TJ;refine⟨hi,by rw[List.length_set];exact h.len,h.inr.set _ ⟨by omega,by have:ir o ((y/BB^i%BB*D+c)%BB) 0<4294967296:=h2;omega⟩,by rw[set_drop (by omega)];exact h.up,?_,h3⟩;have e:=dP (xs:=zs) (x:=((ir o ((y/BB^i%BB*D+c)%BB) 0:Nat):Int)) RF;rw[ho]at e;simp only[Int.toNat_natCast]at e;have h4:=h.eq
 generalize ir o ((y/BB^i%BB*D+c)%BB) 0=dd at*
 generalize(y/BB^i%BB*D+c)/BB+eY o ((y/BB^i%BB*D+c)%BB) 0=cc at*
 have e2:BB^(off+(i+1))*cc=BB^(off+i)*(BB*cc):=by rw[←Nat.add_assoc,Nat.pow_succ,Nat.mul_assoc]
 have e3:BB^(off+i)*dd+BB^(off+i)*(y/BB^i%BB*D)+BB^(off+i)*c=BB^(off+i)*o+BB^(off+i)*(BB*cc):=by
  rw[←Nat.mul_add,←Nat.mul_add,←Nat.mul_add,←h1,Nat.add_assoc]
 have e4:BB^off*(D*(y%BB^(i+1)))=BB^off*(D*(y%BB^i))+BB^(off+i)*(y/BB^i%BB*D):=by
  rw[eZ y i,Nat.mul_add,Nat.mul_add,Nat.pow_add,Nat.mul_assoc,Nat.mul_left_comm D,Nat.mul_comm D (y/BB^i%BB)]
 rw[e2,e4];omega
def PL (xs:List Int)(off y D:Nat)(r:V)(B':Bk):Prop:=
 ∃t zs,r= .one (.bool t)∧B'= .ints 147 .u32 zs∧zs.length=xs.length∧bI zs∧zs.drop (off+nl y+1)=xs.drop (off+nl y+1)∧val zs+BB^off*(D*y)=val xs+BB^(off+nl y+1)*(if t then 1 else 0)
theorem ql.done {xs:List Int}{off y D:Nat}{zs:List Int}{c o:Nat}(h:ql xs off y D (nl y) zs c)(hl:off+nl y<xs.length)(ho:zs.getD (off+nl y) 0=(o:Int)):
  PL xs off y D (.one (.bool (decide (((eY o c 0:Nat):Int)=1)))) (.ints 147 .u32 (zs.set (off+nl y) ((ir o c 0:Nat):Int))):=by
 have RF:off+nl y<zs.length:=by rw[h.len];omega
 have TJ:o<BB:=by have:=h.inr.getD (off+nl y);rw[ho]at this;unfold BB;omega
 obtain⟨h1,h2,h3⟩:=xT TJ h.c (Nat.zero_le 1);refine⟨_,_,rfl,rfl,by rw[List.length_set];exact h.len,h.inr.set _ ⟨by omega,by have:ir o c 0<4294967296:=h2;omega⟩,by rw[set_drop (by omega)];exact h.up,?_⟩;have e:=dP (xs:=zs) (x:=((ir o c 0:Nat):Int)) RF;rw[ho]at e;simp only[Int.toNat_natCast]at e;have h4:=h.eq;rw[gP (Nat.le_refl _)]at h4;have hb:(if decide (((eY o c 0:Nat):Int)=1)=true then 1 else 0)=eY o c 0:=by
  by_cases h5:eY o c 0=1
  ·rw[h5];rfl
  rw[if_neg (by simp;omega)];omega
 rw[hb]
 generalize ir o c 0=dd at*
 generalize eY o c 0=bb at*
 have e3:BB^(off+nl y)*dd+BB^(off+nl y)*c=BB^(off+nl y)*o+BB^(off+nl y+1)*bb:=by
  rw[Nat.pow_succ,Nat.mul_assoc,←Nat.mul_add,←Nat.mul_add]
  congr 1
 omega
theorem jv (xs:List Int)(off y D:Nat)(hx:bI xs)(hl:off+nl y<xs.length)(hlen:xs.length<2^44)(hD:D<BB):Mc prog 237 [.one (.own 0 1 off (nl y+1)),.one (.ints .u32 (aj y)),.one (.int .u64 D)] (.ints 147 .u32 xs) (PL xs off y D):=by
 have hD2:D<4294967296:=hD;refine mw func237 ⟨[0,1,2,6,7,8,9,10,11,12,13,14,15,16],[]⟩ ?_;simp only[Tryz.f237,ntmps237,iz,seval];simp only[vx,T,seval];refine Lk (fun i:{i:Nat×List Int×Nat//ql xs off y D i.1 i.2.1 i.2.2}=>⟨[(0,.one (.own 0 1 off (nl y+1))),(1,.one (.ints .u32 (aj y))),(2,.one (.int .u64 D)),(7,.one (.int .u64 i.1.2.2)),(13,.one (.ints .u32 (aj y))),(14,.one (.int .i64 (nl y))),(15,.one (.int .i64 i.1.1))],[(0,⟨.ints 147 .u32 i.1.2.1,true⟩)],3,63⟩) (fun i=>nl y-i.1.1) ⟨(0,xs,0),Nat.zero_le _,rfl,hx,rfl,by simp[Nat.mod_one],by simp only;decide⟩ ?_ (fun⟨⟨i,zs,c⟩,hi⟩=>?_)
 ·refine Sa ?_;simp only[ry,seval,rz]
 have h1:=hi.le;have h2:=hi.len;have h3:=hi.c;have Wi:c<4294967296:=h3;have hz:=hi.inr.getD (off+i);simp only at h1 h2 h3 hz;obtain⟨o,ho⟩:=Int.eq_ofNat_of_zero_le hz.1;rw[ho]at hz;have TJ:o<BB:=by unfold BB;omega
 simp only[vx,T,seval];refine⟨fun h=>Lg ?_,fun h=>Lg ?_⟩
 ·simp only[vx,T,seval];have hy:=bc (y/BB^i);have hp:y/BB^i%BB*D≤4294967295*4294967295:=Nat.mul_le_mul (by omega) (by omega)
  simp(disch:=omega) only[lG,←X2,←Int.natCast_mul,Int.toNat_natCast,IntWalk.i64_in,IntWalk.u64_in,aA,aI,true_and,and_true,ho]
  have hm:=bc (y/BB^i%BB*D+c);obtain⟨_,_,U0⟩:=we hy hD h3 TJ;have e1:IntKind.u64.wrap (((y/BB^i%BB*D+c)%BB:Nat):Int)=(((y/BB^i%BB*D+c)%BB:Nat):Int):=IntWalk.u64_in _ (by omega);have e2:IntKind.u64.wrap (((y/BB^i%BB*D+c)/BB+eY o ((y/BB^i%BB*D+c)%BB) 0:Nat):Int)=(((y/BB^i%BB*D+c)/BB+eY o ((y/BB^i%BB*D+c)%BB) 0:Nat):Int):=by
   generalize(y/BB^i%BB*D+c)/BB+eY o ((y/BB^i%BB*D+c)%BB) 0=q at U0
   exact IntWalk.u64_in _ (by unfold BB at U0;omega)
  simp only[e1,zJ TJ hm,AF TJ hm,←X2,e2];refine⟨by omega,by omega,by omega,Lq ⟨(i+1,_,_),hi.put hD (by simp only;omega) hl ho⟩ ?_ ?_⟩
  ·refine Sa ?_;simp only[ry,seval,rz]
  simp only;omega
 simp only[vx,T,seval];have hiy:i=nl y:=by omega
 subst hiy
 simp(disch:=omega) only[lG,←X2,←Int.natCast_mul,Int.toNat_natCast,IntWalk.i64_in,IntWalk.u64_in,aA,aI,true_and,and_true,ho]
 simp only[zJ TJ h3,AF TJ h3];exact⟨by omega,by omega,hi.done hl ho⟩
end Go.Proofs.YtchkplkghknabaaGreat
namespace Go.Eng
def ig:Nat→Nat→List Int
 |0,_=>[]
 |k+1,n=>((n%BB:Nat):Int)::ig k (n/BB)
theorem aM:∀k n,(ig k n).length=k
 |0,_=>rfl
 |k+1,n=>by simp[ig,aM k]
theorem fY:∀k n,bI (ig k n)
 |0,_=>bI.nil
 |k+1,n=>bI.cons ⟨by omega,by have:=Nat.mod_lt n (show BB>0 by decide);unfold BB at*;omega⟩ (fY k _)
theorem jQ:∀k n,val (ig k n)=n%BB^k
 |0,n=>by simp[ig,val,Nat.mod_one]
 |k+1,n=>by
  simp only[ig,val,jQ k,Int.toNat_natCast];rw[Nat.pow_succ,Nat.mul_comm (BB^k),Nat.mod_mul]
theorem xS:∀{xs:List Int},bI xs→ig xs.length (val xs)=xs
 |[],_=>rfl
 |x::xs,h=>by
  have h2:=h.head;have h3:x.toNat<BB:=by unfold BB;omega
  simp only[List.length_cons,ig,val];rw[Nat.add_mul_mod_self_left,Nat.mod_eq_of_lt h3,Nat.add_mul_div_left _ _ (by decide:0<BB),Nat.div_eq_of_lt h3,Nat.zero_add,xS h.tail]
  congr 1;omega
theorem qz {xs:List Int}{k n:Nat}(h:bI xs)(hl:xs.length=k)(hv:val xs=n):xs=ig k n:=by
 rw[←hl,←hv,xS h]
theorem Kf {U V P high next Vr top u2 Ur:Nat}(hU:U=(top*BB+u2)*P+Ur)(hV:V=(high*BB+next)*P+Vr)(hUr:Ur<P)(SN:u2<BB)(hh:0<high):U/V≤top/high:=by
 rw[Nat.le_div_iff_mul_le hh];have h1:=Nat.div_mul_le_self U V
 generalize U/V=q at h1⊢
 rcases Nat.lt_or_ge top (q*high)with h2|h2
 ·exfalso
  have h3:(top+1)*(BB*P)≤q*high*(BB*P):=Nat.mul_le_mul_right _ h2;have h4:q*high*(BB*P)≤q*V:=by
   rw[hV,Nat.mul_assoc];refine Nat.mul_le_mul_left _ ?_;rw[Nat.add_mul,Nat.mul_assoc];omega
  have h5:(u2+1)*P≤BB*P:=Nat.mul_le_mul_right _ SN;rw[Nat.add_mul,Nat.mul_assoc top]at hU;rw[Nat.add_mul]at h3 h5;omega
 exact h2
theorem LX {U V P V2 Vr T3 Ur D:Nat}(hU:U=T3*P+Ur)(hV:V=V2*P+Vr)(hUr:Ur<P)(hD:T3<D*V2):U/V<D:=by
 have h1:=Nat.div_mul_le_self U V
 generalize U/V=q at h1⊢
 rcases Nat.lt_or_ge q D with h2|h2
 ·exact h2
 exfalso
 have h3:D*V2≤q*V2:=Nat.mul_le_mul_right _ h2;have h4:(T3+1)*P≤q*V2*P:=Nat.mul_le_mul_right _ (by omega);have h5:q*V2*P≤q*V:=by rw[hV,Nat.mul_assoc];exact Nat.mul_le_mul_left _ (by omega)
 rw[Nat.add_mul]at h4;omega
theorem Od {U V P V2 Vr T3 Ur D:Nat}(hU:U=T3*P+Ur)(hV:V=V2*P+Vr)(hVr:Vr<P)(hD:D*V2≤T3)(hl:D≤V2)(hV0:0<V):D≤U/V+1:=by
 rcases Nat.lt_or_ge (U/V+1) D with h|h
 ·exfalso
  have h1:U<(U/V+1)*V:=by
   have e:=Nat.div_add_mod U V;have l:=Nat.mod_lt U hV0;rw[Nat.add_mul,Nat.mul_comm (U/V)];omega
  generalize U/V=q at h h1
  have h2:(q+1)*V≤(q+1)*((V2+1)*P):=Nat.mul_le_mul_left _ (by rw[hV,Nat.add_mul];omega);have h3:D*V2*P≤T3*P:=Nat.mul_le_mul_right _ hD;have h4:D*V2*P<(q+1)*(V2+1)*P:=by rw[Nat.mul_assoc (q+1)];omega
  have h5:D*V2<(q+1)*(V2+1):=Nat.lt_of_mul_lt_mul_right h4;have h6:(q+2)*V2≤D*V2:=Nat.mul_le_mul_right _ h;have e1:(q+2)*V2=q*V2+2*V2:=Nat.add_mul _ _ _;have e2:(q+1)*(V2+1)=q*V2+V2+q+1:=by rw[Nat.add_mul,Nat.mul_add];omega
  omega
 exact h
end Go.Eng
namespace Go.Proofs.YtchkplkghknabaaGreat
open Go.Proofs.Tryz
open Go Go.Eng
theorem u5 {a b:Nat}(ha:a<2^32)(hb:b<2^32):eW .or .u32 (a:Int) (b:Int)=((a|||b:Nat):Int):=by
 have Tp:a|||b<2^32:=Nat.or_lt_two_pow ha hb
 show IntKind.u32.wrap ((BitVec.ofInt 32 (a:Int)|||BitVec.ofInt 32 (b:Int)).toNat:Int)=_
 simp only[BitVec.ofInt_natCast,BitVec.toNat_or,BitVec.toNat_ofNat];rw[Nat.mod_eq_of_lt ha,Nat.mod_eq_of_lt hb,IntKind.wrap_u32];omega
theorem Dy {w n:Nat}(hn:n≤32):(w*2^n)%BB=2^n*(w%2^(32-n)):=by
 have:BB=2^n*2^(32-n):=by rw[←Nat.pow_add,show n+(32-n)=32 by omega];rfl
 rw[this,Nat.mul_comm w,Nat.mul_mod_mul_left]
theorem CG {w n o:Nat}(hn:n<32)(ho:o<2^n):eW .or .u32 (o:Int) (((w*2^n)%BB:Nat):Int)=((o+(w*2^n)%BB:Nat):Int)∧o+(w*2^n)%BB<BB:=by
 have h1:2^n≤2^31:=Nat.pow_le_pow_right (by decide) (by omega);have hm:=bc (w*2^n);have e:=Nat.two_pow_add_eq_or_of_lt ho (w%2^(32-n));rw[←Dy (by omega)]at e
 have e3:o|||(w*2^n)%BB=o+(w*2^n)%BB:=by rw[Nat.or_comm,←e,Nat.add_comm]
 have h2:o|||(w*2^n)%BB<2^32:=Nat.or_lt_two_pow (by omega) (by omega)
 rw[e3]at h2;refine⟨by rw[u5 (by omega) (by omega),e3],h2⟩
structure ki (a n i:Nat) (zs:List Int):Prop where
 le:i≤nl a
 len:zs.length=nl a+1
 inr:bI zs
 eq:val zs=(a%BB^i)*2^n
theorem ki.init (a n:Nat):ki a n 0 (List.replicate (nl a+1) 0):=⟨Nat.zero_le _,by simp,bI.replicate _,by rw[cL];simp[Nat.mod_one]⟩
def Ms (a n i:Nat):Nat:=(a%BB^i)*2^n/BB^i
theorem ki.get {a n i:Nat}{zs:List Int}(h:ki a n i zs)(hn:n<32):zs.getD i 0=(Ms a n i:Nat)∧Ms a n i<2^n∧zs.getD (i+1) 0=0:=by
 have hp:0<BB^i:=Nat.pow_pos (by decide);have h1:Ms a n i<2^n:=by
  unfold Ms;rw[Nat.div_lt_iff_lt_mul hp,Nat.mul_comm];exact Nat.mul_lt_mul_of_pos_left (Nat.mod_lt _ hp) (Nat.pow_pos (by decide))
 have h2:2^n≤2^31:=Nat.pow_le_pow_right (by decide) (by omega);have h3:Ms a n i<BB:=by unfold BB;omega
 refine⟨?_,h1,?_⟩
 ·rw[dy h.inr,h.eq]
  show((Ms a n i%BB:Nat):Int)=_
  rw[Nat.mod_eq_of_lt h3]
 rw[dy h.inr,h.eq,Nat.pow_succ,←Nat.div_div_eq_div_mul]
 show((Ms a n i/BB%BB:Nat):Int)=0
 rw[Nat.div_eq_of_lt h3];rfl
theorem Pa {P o v1 v2 A Z W:Nat}(e1:A+P*o=Z+P*v1)(e2:W=A+P*(BB*v2)):W+P*o=Z+P*v1+P*(BB*v2):=by omega
theorem QG {zs:List Int}{i o v1 v2:Nat}(hr:bI zs)(hl:i+1<zs.length)(ho:zs.getD i 0=(o:Int))(hz:zs.getD (i+1) 0=0)(h1:v1<4294967296)(h2:v2<4294967296):
  bI ((zs.set i (v1:Int)).set (i+1) (v2:Int))∧val ((zs.set i (v1:Int)).set (i+1) (v2:Int))+BB^i*o=val zs+BB^i*v1+BB^i*(BB*v2):=by
 refine⟨(hr.set _ ⟨by omega,by omega⟩).set _ ⟨by omega,by omega⟩,?_⟩;have e1:val (zs.set i (v1:Int))+BB^i*o=val zs+BB^i*v1:=by
  have e:=dP (xs:=zs) (i:=i) (x:=(v1:Int)) (by omega);rw[ho]at e;exact e
 have e2:val ((zs.set i (v1:Int)).set (i+1) (v2:Int))=val (zs.set i (v1:Int))+BB^i*(BB*v2):=by
  have e:=dP (xs:=zs.set i (v1:Int)) (i:=i+1) (x:=(v2:Int)) (by rw[List.length_set];exact hl);rw[getD_set_ne (by omega),hz,Nat.pow_succ,Nat.mul_assoc,Nat.mul_assoc]at e;exact e
 exact Pa e1 e2
theorem ki.put {a n i:Nat}{zs:List Int}(h:ki a n i zs)(hn:n<32)(hi:i<nl a):
  ki a n (i+1) ((zs.set i ((Ms a n i+(a/BB^i%BB*2^n)%BB:Nat):Int)).set (i+1) (((a/BB^i%BB*2^n)/BB%BB:Nat):Int)):=by
 obtain⟨g1,g2,g3⟩:=h.get hn;obtain⟨_,g4⟩:=CG (w:=a/BB^i%BB) hn g2;have h2:2^n≤2^31:=Nat.pow_le_pow_right (by decide) (by omega);have h4:a/BB^i%BB*2^n/BB<BB:=by
  rw[Nat.div_lt_iff_lt_mul (by decide)];exact Nat.lt_of_le_of_lt (Nat.mul_le_mul_left _ (Nat.le_trans h2 (by decide:2^31≤BB))) (Nat.mul_lt_mul_of_pos_right (bc _) (by decide))
 rw[Nat.mod_eq_of_lt h4];obtain⟨k1,k2⟩:=QG h.inr (by rw[h.len];omega) g1 g3 g4 h4;refine⟨hi,by simp only[List.length_set];exact h.len,k1,?_⟩;have e4:(a%BB^(i+1))*2^n=(a%BB^i)*2^n+BB^i*(a/BB^i%BB*2^n):=by
  rw[eZ a i,Nat.add_mul,Nat.mul_assoc]
 rw[e4,←h.eq]
 generalize a/BB^i%BB*2^n=X at k2⊢
 have e5:=Nat.div_add_mod X BB;have e6:BB^i*X=BB^i*(BB*(X/BB))+BB^i*(X%BB):=by rw[←Nat.mul_add,e5]
 rw[Nat.mul_add]at k2;omega
theorem pO (n:Nat):(2:Int)^n=((2^n:Nat):Int):=by simp
theorem MK {w n:Nat}(hw:w<BB)(hn:n<32):w*2^n<9223372036854775808:=by
 have h2:2^n≤2^31:=Nat.pow_le_pow_right (by decide) (by omega);exact Nat.lt_of_le_of_lt (Nat.mul_le_mul_left _ h2) (Nat.mul_lt_mul_of_pos_right hw (by decide))
theorem ki.done {a n:Nat}{zs:List Int}(h:ki a n (nl a) zs):zs=ig (nl a+1) (a*2^n):=
 qz h.inr h.len (by rw[h.eq,gP (Nat.le_refl _)])
theorem lO (a n:Nat)(ha:nl a<2^44)(hn:n<32):Fr prog 236 [.one (.ints .u32 (aj a)),.one (.int .i64 n)] (.ints 147 .u32 (ig (nl a+1) (a*2^n))):=by
 have TM:n≤64:=by omega
 refine fw func236 ⟨[0,1,4,5,6,7,8,13,14,15,16],[]⟩ ?_;simp only[Tryz.f236,ntmps236,iz,seval];simp only[vx,T,seval]
 simp(disch:=omega) only[lG,←X2,←Int.natCast_mul,Int.toNat_natCast,IntWalk.i64_in,IntWalk.u64_in,aA,aI,true_and,and_true]
 refine⟨⟨by omega,by omega,by omega,by omega⟩,Lk (fun i:{i:Nat×List Int//ki a n i.1 i.2}=>⟨[(0,.one (.ints .u32 (aj a))),(1,.one (.int .i64 n)),(5,.one (.own 1 1 0 (nl a+1))),(13,.one (.ints .u32 (aj a))),(14,.one (.int .i64 (nl a))),(15,.one (.int .i64 i.1.1))],[(1,⟨.ints 147 .u32 i.1.2,true⟩)],2,41⟩) (fun i=>nl a-i.1.1) ⟨(0,_),ki.init a n⟩ ?_ (fun⟨⟨i,zs⟩,hi⟩=>?_)⟩
 ·refine Sa ?_;simp only[ry,seval,rz];rw[show ((nl a:Int)+1).toNat=nl a+1 by omega];exact⟨rfl,rfl⟩
 have h1:=hi.le;have h2:=hi.len;obtain⟨g1,g2,g3⟩:=hi.get hn;simp only at h1 h2 g1 g2 g3;simp only[vx,T,seval,TM];refine⟨fun h=>Lg ?_,fun h=>Lg ?_⟩
 ·simp only[vx,T,seval,TM];have hy:=bc (a/BB^i);have g4:=MK hy hn;have g5:=(CG (w:=a/BB^i%BB) hn g2).1
  simp(disch:=omega) only[lG,←X2,←Int.natCast_mul,Int.toNat_natCast,IntWalk.i64_in,IntWalk.u64_in,aA,aI,true_and,and_true,pO,g1,g5]
  refine⟨by omega,by omega,by omega,by omega,by omega,Lq ⟨(i+1,_),hi.put hn (by simp only;omega)⟩ ?_ ?_⟩
  ·refine Sa ?_;simp only[ry,seval,rz];rw[show ((i:Int)+1).toNat=i+1 by omega]
  simp only;omega
 simp only[vx,T,seval];have Tg:i=nl a:=by omega
 subst Tg;exact⟨(aM _ _).symm,rfl,hi.done⟩
theorem oe (a n:Nat)(ha:nl a<2^44)(hn:n<32):Fr prog 165 [.one (.ints .u32 (aj a)),.one (.int .i64 n)] (.ints 147 .u32 (ig (nl a+1) (a*2^n))):=by
 have TM:n≤64:=by omega
 refine fw func165 ⟨[0,1,4,5,6,7,15],[]⟩ ?_;simp only[Tryz.f165,ntmps165,iz,seval];simp only[vx,T,seval]
 simp(disch:=omega) only[lG,←X2,←Int.natCast_mul,Int.toNat_natCast,IntWalk.i64_in,IntWalk.u64_in,aA,aI,true_and,and_true]
 refine⟨⟨by omega,by omega,by omega,by omega⟩,Lk (fun i:{i:Nat×List Int//ki a n i.1 i.2}=>⟨[(0,.one (.ints .u32 (aj a))),(1,.one (.int .i64 n)),(5,.one (.own 1 1 0 (nl a+1))),(6,.one (.int .i64 i.1.1))],[(1,⟨.ints 147 .u32 i.1.2,true⟩)],2,43⟩) (fun i=>nl a-i.1.1) ⟨(0,_),ki.init a n⟩ ?_ (fun⟨⟨i,zs⟩,hi⟩=>?_)⟩
 ·refine Sa ?_;simp only[ry,seval,rz];rw[show ((nl a:Int)+1).toNat=nl a+1 by omega];exact⟨rfl,rfl⟩
 have h1:=hi.le;have h2:=hi.len;obtain⟨g1,g2,g3⟩:=hi.get hn;simp only at h1 h2 g1 g2 g3;simp only[vx,T,seval,TM];refine⟨fun h=>Lg ?_,fun h=>Lg ?_⟩
 ·simp only[vx,T,seval,TM];have hy:=bc (a/BB^i);have g4:=MK hy hn;have g5:=(CG (w:=a/BB^i%BB) hn g2).1
  simp(disch:=omega) only[lG,←X2,←Int.natCast_mul,Int.toNat_natCast,IntWalk.i64_in,IntWalk.u64_in,aA,aI,true_and,and_true,pO,g1,g5]
  refine⟨by omega,by omega,by omega,by omega,by omega,Lq ⟨(i+1,_),hi.put hn (by simp only;omega)⟩ ?_ ?_⟩
  ·refine Sa ?_;simp only[ry,seval,rz];rw[show ((i:Int)+1).toNat=i+1 by omega]
  simp only;omega
 simp only[vx,T,seval];have Tg:i=nl a:=by omega
 subst Tg;exact⟨(aM _ _).symm,rfl,hi.done⟩
end Go.Proofs.YtchkplkghknabaaGreat
namespace Go.Eng
theorem pc {n:Nat}(hn:n≤32):BB=2^n*2^(32-n):=by
 rw[←Nat.pow_add,show n+(32-n)=32 by omega];rfl
theorem nF {n:Nat}(hn:n≤32):BB=2^(32-n)*2^n:=by rw[pc hn,Nat.mul_comm]
theorem KL (w Y n:Nat)(hn:n≤32):(w+BB*Y)/2^n=w/2^n+2^(32-n)*Y:=by
 rw[pc hn,Nat.mul_assoc,Nat.add_mul_div_left _ _ (Nat.pow_pos (by decide))]
theorem DN (w n:Nat)(hn:n≤32)(hw:w<BB):w/2^n<2^(32-n):=by
 rw[Nat.div_lt_iff_lt_mul (Nat.pow_pos (by decide)),←nF hn];exact hw
theorem yp (w Y n:Nat)(hn:n≤32)(hw:w<BB):(w+BB*Y)/2^n%BB=w/2^n+2^(32-n)*(Y%2^n):=by
 rw[KL w Y n hn]
 generalize hr:w/2^n=r
 have h:=DN w n hn hw;rw[hr]at h;rw[nF hn,Nat.mod_mul,Nat.add_mul_mod_self_left,Nat.mod_eq_of_lt h,Nat.add_mul_div_left _ _ (Nat.pow_pos (by decide)),Nat.div_eq_of_lt h,Nat.zero_add]
theorem Jn (X n:Nat)(hn:n≤32):X/2^n%BB=X%BB/2^n+(X/BB%BB*2^(32-n))%BB:=by
 have hw:X%BB<BB:=Nat.mod_lt _ (by decide);have e:X/2^n%BB=(X%BB+BB*(X/BB))/2^n%BB:=by rw[Nat.mod_add_div]
 rw[e,yp _ _ n hn hw,Nat.mul_comm (X/BB%BB)]
 congr 1
 rw[nF hn,Nat.mul_mod_mul_left,←nF hn,pc hn,Nat.mod_mul_right_mod]
theorem FM (X n:Nat)(hn:n≤32):(X%BB+X/BB%BB*BB)/2^n%BB=X/2^n%BB:=by
 have hw:X%BB<BB:=Nat.mod_lt _ (by decide);rw[Nat.mul_comm (X/BB%BB),yp _ _ n hn hw];have e:X/2^n%BB=(X%BB+BB*(X/BB))/2^n%BB:=by rw[Nat.mod_add_div]
 rw[e,yp _ _ n hn hw]
 congr 2
 rw[pc hn,Nat.mod_mul_right_mod]
structure gA (a n l i:Nat) (zs:List Int):Prop where
 le:i≤l
 len:zs.length=l
 inr:bI zs
 eq:val zs=(a/2^n)%BB^i
theorem gA.init (a n l:Nat):gA a n l 0 (List.replicate l 0):=⟨Nat.zero_le _,by simp,bI.replicate _,by rw[cL];simp[Nat.mod_one]⟩
theorem kz (y i:Nat):y%BB^(i+1)=y%BB^i+BB^i*(y/BB^i%BB):=by
 rw[Nat.pow_succ,Nat.mod_mul]
theorem gA.get {a n l i:Nat}{zs:List Int}(h:gA a n l i zs):zs.getD i 0=0:=by
 rw[dy h.inr,h.eq,Nat.div_eq_of_lt (Nat.mod_lt _ (Nat.pow_pos (by decide)))];rfl
theorem gA.put {a n l i:Nat}{zs:List Int}(h:gA a n l i zs)(hi:i<l){d:Nat}(hd:a/BB^i/2^n%BB=d):gA a n l (i+1) (zs.set i (d:Int)):=by
 have hl:i<zs.length:=by rw[h.len];exact hi
 have UR:d<BB:=by rw[←hd];exact Nat.mod_lt _ (by decide)
 have e:=dP (xs:=zs) (i:=i) (x:=(d:Int)) hl;rw[h.get]at e;simp only[Int.toNat_zero,Nat.mul_zero,Nat.add_zero,Int.toNat_natCast]at e;refine⟨hi,by rw[List.length_set];exact h.len,h.inr.set _ ⟨by omega,by unfold BB at UR;omega⟩,?_⟩;rw[e,h.eq,kz]
 congr 2
 rw[←hd,Nat.div_div_eq_div_mul,Nat.div_div_eq_div_mul,Nat.mul_comm]
theorem gA.done {a n l:Nat}{zs:List Int}(h:gA a n l l zs)(hl:a<BB^l):zs=ig l (a/2^n):=
 qz h.inr h.len (by rw[h.eq,Nat.mod_eq_of_lt (Nat.lt_of_le_of_lt (Nat.div_le_self _ _) hl)])
theorem jd {l n:Nat}(h:n<BB^l):val (ig l n)=n:=by rw[jQ,Nat.mod_eq_of_lt h]
end Go.Eng
namespace Go.Proofs.YtchkplkghknabaaGreat
open Go.Proofs.Tryz
open Go Go.Eng
theorem Lr {w n o:Nat}(hn:n≤32)(ho:o<2^n):eW .or .u32 (o:Int) (((w*2^n)%BB:Nat):Int)=((o+(w*2^n)%BB:Nat):Int):=by
 have h1:2^n≤2^32:=Nat.pow_le_pow_right (by decide) hn;have hm:=bc (w*2^n);have e:=Nat.two_pow_add_eq_or_of_lt ho (w%2^(32-n));rw[←Dy (by omega)]at e
 have e3:o|||(w*2^n)%BB=o+(w*2^n)%BB:=by rw[Nat.or_comm,←e,Nat.add_comm]
 rw[u5 (by omega) (by omega),e3]
theorem ss (s m:Nat):(s:Int).fdiv (m:Int)=((s/m:Nat):Int):=by
 rw[Int.fdiv_eq_ediv_of_nonneg _ (by omega)];rfl
theorem qW {a b:Nat}(ha:a<2^64)(hb:b<2^64):eW .or .u64 (a:Int) (b:Int)=((a|||b:Nat):Int):=by
 have Tp:a|||b<2^64:=Nat.or_lt_two_pow ha hb
 show IntKind.u64.wrap ((BitVec.ofInt 64 (a:Int)|||BitVec.ofInt 64 (b:Int)).toNat:Int)=_
 simp only[BitVec.ofInt_natCast,BitVec.toNat_or,BitVec.toNat_ofNat];rw[Nat.mod_eq_of_lt ha,Nat.mod_eq_of_lt hb,aT];omega
theorem JZ {w u:Nat}(hw:w<BB)(hu:u<BB):eW .or .u64 (w:Int) ((u:Int)*4294967296)=((w+u*BB:Nat):Int):=by
 rw[show ((u:Int)*4294967296)=((u*4294967296:Nat):Int) by omega];unfold BB at*
 have e:=Nat.two_pow_add_eq_or_of_lt (i:=32) (b:=w) (by omega) u;rw[qW (by omega) (by omega)];have e2:u*4294967296=2^32*u:=Nat.mul_comm _ _;rw[e2,Nat.or_comm,←e,Nat.add_comm]
theorem z7 {zs:List Int}{i:Nat}{x:Int}(h:i<zs.length):(zs.set i x).getD i 0=x:=by
 rw[X7,List.getElem?_set_self h];rfl
theorem KN {w k:Nat}(hw:w<BB)(hk:k≤32):w*2^k<18446744073709551616:=by
 have h1:w*2^k≤4294967295*4294967296:=Nat.mul_le_mul (by unfold BB at hw;omega) (Nat.pow_le_pow_right (by decide) hk);omega
theorem xG (i:Nat):((i:Int)+1).toNat=i+1:=by omega
theorem mZ (a i:Nat):a/BB^(i+1)%BB=a/BB^i/BB%BB:=by
 rw[Nat.pow_succ,Nat.div_div_eq_div_mul]
theorem um {a i:Nat}(h:nl a≤i):a/BB^i=0:=Nat.div_eq_of_lt (cF.1 h)
theorem qV (n:Nat):(2:Int)^n=((2^n:Nat):Int):=by simp
theorem kE (a n:Nat)(ha:nl a<2^44)(hn:n<32):Fr prog 239 [.one (.ints .u32 (aj a)),.one (.int .i64 n)] (.ints 147 .u32 (ig (nl a) (a/2^n))):=by
 have TM:n≤32:=by omega
 have We:IntKind.i64.wrap (32-(n:Int))=32-(n:Int):=IntWalk.i64_in _ (by omega);have ZW:(32-(n:Int)).toNat=32-n:=by omega
 have ZX:32-n≤64:=by omega
 refine fw func239 ⟨[0,1,4,5,6,7,11,12,13,14,28],[]⟩ ?_;simp only[Tryz.f239,ntmps239,iz,seval];simp only[vx,T,seval];refine⟨⟨by omega,by omega,by omega,by omega⟩,Lk (fun i:{i:Nat×List Int//gA a n (nl a) i.1 i.2}=>⟨[(0,.one (.ints .u32 (aj a))),(1,.one (.int .i64 n)),(5,.one (.own 1 1 0 (nl a))),(11,.one (.ints .u32 (aj a))),(12,.one (.int .i64 (nl a))),(13,.one (.int .i64 i.1.1))],[(1,⟨.ints 147 .u32 i.1.2,true⟩)],2,47⟩) (fun i=>nl a-i.1.1) ⟨(0,_),gA.init a n (nl a)⟩ ?_ (fun⟨⟨i,zs⟩,hi⟩=>?_)⟩
 ·refine Sa ?_;simp only[ry,seval,rz]
 have h1:=hi.le;have h2:=hi.len;have g1:=hi.get;simp only at h1 h2 g1;simp only[vx,T,seval,TM,We,ZW,ZX];refine⟨fun h=>Lg ?_,fun h=>Lg ?_⟩
 ·simp only[vx,T,seval,TM,We,ZW,ZX];have hy:=bc (a/BB^i);have hd:=Jn (a/BB^i) n TM;have hl:=DN _ n TM hy;have hq:=Nat.div_le_self (a/BB^i%BB) (2^n)
  simp(disch:=omega) only[lG,←X2,←Int.natCast_mul,Int.toNat_natCast,IntWalk.i64_in,IntWalk.u64_in,aA,aI,true_and,and_true,pO,ss]
  refine⟨by omega,by omega,by omega,?_⟩;refine⟨fun h3=>Lg ?_,fun h3=>Lg ?_⟩
  ·simp only[vx,T,seval,TM,We,ZW,ZX];have h4:=z7 (zs:=zs) (i:=i) (x:=((a/BB^i%BB/2^n:Nat):Int)) (by omega);have h5:=bc (a/BB^(i+1));have h6:=KN (k:=32-n) h5 (Nat.sub_le 32 n);have h7:=Lr (w:=a/BB^(i+1)%BB) (n:=32-n) (by omega) hl;rw[←mZ]at hd
   simp(disch:=omega) only[lG,←X2,←Int.natCast_mul,Int.toNat_natCast,IntWalk.i64_in,IntWalk.u64_in,aA,aI,true_and,and_true,xG,h4,qV]
   rw[h7];refine⟨by omega,by omega,by omega,by omega,Lq ⟨(i+1,_),hi.put (by simp only;omega) hd⟩ ?_ ?_⟩
   ·refine Sa ?_;simp only[ry,seval,rz];rw[List.set_set]
   simp only;omega
  simp only[vx,T,seval,TM,We,ZW,ZX];rw[←mZ,um (a:=a) (i:=i+1) (by omega)]at hd;simp only[Nat.zero_mod,Nat.zero_mul,Nat.add_zero]at hd
  simp(disch:=omega) only[lG,←X2,←Int.natCast_mul,Int.toNat_natCast,IntWalk.i64_in,IntWalk.u64_in,aA,aI,true_and,and_true,xG]
  refine Lq ⟨(i+1,_),hi.put (by simp only;omega) hd⟩ ?_ ?_
  ·refine Sa ?_;simp only[ry,seval,rz]
  simp only;omega
 simp only[vx,T,seval];have Tg:i=nl a:=by omega
 subst Tg;exact⟨(aM _ _).symm,rfl,hi.done (cC a)⟩
theorem Cn (a n:Nat)(ha:nl a<2^44)(hn:n<32):Pr prog 168 [.one (.ints .u32 (aj a)),.one (.int .i64 n)] (.one (.ints .u32 (aj (a/2^n)))):=by
 have TM:n≤64:=by omega
 refine pw func168 ⟨[0,1,4,5,6,7,14,26],[]⟩ ?_;simp only[Tryz.f168,ntmps168,iz,seval];simp only[vx,T,seval];refine⟨⟨by omega,by omega,by omega,by omega⟩,Lk (fun i:{i:Nat×List Int//gA a n (nl a) i.1 i.2}=>⟨[(0,.one (.ints .u32 (aj a))),(1,.one (.int .i64 n)),(5,.one (.own 1 1 0 (nl a))),(6,.one (.int .i64 i.1.1))],[(1,⟨.ints 147 .u32 i.1.2,true⟩)],2,45⟩) (fun i=>nl a-i.1.1) ⟨(0,_),gA.init a n (nl a)⟩ ?_ (fun⟨⟨i,zs⟩,hi⟩=>?_)⟩
 ·refine Sa ?_;simp only[ry,seval,rz]
 have h1:=hi.le;have h2:=hi.len;have g1:=hi.get;simp only at h1 h2 g1;simp only[vx,T,seval,TM];refine⟨fun h=>Lg ?_,fun h=>Lg ?_⟩
 ·simp only[vx,T,seval,TM];have hy:=bc (a/BB^i);have hd:=FM (a/BB^i) n (by omega)
  simp(disch:=omega) only[lG,←X2,←Int.natCast_mul,Int.toNat_natCast,IntWalk.i64_in,IntWalk.u64_in,aA,aI,true_and,and_true,pO,ss]
  refine⟨by omega,?_⟩;refine⟨fun h3=>Lg ?_,fun h3=>Lg ?_⟩
  ·simp only[vx,T,seval,TM];have h5:=bc (a/BB^(i+1));have h7:=JZ hy h5;rw[←mZ]at hd
   simp(disch:=omega) only[lG,←X2,←Int.natCast_mul,Int.toNat_natCast,IntWalk.i64_in,IntWalk.u64_in,aA,aI,true_and,and_true,xG]
   simp only[h7,qV,ss,aA,hd];refine⟨by omega,by omega,by omega,Lq ⟨(i+1,_),hi.put (by simp only;omega) rfl⟩ ?_ ?_⟩
   ·refine Sa ?_;simp only[ry,seval,rz]
   simp only;omega
  simp only[vx,T,seval,TM];rw[←mZ,um (a:=a) (i:=i+1) (by omega)]at hd;simp only[Nat.zero_mod,Nat.zero_mul,Nat.add_zero]at hd
  simp(disch:=omega) only[lG,←X2,←Int.natCast_mul,Int.toNat_natCast,IntWalk.i64_in,IntWalk.u64_in,aA,aI,true_and,and_true,xG]
  simp only[qV,ss,aA,hd];refine⟨by omega,by omega,Lq ⟨(i+1,_),hi.put (by simp only;omega) rfl⟩ ?_ ?_⟩
  ·refine Sa ?_;simp only[ry,seval,rz]
  simp only;omega
 simp only[vx,T,seval];have Tg:i=nl a:=by omega
 subst Tg;have hr:=hi.inr;have hv:=hi.done (cC a);simp only at hr hv;have TI:val zs=a/2^n:=by rw[hv,jd (Nat.lt_of_le_of_lt (Nat.div_le_self _ _) (cC a))]
 rw[List.take_of_length_le (by omega)];refine Cg (bH _ hr (by omega)) ?_;rw[TI];simp only[vx,T,seval];refine Va ?_;simp only[cU,aY,ry,seval]
end Go.Proofs.YtchkplkghknabaaGreat
namespace Go.Eng
def bl (x:Nat):Nat:=if h:x=0 then 0 else 1+bl (x/2)
termination_by x
decreasing_by omega
theorem sG:bl 0=0:=by rw[bl];rfl
theorem Cj {x:Nat}(h:0<x):bl x=1+bl (x/2):=by rw[bl,dif_neg (by omega)]
theorem xD (x:Nat)(h:0<x):2^(bl x-1)≤x∧x<2^bl x∧0<bl x:=by
 induction x using Nat.strongRecOn with
 |_ x ih=>
  rw[Cj h]
  by_cases h2:x/2=0
  ·rw[h2,sG]
   have:x=1:=by omega
   subst this;decide
  obtain⟨h3,h4,h5⟩:=ih (x/2) (by omega) (by omega);have e:1+bl (x/2)-1=(bl (x/2)-1)+1:=by omega
  rw[e,Nat.pow_succ,Nat.add_comm 1,Nat.pow_succ];omega
theorem y6 {x k:Nat}(h:x<2^k):bl x≤k:=by
 rcases Nat.eq_zero_or_pos x with h0|h0
 ·subst h0;rw[sG];omega
 obtain⟨h3,_,h5⟩:=xD x h0
 rcases Nat.lt_or_ge k (bl x)with h1|h1
 ·have:2^k≤2^(bl x-1):=Nat.pow_le_pow_right (by decide) (by omega)
  omega
 exact h1
def fg (b:Nat):Nat:=b/BB^(nl b-1)
def jD (b:Nat):Nat:=32-bl (fg b)
theorem gS {b:Nat}(h:0<b):0<fg b∧fg b<BB:=by
 have h1:=eH.2 h;have hp:0<BB^(nl b-1):=Nat.pow_pos (by decide);refine⟨Nat.div_pos (tT h) hp,?_⟩;unfold fg;rw[Nat.div_lt_iff_lt_mul hp,Nat.mul_comm,←Nat.pow_succ,show (nl b-1).succ=nl b by omega];exact cC b
theorem ku {b:Nat}(h:0<b):b/BB^(nl b-1)%BB=fg b:=Nat.mod_eq_of_lt (gS h).2
theorem sJ {b:Nat}(h:0<b):jD b<32∧b*2^jD b<BB^nl b∧BB^nl b≤2*(b*2^jD b):=by
 obtain⟨t1,t2⟩:=gS h;obtain⟨b1,b2,b3⟩:=xD _ t1;have b4:bl (fg b)≤32:=y6 (by unfold BB at t2;omega);have h1:=eH.2 h;have hp:0<BB^(nl b-1):=Nat.pow_pos (by decide);have e1:=Nat.div_add_mod b (BB^(nl b-1));have e2:=Nat.mod_lt b hp;have eB:BB^nl b=BB^(nl b-1)*(2^bl (fg b)*2^jD b):=by
  have e3:2^bl (fg b)*2^jD b=BB:=by rw[←Nat.pow_add];unfold jD;rw[show bl (fg b)+(32-bl (fg b))=32 by omega];rfl
  rw[e3,←Nat.pow_succ,show (nl b-1).succ=nl b by omega]
 refine⟨by unfold jD;omega,?_,?_⟩
 ·rw[eB,←Nat.mul_assoc];refine Nat.mul_lt_mul_of_pos_right ?_ (Nat.pow_pos (by decide))
  have:BB^(nl b-1)*(fg b+1)≤BB^(nl b-1)*2^bl (fg b):=Nat.mul_le_mul_left _ b2
  rw[Nat.mul_add]at this;unfold fg at*
  omega
 rw[eB,←Nat.mul_assoc,←Nat.mul_assoc];refine Nat.mul_le_mul_right _ ?_;have e5:2^bl (fg b)=2*2^(bl (fg b)-1):=by
  rw[Nat.mul_comm,←Nat.pow_succ];congr 1;omega
 rw[e5]
 have:BB^(nl b-1)*2^(bl (fg b)-1)≤BB^(nl b-1)*fg b:=Nat.mul_le_mul_left _ b1
 rw[Nat.mul_left_comm];have e6:BB^(nl b-1)*fg b≤b:=Nat.mul_div_le _ _;omega
theorem HA {b:Nat}(h:0<b):nl (b*2^jD b)=nl b:=by
 obtain⟨_,h2,h3⟩:=sJ h;have h1:=eH.2 h;have h4:=aD h2
 rcases Nat.lt_or_ge (nl (b*2^jD b)) (nl b)with h5|h5
 ·have h6:b*2^jD b<BB^(nl b-1):=cF.1 (by omega);have e:BB^nl b=BB^(nl b-1)*BB:=by rw[←Nat.pow_succ];congr 1;omega
  have h7:BB^(nl b-1)*2≤BB^(nl b-1)*BB:=Nat.mul_le_mul_left _ (by decide);omega
 omega
structure F1 (V n:Nat):Prop where
 nle:nl V=n
 two:2≤n
 big:BB^n≤2*V
theorem F1.pos {V n:Nat}(h:F1 V n):0<V:=eH.1 (by rw[h.nle];have:=h.two;omega)
theorem F1.lt {V n:Nat}(h:F1 V n):V<BB^n:=by have:=cC V;rw[h.nle]at this;exact this
theorem Bh {n:Nat}(h:2≤n):BB^(n-1)=BB^(n-2)*BB:=by rw[←Nat.pow_succ];congr 1;omega
theorem sS {n:Nat}(h:1≤n):BB^n=BB^(n-1)*BB:=by rw[←Nat.pow_succ];congr 1;omega
theorem F1.high {V n:Nat}(h:F1 V n):BB≤2*(V/BB^(n-1))∧V/BB^(n-1)<BB∧V/BB^(n-2)=V/BB^(n-1)*BB+V/BB^(n-2)%BB:=by
 have hp:0<BB^(n-1):=Nat.pow_pos (by decide);have h2:=h.two;refine⟨?_,?_,?_⟩
 ·have h3:=h.big;rw[sS (by omega)]at h3;have h4:BB/2≤V/BB^(n-1):=by
   rw[Nat.le_div_iff_mul_le hp]
   have:(BB/2)*BB^(n-1)*2=BB^(n-1)*BB:=by
    rw[Nat.mul_comm,←Nat.mul_assoc,show 2*(BB/2)=BB from rfl,Nat.mul_comm]
   omega
  have:BB=2*(BB/2):=rfl
  omega
 ·rw[Nat.div_lt_iff_lt_mul hp,Nat.mul_comm,←sS (by omega)];exact h.lt
 rw[Bh h2,←Nat.div_div_eq_div_mul,Nat.mul_comm,Nat.div_add_mod]
structure At (V n i R:Nat):Prop where
 dz:F1 V n
 lt:R<V*BB^(i+1)
def q3 (n i R:Nat):Nat:=R/BB^(i+n-2)
theorem At.words {V n i R:Nat}(h:At V n i R):R/BB^(i+n-2)%BB=q3 n i R%BB∧R/BB^(i+n-1)%BB=q3 n i R/BB%BB∧R/BB^(i+n)%BB=q3 n i R/BB/BB∧q3 n i R/BB<BB*BB:=by
 have h2:=h.dz.two;have e1:R/BB^(i+n-1)=q3 n i R/BB:=by
  unfold q3;rw[Nat.div_div_eq_div_mul,←Nat.pow_succ];congr 2;omega
 have e2:R/BB^(i+n)=q3 n i R/BB/BB:=by
  rw[←e1,Nat.div_div_eq_div_mul,←Nat.pow_succ];congr 2;omega
 have hR:R<BB^(i+n+1):=by
  refine Nat.lt_of_lt_of_le h.lt ?_
  have:=Nat.mul_le_mul_right (BB^(i+1)) (Nat.le_of_lt h.dz.lt)
  rw[←Nat.pow_add,show n+(i+1)=i+n+1 by omega]at this;exact this
 have h3:R/BB^(i+n)<BB:=by
  rw[Nat.div_lt_iff_lt_mul (Nat.pow_pos (by decide)),Nat.mul_comm,←Nat.pow_succ];exact hR
 refine⟨rfl,by rw[e1],by rw[Nat.mod_eq_of_lt h3,e2],?_⟩;rw[e2]at h3;exact(Nat.div_lt_iff_lt_mul (by decide)).1 h3
theorem At.U {V n i R:Nat}(h:At V n i R):R/BB^i<V*BB∧R/BB^i=q3 n i R*BB^(n-2)+R/BB^i%BB^(n-2):=by
 have h2:=h.dz.two;refine⟨?_,?_⟩
 ·rw[Nat.div_lt_iff_lt_mul (Nat.pow_pos (by decide)),Nat.mul_assoc,Nat.mul_comm BB,←Nat.pow_succ];exact h.lt
 have e:q3 n i R=R/BB^i/BB^(n-2):=by
  unfold q3;rw[Nat.div_div_eq_div_mul,←Nat.pow_add];congr 2;omega
 rw[e,Nat.mul_comm,Nat.div_add_mod]
structure Dg (V n i R D rest:Nat):Prop where
 top:q3 n i R/BB=D*(V/BB^(n-1))+rest
 ge:R/BB^i/V≤D
 rest:rest<BB
 lt:D<2*BB
theorem Dg.init {V n i R:Nat}(h:At V n i R):Dg V n i R (q3 n i R/BB/(V/BB^(n-1))) (q3 n i R/BB% (V/BB^(n-1))):=by
 obtain⟨h1,h2,h3⟩:=h.dz.high;obtain⟨_,hU⟩:=h.U;obtain⟨_,_,_,h4⟩:=h.words;have hp:0<V/BB^(n-1):=by unfold BB at*;omega
 have hP:0<BB^(n-2):=Nat.pow_pos (by decide);refine⟨by rw[Nat.mul_comm,Nat.div_add_mod],?_,Nat.lt_trans (Nat.mod_lt _ hp) h2,?_⟩
 ·refine Kf (P:=BB^(n-2)) (next:=V/BB^(n-2)%BB) (Vr:=V%BB^(n-2)) (u2:=q3 n i R%BB) (Ur:=R/BB^i%BB^(n-2)) ?_ ?_ (Nat.mod_lt _ hP) (Nat.mod_lt _ (by decide)) hp
  ·rw[Nat.mul_comm (q3 n i R/BB),Nat.div_add_mod];exact hU
  rw[←h3,Nat.mul_comm,Nat.div_add_mod]
 rw[Nat.div_lt_iff_lt_mul hp]
 have:BB*BB≤2*BB*(V/BB^(n-1)):=by
  rw[Nat.mul_comm 2,Nat.mul_assoc];exact Nat.mul_le_mul_left _ h1
 omega
theorem Dg.next {V n i R D rest:Nat}(hA:At V n i R)(h:Dg V n i R D rest)(hc:BB≤D∨rest*BB+q3 n i R%BB<D*(V/BB^(n-2)%BB)):
  0<D∧q3 n i R/BB=(D-1)*(V/BB^(n-1))+(rest+V/BB^(n-1))∧R/BB^i/V≤D-1:=by
 obtain⟨h1,h2,h3⟩:=hA.dz.high;obtain⟨hU1,hU⟩:=hA.U;have hV:0<V:=hA.dz.pos;have hP:0<BB^(n-2):=Nat.pow_pos (by decide);have hD:R/BB^i/V<D:=by
  rcases hc with hc|hc
  ·refine Nat.lt_of_lt_of_le ?_ hc;rw[Nat.div_lt_iff_lt_mul hV,Nat.mul_comm];exact hU1
  refine LX (P:=BB^(n-2)) (V2:=V/BB^(n-2)) (Vr:=V%BB^(n-2)) (Ur:=R/BB^i%BB^(n-2)) hU (by rw[Nat.mul_comm,Nat.div_add_mod]) (Nat.mod_lt _ hP) ?_;have e:=Nat.div_add_mod (q3 n i R) BB;rw[h.top]at e;rw[h3,Nat.mul_add,←Nat.mul_assoc];rw[Nat.mul_add,Nat.mul_comm BB,Nat.mul_comm BB rest]at e;omega
 refine⟨Nat.lt_of_le_of_lt (Nat.zero_le _) hD,?_,Nat.le_sub_one_of_lt hD⟩;have hD0:0<D:=Nat.lt_of_le_of_lt (Nat.zero_le _) hD;have e:D*(V/BB^(n-1))=(D-1)*(V/BB^(n-1))+V/BB^(n-1):=by
  rw[←Nat.succ_mul];congr 1;omega
 rw[h.top,e];omega
theorem Dg.fin {V n i R D rest:Nat}(hA:At V n i R)(WH:q3 n i R/BB=D*(V/BB^(n-1))+rest)(Wd:R/BB^i/V≤D)(hc:(D<BB∧D*(V/BB^(n-2)%BB)≤rest*BB+q3 n i R%BB)∨BB≤rest):
  D<BB∧R/BB^i/V≤D∧D≤R/BB^i/V+1:=by
 obtain⟨h1,h2,h3⟩:=hA.dz.high;obtain⟨hU1,hU⟩:=hA.U;obtain⟨_,_,w3,h4⟩:=hA.words;have hV:0<V:=hA.dz.pos;have hP:0<BB^(n-2):=Nat.pow_pos (by decide);have e:=Nat.div_add_mod (q3 n i R) BB;have VX:V/BB^(n-2)%BB<BB:=Nat.mod_lt _ (by decide)
 -- the highest word is not above the divisor's
 have hD:D<BB:=by
  rcases hc with hc|hc
  ·exact hc.1
  rcases Nat.lt_or_ge D BB with hD|hD
  ·exact hD
  exfalso
  have h5:BB*(V/BB^(n-1))≤D*(V/BB^(n-1)):=Nat.mul_le_mul_right _ hD;have h6:q3 n i R/BB<(V/BB^(n-1)+1)*BB:=by
   have h7:R/BB^i/BB^(n-1)=q3 n i R/BB:=by
    unfold q3;have Yh:=hA.dz.two;rw[Nat.div_div_eq_div_mul,Nat.div_div_eq_div_mul,←Nat.pow_add,←Nat.pow_succ];congr 2;omega
   rw[←h7,Nat.div_lt_iff_lt_mul (Nat.pow_pos (by decide))];refine Nat.lt_of_lt_of_le hU1 ?_;rw[Nat.mul_right_comm];refine Nat.mul_le_mul_right _ ?_;have e8:=Nat.div_add_mod V (BB^(n-1));have l8:=Nat.mod_lt V (Nat.pow_pos (n:=n-1) (show 0<BB by decide));rw[Nat.add_mul,Nat.mul_comm (V/_)];omega
  rw[Nat.add_mul,Nat.mul_comm (V/_)]at h6;omega
 have hq:D*(V/BB^(n-2))≤q3 n i R:=by
  rw[WH]at e;rw[h3,Nat.mul_add,←Nat.mul_assoc];rw[Nat.mul_add,Nat.mul_comm BB,Nat.mul_comm BB rest]at e
  rcases hc with hc|hc
  ·omega
  have h5:D*(V/BB^(n-2)%BB)≤BB*BB:=Nat.mul_le_mul (Nat.le_of_lt hD) (Nat.le_of_lt VX);have h6:BB*BB≤rest*BB:=Nat.mul_le_mul_right _ hc;omega
 refine⟨hD,Wd,Od (P:=BB^(n-2)) (V2:=V/BB^(n-2)) (Vr:=V%BB^(n-2)) (Ur:=R/BB^i%BB^(n-2)) hU (by rw[Nat.mul_comm,Nat.div_add_mod]) (Nat.mod_lt _ hP) hq ?_ hV⟩;rw[h3]
 have:BB≤V/BB^(n-1)*BB:=Nat.le_mul_of_pos_left _ (by unfold BB at*;omega)
 omega
theorem At.step {V n i R:Nat}(h:At V n i R):R-BB^i*(R/BB^i/V*V)<V*BB^i∧BB^i*(R/BB^i/V*V)≤R:=by
 have hp:0<BB^i:=Nat.pow_pos (by decide);have e1:=Nat.div_add_mod R (BB^i);have l1:=Nat.mod_lt R hp;have e2:=Nat.div_add_mod (R/BB^i) V;have l2:=Nat.mod_lt (R/BB^i) h.dz.pos;have e3:BB^i*(R/BB^i)=BB^i*(R/BB^i/V*V)+BB^i*(R/BB^i%V):=by
  rw[←Nat.mul_add,Nat.mul_comm (R/BB^i/V),e2]
 have h3:BB^i*(R/BB^i%V+1)≤BB^i*V:=Nat.mul_le_mul_left _ l2;rw[Nat.mul_add]at h3;rw[Nat.mul_comm V]
 generalize R/BB^i=U at*
 generalize R%BB^i=r at*
 generalize U%V=m at*
 generalize U/V*V=x at*
 omega
theorem At.Be {V n i R D Z:Nat}(h:At V n i R)(Wd:R/BB^i/V≤D)(hz:Z+BB^i*(D*V)=R):D=R/BB^i/V∧Z=R-BB^i*(R/BB^i/V*V):=by
 have hD:D≤R/BB^i/V:=by
  rw[Nat.le_div_iff_mul_le h.dz.pos,Nat.le_div_iff_mul_le (Nat.pow_pos (by decide)),Nat.mul_comm];omega
 have:D=R/BB^i/V:=by omega
 subst this;exact⟨rfl,by omega⟩
theorem At.yx {V n i R D Z Z2 k:Nat}(h:At V n i R)(hle:D≤R/BB^i/V+1)(Wd:R/BB^i/V≤D)(hZ:Z<BB^(i+n+1))(hZ2:Z2<BB^(i+n+1))(hz:Z+BB^i*(D*V)=R+BB^(i+n+1))(ZY:Z2+BB^(i+n+1)*k=Z+BB^i*V):
  D=R/BB^i/V+1∧Z2=R-BB^i*(R/BB^i/V*V):=by
 obtain⟨s1,s2⟩:=h.step;have hD:D=R/BB^i/V+1:=by
  rcases Nat.lt_or_ge (R/BB^i/V) D with h1|h1
  ·omega
  have:D=R/BB^i/V:=by omega
  subst this;omega
 refine⟨hD,?_⟩;subst hD;rw[Nat.add_mul,Nat.one_mul,Nat.mul_add]at hz;have hV:V*BB^i<BB^(i+n+1):=by
  have h2:V*BB^i<BB^n*BB^i:=Nat.mul_lt_mul_of_pos_right h.dz.lt (Nat.pow_pos (by decide));have h3:BB^(i+n+1)=BB^n*BB^i*BB:=by rw[Nat.pow_succ,Nat.pow_add,Nat.mul_comm (BB^i)]
  have h4:BB^n*BB^i*1≤BB^n*BB^i*BB:=Nat.mul_le_mul_left _ (by decide);omega
 rcases Nat.lt_or_ge k 1 with hk|hk
 ·have:k=0:=by omega
  subst this;rw[Nat.mul_zero]at ZY;omega
 rcases Nat.lt_or_ge k 2 with S8|S8
 ·have:k=1:=by omega
  subst this;rw[Nat.mul_one]at ZY;omega
 have:BB^(i+n+1)*2≤BB^(i+n+1)*k:=Nat.mul_le_mul_left _ S8
 omega
end Go.Eng
namespace Go.Proofs.YtchkplkghknabaaGreat
open Go.Proofs.Tryz
open Go Go.Eng
theorem z9 (n:Nat):ig (nl n) n=aj n:=by
 have h:=xS (bI.aj n);rw[gH]at h;exact h
theorem jG (xs:List Int)(hx:xs.length<2^44):Pr prog 147 [.one (.ints .u32 xs)] (.one (.ints .u32 xs)):=by
 refine pw func147 ⟨[0,2,4],[]⟩ ?_;simp only[Tryz.f147,ntmps147,iz,seval];simp only[vx,T,seval];intro b hb;refine Lg ?_;simp only[vx,T,seval];refine⟨fun h=>Lg ?_,fun h=>Lg ?_⟩
 ·simp only[vx,T,seval];have h0:xs=[]:=by
   cases xs with
   |nil=>rfl
   |cons x xs=>simp at hb;rw[hb]at h;cases h
  refine Va ?_;simp only[cU,aY,ry,seval,h0]
 simp only[vx,T,seval];exact⟨⟨by omega,by omega⟩,fB.refl _⟩
theorem oY {s x:Nat}(hs:s<BB)(hx:x<BB):eW .or .u64 ((s:Int)*4294967296) (x:Int)=((s*BB+x:Nat):Int):=by
 rw[show ((s:Int)*4294967296)=((s*4294967296:Nat):Int) by omega];unfold BB at*
 have e:=Nat.two_pow_add_eq_or_of_lt (i:=32) (b:=x) (by omega) s;rw[qW (by omega) (by omega)];have e2:s*4294967296=2^32*s:=Nat.mul_comm _ _;rw[e2,←e]
theorem vu (n k:Nat):n/BB^(k+1)*BB+n/BB^k%BB=n/BB^k:=by
 rw[Nat.pow_succ,←Nat.div_div_eq_div_mul,Nat.mul_comm,Nat.div_add_mod]
theorem rO (n:Nat)(hn:n<2^64):Pr prog 162 [.one (.ints .u32 (aj n))] (.one (.int .u64 n)):=by
 have h2:nl n≤2:=aD (by unfold BB;omega);refine pw func162 ⟨[0,2,3,4,9],[]⟩ ?_;simp only[Tryz.f162,ntmps162,iz,seval];simp only[vx,T,seval]
 simp(disch:=omega) only[lG,←X2,←Int.natCast_mul,Int.toNat_natCast,IntWalk.i64_in,IntWalk.u64_in,aA,aI,true_and,and_true]
 refine Lk (fun i:{i:Nat//i≤nl n}=>⟨[(0,.one (.ints .u32 (aj n))),(3,.one (.int .u64 (n/BB^i.1:Nat))),(4,.one (.int .i64 ((i.1:Int)-1)))],[],2,21⟩) (fun i=>i.1) ⟨nl n,Nat.le_refl _⟩ ?_ (fun⟨i,hi⟩=>?_)
 ·refine Sa ?_;simp only[ry,seval,rz];rw[um (Nat.le_refl _)];rfl
 simp only[vx,T,seval];refine⟨fun h=>Lg ?_,fun h=>Lg ?_⟩
 ·simp only[vx,T,seval];obtain⟨k,rfl⟩:∃k,i=k+1:=⟨i-1,by omega⟩;have e1:((k+1:Nat):Int)-1=k:=by omega
  have h3:=bc (n/BB^k);have h4:n/BB^(k+1)<4294967296:=by
   rw[Nat.div_lt_iff_lt_mul (Nat.pow_pos (by decide)),Nat.pow_succ]
   have:BB^1≤BB^k*BB:=by rw[←Nat.pow_succ];exact Nat.pow_le_pow_right (by decide) (by omega)
   have h5:4294967296*BB^1≤4294967296*(BB^k*BB):=Nat.mul_le_mul_left _ this;unfold BB at h5⊢;omega
  have h5:=oY h4 h3;rw[vu]at h5;have e6:IntKind.u64.wrap (((n/BB^(k+1):Nat):Int)*4294967296)=((n/BB^(k+1):Nat):Int)*4294967296:=by
   generalize n/BB^(k+1)=q at h4⊢
   exact IntWalk.u64_in _ (by omega)
  simp(disch:=omega) only[lG,←X2,←Int.natCast_mul,Int.toNat_natCast,IntWalk.i64_in,IntWalk.u64_in,aA,aI,true_and,and_true,e1,e6,h5]
  refine⟨by omega,Lq ⟨k,by omega⟩ ?_ ?_⟩
  ·refine Sa ?_;simp only[ry,seval,rz]
  simp only;omega
 simp only[vx,T,seval];have Wh:i=0:=by omega
 subst Wh;refine Va ?_;simp only[cU,aY,ry,seval,Nat.pow_zero,Nat.div_one]
theorem pr (b:Nat)(h0:0<b)(hb:nl b<2^44):Pr prog 164 [.one (.ints .u32 (aj b))] (.one (.int .i64 (32*(nl b-1)+bl (fg b):Nat))):=by
 have hn:=eH.2 h0;have ht:=ku h0;obtain⟨t1,t2⟩:=gS h0;have UJ:bl (fg b)≤32:=y6 (by unfold BB at t2;omega);refine pw func164 ⟨[0,2,3,4,7,15],[]⟩ ?_;simp only[Tryz.f164,ntmps164,iz,seval];simp only[vx,T,seval];refine⟨fun h1=>absurd h1 (by omega),fun h1=>Lg ?_⟩;simp only[vx,T,seval];have e1:IntKind.i64.wrap ((nl b:Int)-1)=((nl b-1:Nat):Int):=by rw[IntWalk.i64_in _ (by omega)];omega
 simp(disch:=omega) only[lG,←X2,←Int.natCast_mul,Int.toNat_natCast,IntWalk.i64_in,IntWalk.u64_in,aA,aI,true_and,and_true,e1,ht]
 refine⟨by omega,Lk (fun x:{x:Nat×Nat//x.1+bl x.2=bl (fg b)∧x.2<BB}=>⟨[(0,.one (.ints .u32 (aj b))),(3,.one (.int .i64 x.1.1)),(4,.one (.int .u32 x.1.2))],[],2,26⟩) (fun x=>x.1.2) ⟨(0,fg b),by simp,t2⟩ ?_ (fun⟨⟨c,x⟩,WI,WJ⟩=>?_)⟩
 ·refine Sa ?_;simp only[ry,seval,rz]
 simp only at WI WJ;have hx3:x<4294967296:=WJ;simp only[vx,T,seval];refine⟨fun h=>Lg ?_,fun h=>Lg ?_⟩
 ·simp only[vx,T,seval];have h4:=Cj (x:=x) (by omega);have e2:IntKind.u32.wrap ((x:Int).tdiv 2)=((x/2:Nat):Int):=by
   have e3:(x:Int).tdiv 2=((x/2:Nat):Int):=rfl;rw[e3,IntWalk.u32_in _ (by omega)]
  simp(disch:=omega) only[lG,←X2,←Int.natCast_mul,Int.toNat_natCast,IntWalk.i64_in,IntWalk.u64_in,aA,aI,true_and,and_true,e2]
  refine Lq ⟨(c+1,x/2),by simp only;omega,by simp only;omega⟩ ?_ ?_
  ·refine Sa ?_;simp only[ry,seval,rz]
  simp only;omega
 simp only[vx,T,seval];have U4:x=0:=by omega
 subst U4;rw[sG]at WI
 simp(disch:=omega) only[lG,←X2,←Int.natCast_mul,Int.toNat_natCast,IntWalk.i64_in,IntWalk.u64_in,aA,aI,true_and,and_true,e1]
 refine Ve ?_
 congr 2
 omega
end Go.Proofs.YtchkplkghknabaaGreat
namespace Go.Eng
structure je (A V m j:Nat) (us qs:List Int):Prop where
 dz:F1 V (nl V)
 le:nl V+j≤m
 ulen:us.length=m
 uin:bI us
 qlen:m≤qs.length+nl V
 qin:bI qs
 eq:val qs*V+val us=A
 lt:val us<V*BB^j
 dvd:∃Q,val qs=BB^j*Q
theorem je.at {A V m i:Nat}{us qs:List Int}(h:je A V m (i+1) us qs):At V (nl V) i (val us):=⟨h.dz,h.lt⟩
theorem je.init {A V m l:Nat}(hn:F1 V (nl V))(hm:nl V≤m)(hA:2*A<BB^m)(hl:m≤l+nl V):je A V m (m-nl V) (ig m A) (List.replicate l 0):=by
 have e:BB^m=BB^nl V*BB^(m-nl V):=by rw[←Nat.pow_add];congr 1;omega
 have h1:BB^nl V*BB^(m-nl V)≤2*V*BB^(m-nl V):=Nat.mul_le_mul_right _ hn.big;have hv:val (ig m A)=A:=jd (by omega);refine⟨hn,by omega,aM _ _,fY _ _,by simpa using hl,bI.replicate _,by rw[cL,hv];omega,?_,0,by rw[cL];simp⟩;rw[hv];rw[Nat.mul_assoc]at h1;omega
theorem je.q {A V m i:Nat}{us qs:List Int}(h:je A V m (i+1) us qs):val us/BB^i/V<BB:=by
 rw[Nat.div_lt_iff_lt_mul h.dz.pos,Nat.mul_comm];exact h.at.U.1
theorem je.step {A V m i:Nat}{us qs us':List Int}(h:je A V m (i+1) us qs)(hl:us'.length=us.length)(hi:bI us')(hv:val us'=val us-BB^i*(val us/BB^i/V*V)):
  je A V m i us' (qs.set i ((val us/BB^i/V:Nat):Int)):=by
 obtain⟨s1,s2⟩:=h.at.step;have hq:=h.q;obtain⟨Q,hQ⟩:=h.dvd;have hle:=h.le;have hiq:i<qs.length:=by have:=h.qlen;omega
 have h0:qs.getD i 0=0:=by
  rw[dy h.qin,hQ,Nat.pow_succ,Nat.mul_assoc,Nat.mul_div_cancel_left _ (Nat.pow_pos (by decide)),Nat.mul_mod_right];rfl
 have e:=dP (xs:=qs) (i:=i) (x:=((val us/BB^i/V:Nat):Int)) hiq;rw[h0]at e;simp only[Int.toNat_zero,Nat.mul_zero,Nat.add_zero,Int.toNat_natCast]at e;have heq:=h.eq
 generalize val us/BB^i/V=q at*
 refine⟨h.dz,by omega,by rw[hl];exact h.ulen,hi,by rw[List.length_set];exact h.qlen,h.qin.set _ ⟨by omega,by unfold BB at hq;omega⟩,?_,by rw[hv];exact s1,BB*Q+q,?_⟩
 ·rw[e,Nat.add_mul,hv,Nat.mul_assoc];omega
 rw[e,hQ,Nat.pow_succ,Nat.mul_add,Nat.mul_assoc]
theorem je.done {a b k m:Nat}{us qs:List Int}(hb:0<b)(h:je (a*2^k) (b*2^k) m 0 us qs):val qs=a/b∧val us=(a%b)*2^k∧val us<BB^nl (b*2^k):=by
 have h1:=h.eq;have h2:=h.lt;rw[Nat.pow_zero,Nat.mul_one]at h2;have hk:0<2^k:=Nat.pow_pos (by decide);have e1:val qs=a*2^k/(b*2^k):=by
  rw[←h1,Nat.mul_comm,Nat.mul_add_div h.dz.pos,Nat.div_eq_of_lt h2,Nat.add_zero]
 have e2:val us=a*2^k% (b*2^k):=by
  rw[←h1,Nat.mul_comm,Nat.mul_add_mod,Nat.mod_eq_of_lt h2]
 rw[Nat.mul_div_mul_right _ _ hk]at e1;rw[Nat.mul_mod_mul_right]at e2;exact⟨e1,e2,Nat.lt_trans h2 h.dz.lt⟩
structure pD (xs:List Int) (off U D m k:Nat) (zs:List Int):Prop where
 le:k≤m
 len:zs.length=xs.length
 inr:bI zs
 up:zs.drop (off+k)=xs.drop (off+k)
 eq:val zs+BB^off*(U%BB^k)=val xs+BB^off*(D%BB^k)
theorem pD.init {xs:List Int}(off U D m:Nat)(h:bI xs):pD xs off U D m 0 xs:=⟨Nat.zero_le _,rfl,h,rfl,by simp[Nat.mod_one]⟩
theorem pD.put {xs:List Int}{off U D m k:Nat}{zs:List Int}(h:pD xs off U D m k zs)(hk:k<m)(hl:off+m≤xs.length)(hU:xs.getD (off+k) 0=((U/BB^k%BB:Nat):Int)){d:Nat}(hd:D/BB^k%BB=d):
  pD xs off U D m (k+1) (zs.set (off+k) (d:Int)):=by
 have hlz:off+k<zs.length:=by rw[h.len];omega
 have UR:d<BB:=by rw[←hd];exact Nat.mod_lt _ (by decide)
 have hold:zs.getD (off+k) 0=((U/BB^k%BB:Nat):Int):=by
  rw[←hU];have e:(zs.drop (off+k)).getD 0 0=(xs.drop (off+k)).getD 0 0:=by rw[h.up]
  simpa[X7,List.getElem?_drop]using e
 refine⟨hk,by rw[List.length_set];exact h.len,h.inr.set _ ⟨by omega,by unfold BB at UR;omega⟩,?_,?_⟩
 ·rw[←Nat.add_assoc,List.drop_set_of_lt (by omega),←List.drop_drop,h.up,List.drop_drop]
 have e:=dP (xs:=zs) (x:=(d:Int)) hlz;rw[hold]at e;simp only[Int.toNat_natCast]at e;have h1:=h.eq;rw[kz,kz,Nat.mul_add,Nat.mul_add,←Nat.mul_assoc,←Nat.mul_assoc,←Nat.pow_add,hd];omega
theorem pD.done {xs:List Int}{off U D m:Nat}{zs:List Int}(h:pD xs off U D m m zs)(hU:U<BB^m)(hD:D<BB^m):val zs+BB^off*U=val xs+BB^off*D:=by
 have:=h.eq
 rw[Nat.mod_eq_of_lt hU,Nat.mod_eq_of_lt hD]at this;exact this
theorem kI {zs:List Int}(hi:bI zs){k:Nat}(h:val (zs.drop k)=0):val zs<BB^k:=by
 rw[ij hi]at h
 rcases Nat.lt_or_ge (val zs) (BB^k)with h1|h1
 ·exact h1
 have:=(Nat.div_pos_iff (a:=val zs) (b:=BB^k)).2 ⟨Nat.pow_pos (by decide),h1⟩
 omega
end Go.Eng
namespace Go.Proofs.YtchkplkghknabaaGreat
open Go.Proofs.Tryz
open Go Go.Proofs Go.RowKit Go.Shelf Go.Eng
attribute [local go_sem] Oper.semAt_some
def wO (zs:List Int)(m k:Nat):List (Nat×Int):=(List.range k).map fun j=>(m-1-j,zs[m-1-j]?.getD 0)
theorem FZ (zs:List Int)(m k:Nat):wO zs m (k+1)=wO zs m k++[(m-1-k,zs[m-1-k]?.getD 0)]:=by simp[wO,List.range_succ]
theorem CB (zs:List Int)(m k:Nat):(wO zs m k).length=k:=by simp[wO]
def Ns (n₀ Bs:Nat)(sv:Value)(W W':World):Prop:=Below n₀ W W'∧(W.cell? ⟨Bs,0,none⟩=some sv→W'.cell? ⟨Bs,0,none⟩=some sv)
theorem Mf {n₀ Bs:Nat}{sv:Value}{A B C:World}(h:Ns n₀ Bs sv A B)(k:Ns n₀ Bs sv B C):Ns n₀ Bs sv A C:=⟨h.1.trans k.1,fun e=>k.2 (h.2 e)⟩
theorem Ph {n₀ Bs:Nat}{sv:Value}{w:World}(hn:n₀≤w.heap.size)(hb:Bs<w.heap.size)(W:World)(l:Nat)(o o':Obj)(hl:w.heap.size≤l)(h:W.heap[l]? =some o)(hc:o.isCells=false)(hw:o.isWalk=false):Ns n₀ Bs sv W (W.putObj l o'):=
 ⟨belowK_b hn W l o o' hl h hc hw,fun e=>((belowK_b (n₀:=w.heap.size) (Nat.le_refl _) W l o o' hl h hc hw).cell (p:=⟨Bs,0,none⟩) hb).trans e⟩
set_option maxRecDepth 100000 in
theorem G0 (F:Fence)(n:Nat)(h8:F.fn 250)(Vk:F.round=none)(hn:1≤n)(l Bs n₀ b off len cap:Nat)(zs:List Int)(Ui:len*8≤140737488351232)(hb:b<n₀)(J Jx:List (Nat×Int)→World→Prop)
  (hY:∀pre x W,J pre W→pre.length<len→YieldAt F (n-1) prog l #[.int .i64 (x.1:Int),.int .u32 x.2] W fun e W'=>
   (e= .returned (.bool true)∧J (pre++[x]) W'∧Ns n₀ Bs (.slice (some ⟨b,off,none⟩) len cap) W W')∨(e= .returned (.bool false)∧Jx (pre++[x]) W'))
  (W:World) (ZZ:W.cell? ⟨Bs,0,none⟩=some (.slice (some ⟨b,off,none⟩) len cap)) (hc:∀j,j<len→W.cell? ⟨b,off+j,none⟩=some (.int .u32 (zs[j]?.getD 0))) (h0:J [] W):
  CallsIn F n prog 250 #[.func (.yield l) #[] #[],.pointer (some ⟨Bs,0,none⟩)] W fun e W'=>(∃v,e= .returned v)∧
   ((∃ys,ys=wO zs len len∧J ys W')∨(∃pre,(∃k,k≤len∧pre=wO zs len k)∧Jx pre W')):=by
 refine callsIn_of_wp func250 rfl h8 ?_ Vk;simp only[ntmps250,List.size_toArray,List.length_cons,List.length_nil,J1,J3,Array.replicate_succ,Array.replicate_zero,List.push_toArray,List.append_toArray,List.nil_append,List.cons_append]
 gi_wp2
 gi_loopw [3] (fun i wr=>∃m k:Nat,m+k=len∧i= .int .i64 ((m:Int)-1)∧J (wO zs len k) wr∧Ns n₀ Bs (.slice (some ⟨b,off,none⟩) len cap) W wr)
  (fun i _=>(intOf i+1).toNat)
 case atStart=>exact⟨len,0,rfl,rfl,h0,Below.refl _ _,id⟩
 case round=>
  obtain⟨m,k,hk,rfl,Z0,SA⟩:=hrel
  rcases m with _|m
  ·obtain rfl:k=len:=by omega
   gi_wp2
   go_end0
   exact⟨⟨_,rfl⟩,.inl ⟨_,rfl,Z0⟩⟩
  have hcx':wr.cell? ⟨b,off+m,none⟩=some (.int .u32 (zs[m]?.getD 0)):=(SA.1.cell (p:=⟨b,off+m,none⟩) hb).trans (hc m (by omega));have hbx:=SA.2 ZZ;obtain⟨fn,tmps,assign,body,hy,hR⟩:=hY _ (m,zs[m]?.getD 0) wr Z0 (by rw[CB];omega)
  dsimp only at hy
  have e0:wO zs len (k+1)=wO zs len k++[(m,zs[m]?.getD 0)]:=by rw[FZ,show len-1-k=m by omega]
  have hE:=Lib.hid e0;clear e0;obtain⟨i0,Wh⟩:∃i0:Int,i0=m:=⟨_,rfl⟩;have em:((m+1:Nat):Int)-1=m:=by omega
  rw[em];clear em;have Xq:m<len:=by omega
  gi_wp2
  refine hR.mono ?_
  rintro e W3 (⟨rfl,hJ3,Un⟩|⟨rfl,hJx3⟩)
  ·gi_wp2
   go_roundw
   case rel=>exact⟨m,k+1,by omega,by simp,by rw[hE.out];exact hJ3,Mf SA Un⟩
   case measure=>simp[intOf]
  gi_wp2
  refine bodyPost_ret (results_none rfl _ _ _) rfl ?_;exact⟨⟨_,rfl⟩,.inr ⟨_,⟨k+1,by omega,hE.out.symm⟩,hJx3⟩⟩
def nH (n₀:Nat)(W:World)(sv:Value)(zs:List Int):Prop:=
 ∃a cap,sv= .slice a zs.length cap∧(zs.length=0∨∃b off,a=some ⟨b,off,none⟩∧b<n₀∧∀j,j<zs.length→W.cell? ⟨b,off+j,none⟩=some (.int .u32 (zs[j]?.getD 0)))
theorem nH.below {n₀:Nat}{A B:World}(h:Below n₀ A B){sv:Value}{zs:List Int}:nH n₀ A sv zs→nH n₀ B sv zs
 |⟨a,cap,e,.inl h0⟩=>⟨a,cap,e,.inl h0⟩
 |⟨a,cap,e,.inr ⟨b,off,ha,hb,hc⟩⟩=>⟨a,cap,e,.inr ⟨b,off,ha,hb,fun j hj=>(h.cell (p:=⟨b,off+j,none⟩) hb).trans (hc j hj)⟩⟩
set_option maxRecDepth 100000 in
theorem wV (F:Fence)(n:Nat)(h8:F.fn 250)(Vk:F.round=none)(l Bs cap:Nat)(a:Option Addr)(J:List (Nat×Int)→World→Prop)(W:World)(ZZ:W.cell? ⟨Bs,0,none⟩=some (.slice a 0 cap))(h0:J [] W):
  CallsIn F n prog 250 #[.func (.yield l) #[] #[],.pointer (some ⟨Bs,0,none⟩)] W fun e W'=>(∃v,e= .returned v)∧J [] W':=by
 refine callsIn_of_wp func250 rfl h8 ?_ Vk;simp only[ntmps250,List.size_toArray,List.length_cons,List.length_nil,J1,J3,Array.replicate_succ,Array.replicate_zero,List.push_toArray,List.append_toArray,List.nil_append,List.cons_append]
 gi_wp2
 gi_loopw [3] (fun i wr=>i= .int .i64 (-1)∧J [] wr) (fun _ _=>0)
 case atStart=>exact⟨rfl,h0⟩
 case round=>
  obtain⟨rfl,Z0⟩:=hrel
  gi_wp2
  go_end0
  exact⟨⟨_,rfl⟩,Z0⟩
theorem Jh (F:Fence)(n:Nat)(h6:F.fn 240)(Vk:F.round=none)(a:Option Addr)(len cap:Nat)(w:World):
  CallsIn F n prog 240 #[.slice a len cap] w fun e w'=>e= .returned (.func (.func 250) #[] #[.pointer (some ⟨w.heap.size,0,none⟩)])∧w'=w.alloc (.cells #[.slice a len cap] 58):=by
 refine callsIn_of_wp func240 rfl h6 ?_ Vk;simp only[ntmps240,List.size_toArray,List.length_cons,List.length_nil,J1,J3,Array.replicate_succ,Array.replicate_zero,List.push_toArray,List.append_toArray,List.nil_append,List.cons_append]
 gi_wp2
 go_ret
 exact⟨rfl,rfl⟩
theorem BF (F:Fence)(n:Nat)(h8:F.fn 250)(Vk:F.round=none)(hn:1≤n)(Bs n₀:Nat)(sv:Value)(zs:List Int)(Ui:zs.length*8≤140737488351232)(w:World)(ZZ:Bs<w.heap.size)(hn₀:n₀≤w.heap.size)
  (hc:w.cell? ⟨Bs,0,none⟩=some sv) (hI:nH n₀ w sv zs):
  SeqStopsK F n prog 250 #[.pointer (some ⟨Bs,0,none⟩)] (fun x:Nat×Int=> #[Value.int .i64 (x.1:Int),Value.int .u32 x.2]) (Ns n₀ Bs sv) (fun ys=>ys=wO zs zs.length zs.length)
   (fun pre=>∃k,k≤zs.length∧pre=wO zs zs.length k) zs.length w:=fun l J Jx W hW _ _ hY h0=>by
 have W8:=(hW.cell (p:=⟨Bs,0,none⟩) ZZ).trans hc
 obtain⟨a,cap,rfl,h1|⟨b,off,rfl,hb,Sc⟩⟩:=hI.below (hW.mono hn₀)
 ·rw[h1]at W8⊢;exact(wV F n h8 Vk l Bs cap a J W W8 h0).mono fun e W' ⟨he,hj⟩=>⟨he,.inl ⟨_,by rfl,hj⟩⟩
 exact G0 F n h8 Vk hn l Bs n₀ b off zs.length cap zs Ui hb J Jx hY W W8 Sc h0
def kR (s x:Int):Int:=bits .or .u64 (IntKind.u64.wrap (s*4294967296)) (IntKind.u64.wrap x)
def tc:List (Nat×Int)→Int:=List.foldl (fun s p=>kR s p.2) 0
theorem E4 (pre:List (Nat×Int))(x:Nat×Int):tc (pre++[x])=kR (tc pre) x.2:=by simp[tc]
set_option maxRecDepth 100000 in
theorem EW (F:Fence)(n:Nat)(h3:F.fn 224)(h5:F.fn 240)(h7:F.fn 250)(Vk:F.round=none)(hn:3≤n)(a:Option Addr)(len cap:Nat)(zs:List Int)(Ui:zs.length*8≤140737488351232)(w:World)(hI:nH w.heap.size w (.slice a len cap) zs):
  CallsIn F n prog 224 #[.slice a len cap] w fun e W'=>e= .returned (.int .u64 (tc (wO zs zs.length zs.length)))∧Below w.heap.size w W':=by
 have h1:1≤n:=by omega
 refine callsIn_of_wp_marks func224 rfl h3 ?_ Vk;simp only[ntmps224,List.size_toArray,List.length_cons,List.length_nil,J1,J3,Array.replicate_succ,Array.replicate_zero,List.push_toArray,List.append_toArray,List.nil_append,List.cons_append]
 gi_wp2_with (gi_at_call 240;refine(Jh F (n-1) h5 Vk _ _ _ _).mono ?_;rintro e w' ⟨rfl,rfl⟩)
 have bS:=Boxed.new w 124 (.int .u64 0);have bN:=Boxed.new (w.alloc (.cells #[.int .u64 0] 124)) 58 (.slice a len cap);rw[World.size_alloc]at bN;have XF:Below w.heap.size w ((w.alloc (.cells #[.int .u64 0] 124)).alloc (.cells #[.slice a len cap] 58)):=((Below.refl _ w).alloc (Nat.le_refl _) _).alloc (by simp) _;refine wpIn_rangeFunc_ownG Vk h1 (gf:=250) (lb:= #[.pointer (some ⟨w.heap.size+1,0,none⟩)]) rfl h7 (enters_of func250 (by kernel_rfl) rfl)
  (BF F (n-1) h7 Vk (by omega) (w.heap.size+1) w.heap.size _ zs Ui _ (by simp) (by simp;omega) bN.cell (hI.below XF)) Mf (Ph (by simp;omega) (by simp)) (Below.refl _ _) (fun _=>rfl)
  (fun pre W=>(W.cell? ⟨w.heap.size,0,none⟩=some (.int .u64 (tc pre))∧W.frozen? ⟨w.heap.size,0,none⟩=false)∧Below w.heap.size w W)
  (fun _ _ _=>False)
  (OwnFrom.and (Own.from (fun s A B row hs hg hr=>⟨cell_kept hs.1 hg hr,(frozen_kept hs.1 hg hr).trans hs.2⟩) _) (ownFrom_below (Nat.le_refl _) (by simp;omega)))
  (fun _ _ _ _ _ hs _ _=>hs)
  ⟨⟨(bS.alloc _).cell,(bS.alloc _).frozen⟩,XF⟩
  (fun x=>{tmps:= #[.slice a len cap,undef,.int .u64 0,.pointer (some ⟨w.heap.size,0,none⟩),undef,.int .u32 x.2,.slice a len cap,.func (.func 250) #[] #[.pointer (some ⟨w.heap.size+1,0,none⟩)],.int .i64 (x.1:Int),.int .u32 x.2,undef,undef,undef,undef,undef,undef],defers:=[]}) ?assign ?body ?done ?stop
 case assign=>
  intro l x W K hK
  gi_wp2
  exact hK
 case body=>
  rintro l pre x W ⟨⟨hc,hf⟩,hB⟩ _
  gi_wp2
  exact⟨(KeepsOthers.setCell _ _ _).from _,⟨(Below.refl w.heap.size W).setCell (p:=⟨w.heap.size,0,none⟩) (Nat.le_refl _) _,fun e=>(World.cell?_setCell_other _ _ _ _ (by intro h;simp only[Addr.mk.injEq]at h;omega)).trans e⟩,
   ⟨by rw[E4];exact World.cell?_setCell_same' _ _ _ (by rw[hc];rfl),by rw[World.frozen?_setCell];exact hf⟩,hB.setCell (p:=⟨w.heap.size,0,none⟩) (Nat.le_refl _) _⟩
 case done=>
  rintro D ys W hD rfl ⟨⟨hc,_⟩,hB⟩ hK
  gi_wp2
  refine⟨by simp,.inl ⟨_,_,rfl,run_takeDeferred hK,?_⟩⟩;exact⟨_,results_tmp rfl _ _ _,rfl,hB.trans (belowK_b (w:=w) (Nat.le_refl _) W D _ _ (by simp at hD;omega) hK rfl rfl)⟩
 case stop=>
  rintro D c pre W _ _ h _;exact h.elim
theorem ur {s x:Nat}(hs:s<BB)(hx:x<BB):kR (s:Int) (x:Int)=((s*BB+x:Nat):Int):=by
 have h:eW .or .u64 ((s:Int)*4294967296) (x:Int)=((s*BB+x:Nat):Int):=by
  rw[show ((s:Int)*4294967296)=((s*4294967296:Nat):Int) by omega];unfold BB at*
  have e:=Nat.two_pow_add_eq_or_of_lt (i:=32) (b:=x) (by omega) s;rw[qW (by omega) (by omega)];have e2:s*4294967296=2^32*s:=Nat.mul_comm _ _;rw[e2,←e]
 unfold kR;rw[IntWalk.u64_in _ (by unfold BB at*;omega),IntWalk.u64_in _ (by unfold BB at*;omega)];exact h
theorem BJ {n:Nat}(hn:n<2^64):tc (wO (aj n) (nl n) (nl n))=n:=by
 have h2:nl n≤2:=aD (by unfold BB;omega);have hr:=bI.aj n;have hv:=gH n;unfold nl at*
 generalize aj n=l at*
 match l,h2 with
 |[],_=>simp[val]at hv;subst hv;rfl
 |[x],_=>
  obtain⟨x0,x1⟩:=hr.head;obtain⟨a,rfl⟩:=Int.eq_ofNat_of_zero_le x0
  simp[val]at hv
  have e:tc (wO [(a:Int)] 1 1)=kR ((0:Nat):Int) a:=rfl;show tc (wO [(a:Int)] 1 1)=_;rw[e,ur (by decide) (by unfold BB;omega)];omega
 |[x,y],_=>
  obtain⟨x0,x1⟩:=hr.head;obtain⟨a,rfl⟩:=Int.eq_ofNat_of_zero_le x0;obtain⟨y0,y1⟩:=hr.tail.head;obtain⟨b,rfl⟩:=Int.eq_ofNat_of_zero_le y0
  simp[val]at hv
  have e:tc (wO [(a:Int),(b:Int)] 2 2)=kR (kR ((0:Nat):Int) b) a:=rfl;show tc (wO [(a:Int),(b:Int)] 2 2)=_;rw[e,ur (by decide) (by unfold BB;omega),Nat.zero_mul,Nat.zero_add,ur (by unfold BB;omega) (by unfold BB;omega)];unfold BB at*
  omega
theorem fh (n:Nat)(hn:n<2^64):Pr prog 224 [.one (.ints .u32 (aj n))] (.one (.int .u64 n)):=by
 refine⟨⟨_,func224,by rfl,by rfl⟩,fun ok w vs R6 hr=>?_⟩;obtain⟨vs⟩:=vs
 match vs,hr with
 |[v],hr=>
  obtain⟨⟨a,cap,rfl,hle,hc⟩,_⟩:=hr;have h2:(aj n).length≤2:=aD (by unfold BB;omega);have hI:nH w.heap.size w (.slice a (aj n).length cap) (aj n):=by
   refine⟨a,cap,rfl,?_⟩
   rcases hc with hc|⟨g,o,ha,hg,hc⟩
   ·exact .inl hc
   exact .inr ⟨g,o,ha,R6 g hg,fun j hj=>by rw[hc j hj,X7]⟩
  refine(callsIn_wide.1 (EW Fence.wide 3 trivial trivial trivial rfl (by omega) a (aj n).length cap (aj n) (by omega) w hI)).mono ?_
  rintro e W' ⟨rfl,hB⟩;refine⟨_,rfl,hB,?_⟩;show Value.int .u64 (tc (wO (aj n) (nl n) (nl n)))= .int .u64 n;rw[BJ hn]
open Go Go.Proofs Go.Eng
theorem vj (x:Nat)(h:x<2^64):Lib.bitLen x=bl x:=by
 induction x using Nat.strongRecOn with
 |_ x ih=>
  by_cases h0:x=0
  ·subst h0;rw[sG];rfl
  rw[Lib.bitLen_half x h0 h,Cj (by omega),ih (x/2) (by omega) (by omega)]
theorem LH (x:Nat)(hx:x<BB):Pr prog 235 [.one (.int .u32 x)] (.one (.int .i64 (32-bl x:Nat))):=by
 refine⟨⟨_,func235,by rfl,by rfl⟩,fun ok w vs R6 hr=>?_⟩;obtain⟨vs⟩:=vs
 match vs,hr with
 |[v],hr=>
  obtain⟨hv,_⟩:=hr;have hv:v= .int .u32 x:=hv;subst hv;have h2:bl x≤32:=y6 (by unfold BB at hx;omega)
  refine(Tryz.nW x w (by omega) (by unfold BB at hx;omega)).mono ?_
  rintro e W' ⟨rfl,rfl⟩;refine⟨_,rfl,Go.RowKit.Below.refl _ _,?_⟩;show Value.int .i64 (32-(Lib.bitLen (x:Int).toNat:Int))= .int .i64 ((32-bl x:Nat):Int);rw[Int.toNat_natCast,vj x (by unfold BB at hx;omega)]
  congr 1
  omega
open Go Go.Eng
theorem kF {m n:Nat}(h:eX m n<0):m<n:=by
 unfold eX at h
 split at h
 ·omega
 split at h<;>omega
theorem ja {m n:Nat}(h:¬eX m n<0):n≤m:=by
 rcases Nat.lt_or_ge m n with h1|h1
 ·rw[gJ (by omega)]at h;omega
 exact h1
theorem iO (a b:Nat)(h0:0<b)(ha:nl a<2^43)(hb:nl b<2^43):Pr prog 223 [.one (.ints .u32 (aj a)),.one (.ints .u32 (aj b))] (.aB [.one (.ints .u32 (aj (a/b))),.one (.ints .u32 (aj (a%b)))]):=by
 have Z1:=eH.2 h0;refine pw func223 ⟨[0,1,4,5,6,7,8,9,10,11,12,13,14,15,16,17,18,19,26,42,90,134,141,151],[(12,.nil),(17,.nil)]⟩ ?_;simp only[Tryz.f223,ntmps223,iz,seval];simp only[vx,T,seval];refine Cg (gL a b (by omega) (by omega)) ?_;simp only[vx,T,seval];refine⟨fun h1=>Lg ?_,fun h1=>Lg ?_⟩
 ·simp only[vx,T,seval];refine Cg (jG _ (by rw[dY];omega)) ?_;simp only[vx,T,seval];have RE:a<b:=kF h1;refine Va ?_;simp only[cU,aY,ry,seval,Nat.div_eq_of_lt RE,Nat.mod_eq_of_lt RE,bp]
 have hle:b≤a:=ja h1;simp only[vx,T,seval];refine⟨fun h2=>Lg ?_,fun h2=>Lg ?_⟩
 ·simp only[vx,T,seval];have R4:a<2^64:=by have:=cF.1 (show nl a≤2 by omega);unfold BB at this;omega
  refine Cg (fh a R4) ?_;simp only[vx,T,seval];refine Cg (fh b (by omega)) ?_;simp only[vx,T,seval];refine⟨by omega,?_⟩;have e1:IntKind.u64.wrap ((a:Int).tdiv b)=((a/b:Nat):Int):=by
   have e3:(a:Int).tdiv b=((a/b:Nat):Int):=rfl
   have:=Nat.div_le_self a b
   generalize a/b=q at*
   rw[e3,IntWalk.u64_in _ (by omega)]
  have e2:(a:Int).tmod b=((a%b:Nat):Int):=rfl;simp only[e1,e2];refine Cg (dj (a/b) (Nat.lt_of_le_of_lt (Nat.div_le_self a b) R4)) ?_;simp only[vx,T,seval];refine⟨by omega,?_⟩;simp only[e2];refine Cg (dj (a%b) (Nat.lt_of_le_of_lt (Nat.mod_le a b) R4)) ?_;simp only[vx,T,seval];refine Va ?_;simp only[cU,aY,ry,seval]
 simp only[vx,T,seval];refine⟨fun h3=>Lg ?_,fun h3=>Lg ?_⟩
 ·have Wi:nl b=1:=by omega
  have Uq:b<BB:=by have:=cF.1 (show nl b≤1 by omega);simpa using this
  simp only[vx,T,seval]
  simp(disch:=omega) only[lG,←X2,←Int.natCast_mul,Int.toNat_natCast,IntWalk.i64_in,IntWalk.u64_in,aA,aI,true_and,and_true,Nat.pow_zero,Nat.div_one,Nat.mod_eq_of_lt Uq]
  refine⟨by omega,Cg (qP a b (by omega) h0 Uq) ?_⟩;simp only[vx,T,seval];refine Va ?_;simp only[cU,aY,ry,seval]
 simp only[vx,T,seval];have e1:IntKind.i64.wrap ((nl b:Int)-1)=((nl b-1:Nat):Int):=by rw[IntWalk.i64_in _ (by omega)];omega
 have ht:=ku h0;obtain⟨t1,t2⟩:=gS h0;obtain⟨s1,s2,s3⟩:=sJ h0;have s4:=HA h0
 simp(disch:=omega) only[lG,←X2,←Int.natCast_mul,Int.toNat_natCast,IntWalk.i64_in,IntWalk.u64_in,aA,aI,true_and,and_true,e1,ht]
 refine⟨by omega,Cg (LH (fg b) t2) ?_⟩;have eS:32-bl (fg b)=jD b:=rfl;rw[eS];simp only[vx,T,seval];refine cK.fresh (lO a (jD b) (by omega) s1) ?_;simp only[vx,T,seval];refine cK.fresh (lO b (jD b) (by omega) s1) ?_;simp only[vx,T,seval,aM];have W9:2*(a*2^jD b)<BB^(nl a+1):=by
  have h5:=cC a;have h6:2^jD b≤2^31:=Nat.pow_le_pow_right (by decide) (by omega);have h7:a*2^jD b≤a*2^31:=Nat.mul_le_mul_left _ h6;have h8:BB^(nl a+1)=BB^nl a*BB:=Nat.pow_succ _ _;have h9:a*(2*2^31)<BB^nl a*BB:=Nat.mul_lt_mul_of_lt_of_le h5 (by decide) (by decide);omega
 have YY:val (ig (nl b+1) (b*2^jD b))=b*2^jD b:=jd (Nat.lt_of_lt_of_le s2 (Nat.pow_le_pow_right (by decide) (by omega)));rw[List.take_of_length_le (by rw[aM];exact Nat.le_refl _)];refine Cg (du _ (fY _ _) (by rw[aM];omega)) ?_;rw[YY];have hN:F1 (b*2^jD b) (nl (b*2^jD b)):=⟨rfl,by omega,by rw[s4];exact s3⟩;obtain⟨A,hA⟩:∃A,A=a*2^jD b:=⟨_,rfl⟩;obtain⟨V,hV⟩:∃V,V=b*2^jD b:=⟨_,rfl⟩;have hmono:nl b≤nl a:=bf hle;rw[←hA]at W9⊢;rw[←hV]at s4 hN⊢;clear YY s2 s3;simp only[vx,T,seval,aM];have e4:IntKind.i64.wrap (((nl a+1:Nat):Int)-(nl V:Nat))=((nl a+1-nl V:Nat):Int):=by rw[IntWalk.i64_in _ (by omega)];omega
 have e5:IntKind.i64.wrap ((nl V:Int)-1)=((nl V-1:Nat):Int):=by rw[IntWalk.i64_in _ (by omega)];omega
 have e6:IntKind.i64.wrap ((nl V:Int)-2)=((nl V-2:Nat):Int):=by rw[IntWalk.i64_in _ (by omega)];omega
 have w1:=hN.high;have w2:V/BB^(nl V-1)%BB=V/BB^(nl V-1):=Nat.mod_eq_of_lt w1.2.1;have wN:V/BB^(nl V-2)%BB<BB:=bc _;obtain⟨hi,T7⟩:∃hi,hi=V/BB^(nl V-1):=⟨_,rfl⟩;obtain⟨nx,SA⟩:∃nx,nx=V/BB^(nl V-2)%BB:=⟨_,rfl⟩;rw[←T7]at w1 w2;rw[←SA]at w1 wN;obtain⟨w3,w4,_⟩:=w1;have w5:IntKind.u64.wrap (hi:Int)=hi:=IntWalk.u64_in _ (by unfold BB at w4;omega);have w6:IntKind.u64.wrap (nx:Int)=nx:=IntWalk.u64_in _ (by unfold BB at wN;omega)
 simp(disch:=omega) only[lG,←X2,←Int.natCast_mul,Int.toNat_natCast,IntWalk.i64_in,IntWalk.u64_in,aA,aI,true_and,and_true,e4,e5,e6,←T7,←SA,w2,w5,w6]
 refine⟨⟨by omega,by omega,by omega,by omega⟩,⟨by omega,by omega⟩,⟨by omega,by omega⟩,Lk (fun y:{y:Nat×List Int×List Int//je A V (nl a+1) y.1 y.2.1 y.2.2∧y.2.2.length=nl a+1-nl V}=>⟨[(8,.one (.int .i64 (jD b))),(9,.one (.own 1 1 0 (nl a+1))),(10,.one (.ints .u32 (aj V))),(11,.one (.int .i64 (nl V))),(12,.one (.own 2 1 0 (nl a+1-nl V))),(13,.one (.int .u64 hi)),(14,.one (.int .u64 nx)),(15,.one (.int .i64 ((y.1.1:Int)-1)))],[(1,⟨.ints 147 .u32 y.1.2.1,true⟩),(2,⟨.ints 147 .u32 y.1.2.2,true⟩)],3,177⟩) (fun y=>y.1.1) ⟨(nl a+1-nl V,_,List.replicate (nl a+1-nl V) 0),je.init hN (by omega) W9 (by omega),by simp⟩ ?_ (fun⟨⟨j,us,qs⟩,hy,Us⟩=>?_)⟩
 ·refine Sa ?_;simp only[ry,seval,rz];rfl
 simp only at hy Us;simp only[vx,T,seval];refine⟨fun h6=>Lg ?_,fun h6=>Lg ?_⟩
 ·obtain⟨i,rfl⟩:∃i,j=i+1:=⟨j-1,by omega⟩;have Uj:=hy.at;obtain⟨d0,d1,d2,d3⟩:=Uj.words;have hul:=hy.ulen;have Uk:val us<BB^(i+nl V+1):=by
   refine Nat.lt_of_lt_of_le Uj.lt ?_
   have:=Nat.mul_le_mul_right (BB^(i+1)) (Nat.le_of_lt Uj.dz.lt)
   rw[←Nat.pow_add,show nl V+(i+1)=i+nl V+1 by omega]at this;exact this
  have Sf:=hy.le;have g0:us.getD (i+nl V-2) 0=((q3 (nl V) i (val us)%BB:Nat):Int):=by rw[dy hy.uin,d0]
  have g1:us.getD (i+nl V-1) 0=((q3 (nl V) i (val us)/BB%BB:Nat):Int):=by rw[dy hy.uin,d1]
  have g2:us.getD (i+nl V) 0=((q3 (nl V) i (val us)/BB/BB:Nat):Int):=by rw[dy hy.uin,d2]
  have dg0:=Dg.init Uj;obtain⟨tp,V4⟩:∃tp,tp=q3 (nl V) i (val us)/BB:=⟨_,rfl⟩;rw[←V4]at g1 g2 d1 d2 d3 dg0;have d4:tp/BB<BB:=by rw[Nat.div_lt_iff_lt_mul (by decide)];exact d3
  have d5:=oY d4 (bc tp);rw[show tp/BB*BB+tp%BB=tp by rw[Nat.mul_comm];exact Nat.div_add_mod tp BB]at d5;have d6:IntKind.u64.wrap (((tp/BB:Nat):Int)*4294967296)=((tp/BB:Nat):Int)*4294967296:=by
   generalize tp/BB=q at d4⊢
   exact IntWalk.u64_in _ (by unfold BB at d4;omega)
  have d7:IntKind.u64.wrap ((tp:Int).tdiv hi)=((tp/hi:Nat):Int):=by
   have e3:(tp:Int).tdiv hi=((tp/hi:Nat):Int):=rfl
   have:=Nat.div_le_self tp hi
   generalize tp/hi=q at*
   rw[e3,IntWalk.u64_in _ (by unfold BB at d3;omega)]
  have d8:(tp:Int).tmod hi=((tp%hi:Nat):Int):=rfl;have d9:IntKind.u64.wrap ((tp/BB:Nat):Int)=((tp/BB:Nat):Int):=by
   generalize tp/BB=q at d4⊢
   exact IntWalk.u64_in _ (by unfold BB at d4;omega)
  have d10:IntKind.u64.wrap ((tp%BB:Nat):Int)=((tp%BB:Nat):Int):=by
   have:=bc tp
   generalize tp%BB=q at this⊢
   exact IntWalk.u64_in _ (by omega)
  have x0:((i+1:Nat):Int)-1=(i:Int):=by omega
  have x1:IntKind.i64.wrap (((i+nl V:Nat):Int)-1)=((i+nl V-1:Nat):Int):=by rw[IntWalk.i64_in _ (by omega)];omega
  have x2:IntKind.i64.wrap (((i+nl V:Nat):Int)-2)=((i+nl V-2:Nat):Int):=by rw[IntWalk.i64_in _ (by omega)];omega
  have x3:IntKind.i64.wrap ((i:Int)+(nl V:Nat))=((i+nl V:Nat):Int):=by rw[←X2,IntWalk.i64_in _ (by omega)]
  have x4:¬(hi:Int)=0:=by unfold BB at w3;omega
  rw[x0];simp only[vx,T,seval]
  simp(disch:=omega) only[lG,←X2,←Int.natCast_mul,Int.toNat_natCast,IntWalk.i64_in,IntWalk.u64_in,aA,aI,true_and,and_true,x1,x2,x3,g0,g1,g2,d9,d10,d5,d6,d7,d8]
  refine⟨⟨by omega,by omega⟩,⟨by omega,by omega⟩,x4,x4,Lk (fun y:{y:Nat×Nat//Dg V (nl V) i (val us) y.1 y.2}=>⟨[(8,.one (.int .i64 (jD b))),(9,.one (.own 1 1 0 (nl a+1))),(10,.one (.ints .u32 (aj V))),(11,.one (.int .i64 (nl V))),(12,.one (.own 2 1 0 (nl a+1-nl V))),(13,.one (.int .u64 hi)),(14,.one (.int .u64 nx)),(15,.one (.int .i64 i)),(17,.one (.int .u64 y.1.1)),(18,.one (.int .u64 y.1.2))],[(1,⟨.ints 147 .u32 us,true⟩),(2,⟨.ints 147 .u32 qs,true⟩)],3,177⟩) (fun y=>y.1.1) ⟨(tp/hi,tp%hi),by rw[T7];exact dg0⟩ ?_ (fun⟨⟨D,rest⟩,hD⟩=>?_)⟩
  ·refine Sa ?_;simp only[ry,seval,rz]
  simp only at hD;have YZ:=hD.lt;have Z3:=hD.rest;have hDt:=hD.top;rw[←V4,←T7]at hDt;have Th:=bc (q3 (nl V) i (val us));simp only[vx,T,seval];refine⟨fun c1=>Lg ?_,fun c1=>Lg ?_⟩
  ·have c2:BB≤D:=by unfold BB;omega
   obtain⟨n1,n2,n3⟩:=hD.next Uj (.inl c2);rw[←V4,←T7]at n2;simp only[vx,T,seval];have m1:IntKind.u64.wrap ((D:Int)-1)=((D-1:Nat):Int):=by rw[IntWalk.u64_in _ (by unfold BB at YZ;omega)];omega
   have m2:IntKind.u64.wrap ((rest+hi:Nat):Int)=((rest+hi:Nat):Int):=IntWalk.u64_in _ (by unfold BB at Z3 w4;omega)
   simp(disch:=omega) only[lG,←X2,←Int.natCast_mul,Int.toNat_natCast,IntWalk.i64_in,IntWalk.u64_in,aA,aI,true_and,and_true,m1,m2]
   refine⟨fun c4=>Lg ?_,fun c4=>Lg ?_⟩
   ·obtain⟨f1,f2,f3⟩:=Dg.fin (D:=D-1) (rest:=rest+hi) Uj (by rw[←V4,←T7];exact n2) n3 (.inr (by unfold BB;omega))
    generalize D-1=E at f1 f2 f3⊢
    simp only[vx,T,seval];have p1:IntKind.i64.wrap (((i+nl V:Nat):Int)+1)=((i+nl V+1:Nat):Int):=by rw[IntWalk.i64_in _ (by omega)];omega
    have p2:(((i+nl V+1:Nat):Int)-(i:Int)).toNat=nl V+1:=by omega
    simp(disch:=omega) only[lG,←X2,←Int.natCast_mul,Int.toNat_natCast,IntWalk.i64_in,IntWalk.u64_in,aA,aI,true_and,and_true,x3,p1,p2]
    refine⟨⟨by omega,by omega,by omega⟩,Cm 1 rfl trivial (jv us i V E hy.uin (by omega) (by omega) f1) ?_⟩;rintro r B' ⟨t,zs,rfl,rfl,SP,V5,Xa,Ut⟩ _;have WK:val zs<BB^(i+nl V+1):=kI V5 (by rw[Xa,ij hy.uin,Nat.div_eq_of_lt Uk]);simp only[vx,T,seval];refine⟨fun ht=>Lg ?_,fun ht=>Lg ?_⟩
    ·subst ht;have m1:IntKind.u64.wrap ((E:Int)-1)=((E-1:Nat):Int):=by
      have:0<E:=by
       rcases Nat.eq_zero_or_pos E with V6|V6
       ·subst V6;simp only[Nat.zero_mul,Nat.mul_zero,Nat.add_zero,if_true,Nat.mul_one]at Ut;omega
       exact V6
      rw[IntWalk.u64_in _ (by unfold BB at f1;omega)];omega
     simp only[vx,T,seval]
     simp(disch:=omega) only[lG,←X2,←Int.natCast_mul,Int.toNat_natCast,IntWalk.i64_in,IntWalk.u64_in,aA,aI,true_and,and_true,x3,p1,p2,m1]
     refine⟨⟨by omega,by omega,by omega⟩,Cm 1 rfl trivial (j4 zs i V V5 (by omega) (by omega)) ?_⟩;rintro r B' ⟨rfl,Za,k,rfl,RF,UH,SN,TI⟩ _;simp only[if_true,Nat.mul_one]at Ut;obtain⟨k1,k2⟩:=Uj.yx f3 f2 WK (kI UH (by rw[SN,Xa,ij hy.uin,Nat.div_eq_of_lt Uk])) Ut TI;have k3:E-1=val us/BB^i/V:=by rw[k1];rfl
     have k4:IntKind.u32.wrap ((E-1:Nat):Int)=((val us/BB^i/V:Nat):Int):=by
      rw[k3]
      have:=hy.q
      generalize val us/BB^i/V=q at this⊢
      exact IntWalk.u32_in _ (by unfold BB at this;omega)
     simp only[vx,T,seval]
     simp(disch:=omega) only[lG,←X2,←Int.natCast_mul,Int.toNat_natCast,IntWalk.i64_in,IntWalk.u64_in,aA,aI,true_and,and_true,k4]
     refine⟨by omega,Lq ⟨(i,Za,_),hy.step (by rw[RF,SP]) UH k2,by simp only[List.length_set];exact Us⟩ ?_ ?_⟩
     ·refine Sa ?_;simp only[ry,seval,rz]
     simp only;omega
    subst ht;simp only[Bool.false_eq_true,if_false,Nat.mul_zero,Nat.add_zero]at Ut;obtain⟨k1,k2⟩:=Uj.Be f2 Ut;have k4:IntKind.u32.wrap (E:Int)=((val us/BB^i/V:Nat):Int):=by
     rw[←k1];exact IntWalk.u32_in _ (by unfold BB at f1;omega)
    simp only[vx,T,seval]
    simp(disch:=omega) only[lG,←X2,←Int.natCast_mul,Int.toNat_natCast,IntWalk.i64_in,IntWalk.u64_in,aA,aI,true_and,and_true,k4]
    refine⟨by omega,Lq ⟨(i,zs,_),hy.step SP V5 k2,by simp only[List.length_set];exact Us⟩ ?_ ?_⟩
    ·refine Sa ?_;simp only[ry,seval,rz]
    simp only;omega
   simp only[vx,T,seval];refine Lq ⟨(D-1,rest+hi),⟨by rw[←V4,←T7];exact n2,n3,by simp only;unfold BB;omega,by simp only;omega⟩⟩ ?_ ?_
   ·refine Sa ?_;simp only[ry,seval,rz]
   simp only;omega
  have c2:D<BB:=by unfold BB;omega
  simp only[vx,T,seval];have z1:IntKind.u64.wrap ((D*nx:Nat):Int)=((D*nx:Nat):Int):=by
   have:D*nx≤4294967295*4294967295:=Nat.mul_le_mul (by unfold BB at c2;omega) (by unfold BB at wN;omega)
   exact IntWalk.u64_in _ (by omega)
  have z2:IntKind.u64.wrap ((rest:Int)*4294967296)=(rest:Int)*4294967296:=IntWalk.u64_in _ (by unfold BB at Z3;omega);have z3:=oY Z3 Th;have z4:IntKind.u64.wrap ((q3 (nl V) i (val us)%BB:Nat):Int)=((q3 (nl V) i (val us)%BB:Nat):Int):=by
   generalize q3 (nl V) i (val us)%BB=q at Th⊢
   exact IntWalk.u64_in _ (by omega)
  simp(disch:=omega) only[lG,←X2,←Int.natCast_mul,Int.toNat_natCast,IntWalk.i64_in,IntWalk.u64_in,aA,aI,true_and,and_true,x1,x2,x3,g0,z1,z2,z4,z3]
  refine⟨⟨by omega,by omega⟩,?_⟩;refine⟨fun c3=>Lg ?_,fun c3=>Lg ?_⟩
  ·obtain⟨n1,n2,n3⟩:=hD.next Uj (.inr (by rw[←SA];omega));rw[←V4,←T7]at n2;simp only[vx,T,seval];have m1:IntKind.u64.wrap ((D:Int)-1)=((D-1:Nat):Int):=by rw[IntWalk.u64_in _ (by unfold BB at YZ;omega)];omega
   have m2:IntKind.u64.wrap ((rest+hi:Nat):Int)=((rest+hi:Nat):Int):=IntWalk.u64_in _ (by unfold BB at Z3 w4;omega)
   simp(disch:=omega) only[lG,←X2,←Int.natCast_mul,Int.toNat_natCast,IntWalk.i64_in,IntWalk.u64_in,aA,aI,true_and,and_true,m1,m2]
   refine⟨fun c4=>Lg ?_,fun c4=>Lg ?_⟩
   ·obtain⟨f1,f2,f3⟩:=Dg.fin (D:=D-1) (rest:=rest+hi) Uj (by rw[←V4,←T7];exact n2) n3 (.inr (by unfold BB;omega))
    generalize D-1=E at f1 f2 f3⊢
    simp only[vx,T,seval];have p1:IntKind.i64.wrap (((i+nl V:Nat):Int)+1)=((i+nl V+1:Nat):Int):=by rw[IntWalk.i64_in _ (by omega)];omega
    have p2:(((i+nl V+1:Nat):Int)-(i:Int)).toNat=nl V+1:=by omega
    simp(disch:=omega) only[lG,←X2,←Int.natCast_mul,Int.toNat_natCast,IntWalk.i64_in,IntWalk.u64_in,aA,aI,true_and,and_true,x3,p1,p2]
    refine⟨⟨by omega,by omega,by omega⟩,Cm 1 rfl trivial (jv us i V E hy.uin (by omega) (by omega) f1) ?_⟩;rintro r B' ⟨t,zs,rfl,rfl,SP,V5,Xa,Ut⟩ _;have WK:val zs<BB^(i+nl V+1):=kI V5 (by rw[Xa,ij hy.uin,Nat.div_eq_of_lt Uk]);simp only[vx,T,seval];refine⟨fun ht=>Lg ?_,fun ht=>Lg ?_⟩
    ·subst ht;have m1:IntKind.u64.wrap ((E:Int)-1)=((E-1:Nat):Int):=by
      have:0<E:=by
       rcases Nat.eq_zero_or_pos E with V6|V6
       ·subst V6;simp only[Nat.zero_mul,Nat.mul_zero,Nat.add_zero,if_true,Nat.mul_one]at Ut;omega
       exact V6
      rw[IntWalk.u64_in _ (by unfold BB at f1;omega)];omega
     simp only[vx,T,seval]
     simp(disch:=omega) only[lG,←X2,←Int.natCast_mul,Int.toNat_natCast,IntWalk.i64_in,IntWalk.u64_in,aA,aI,true_and,and_true,x3,p1,p2,m1]
     refine⟨⟨by omega,by omega,by omega⟩,Cm 1 rfl trivial (j4 zs i V V5 (by omega) (by omega)) ?_⟩;rintro r B' ⟨rfl,Za,k,rfl,RF,UH,SN,TI⟩ _;simp only[if_true,Nat.mul_one]at Ut;obtain⟨k1,k2⟩:=Uj.yx f3 f2 WK (kI UH (by rw[SN,Xa,ij hy.uin,Nat.div_eq_of_lt Uk])) Ut TI;have k3:E-1=val us/BB^i/V:=by rw[k1];rfl
     have k4:IntKind.u32.wrap ((E-1:Nat):Int)=((val us/BB^i/V:Nat):Int):=by
      rw[k3]
      have:=hy.q
      generalize val us/BB^i/V=q at this⊢
      exact IntWalk.u32_in _ (by unfold BB at this;omega)
     simp only[vx,T,seval]
     simp(disch:=omega) only[lG,←X2,←Int.natCast_mul,Int.toNat_natCast,IntWalk.i64_in,IntWalk.u64_in,aA,aI,true_and,and_true,k4]
     refine⟨by omega,Lq ⟨(i,Za,_),hy.step (by rw[RF,SP]) UH k2,by simp only[List.length_set];exact Us⟩ ?_ ?_⟩
     ·refine Sa ?_;simp only[ry,seval,rz]
     simp only;omega
    subst ht;simp only[Bool.false_eq_true,if_false,Nat.mul_zero,Nat.add_zero]at Ut;obtain⟨k1,k2⟩:=Uj.Be f2 Ut;have k4:IntKind.u32.wrap (E:Int)=((val us/BB^i/V:Nat):Int):=by
     rw[←k1];exact IntWalk.u32_in _ (by unfold BB at f1;omega)
    simp only[vx,T,seval]
    simp(disch:=omega) only[lG,←X2,←Int.natCast_mul,Int.toNat_natCast,IntWalk.i64_in,IntWalk.u64_in,aA,aI,true_and,and_true,k4]
    refine⟨by omega,Lq ⟨(i,zs,_),hy.step SP V5 k2,by simp only[List.length_set];exact Us⟩ ?_ ?_⟩
    ·refine Sa ?_;simp only[ry,seval,rz]
    simp only;omega
   simp only[vx,T,seval];refine Lq ⟨(D-1,rest+hi),⟨by rw[←V4,←T7];exact n2,n3,by simp only;unfold BB;omega,by simp only;omega⟩⟩ ?_ ?_
   ·refine Sa ?_;simp only[ry,seval,rz]
   simp only;omega
  obtain⟨f1,f2,f3⟩:=Dg.fin Uj hD.top hD.ge (.inl ⟨c2,by rw[←SA];omega⟩);obtain⟨E,hE⟩:∃E,E=D:=⟨D,rfl⟩;rw[←hE]at f1 f2 f3⊢;simp only[vx,T,seval];have p1:IntKind.i64.wrap (((i+nl V:Nat):Int)+1)=((i+nl V+1:Nat):Int):=by rw[IntWalk.i64_in _ (by omega)];omega
  have p2:(((i+nl V+1:Nat):Int)-(i:Int)).toNat=nl V+1:=by omega
  simp(disch:=omega) only[lG,←X2,←Int.natCast_mul,Int.toNat_natCast,IntWalk.i64_in,IntWalk.u64_in,aA,aI,true_and,and_true,x3,p1,p2]
  refine⟨⟨by omega,by omega,by omega⟩,Cm 1 rfl trivial (jv us i V E hy.uin (by omega) (by omega) f1) ?_⟩;rintro r B' ⟨t,zs,rfl,rfl,SP,V5,Xa,Ut⟩ _;have WK:val zs<BB^(i+nl V+1):=kI V5 (by rw[Xa,ij hy.uin,Nat.div_eq_of_lt Uk]);simp only[vx,T,seval];refine⟨fun ht=>Lg ?_,fun ht=>Lg ?_⟩
  ·subst ht;have m1:IntKind.u64.wrap ((E:Int)-1)=((E-1:Nat):Int):=by
    have:0<E:=by
     rcases Nat.eq_zero_or_pos E with V6|V6
     ·subst V6;simp only[Nat.zero_mul,Nat.mul_zero,Nat.add_zero,if_true,Nat.mul_one]at Ut;omega
     exact V6
    rw[IntWalk.u64_in _ (by unfold BB at f1;omega)];omega
   simp only[vx,T,seval]
   simp(disch:=omega) only[lG,←X2,←Int.natCast_mul,Int.toNat_natCast,IntWalk.i64_in,IntWalk.u64_in,aA,aI,true_and,and_true,x3,p1,p2,m1]
   refine⟨⟨by omega,by omega,by omega⟩,Cm 1 rfl trivial (j4 zs i V V5 (by omega) (by omega)) ?_⟩;rintro r B' ⟨rfl,Za,k,rfl,RF,UH,SN,TI⟩ _;simp only[if_true,Nat.mul_one]at Ut;obtain⟨k1,k2⟩:=Uj.yx f3 f2 WK (kI UH (by rw[SN,Xa,ij hy.uin,Nat.div_eq_of_lt Uk])) Ut TI;have k3:E-1=val us/BB^i/V:=by rw[k1];rfl
   have k4:IntKind.u32.wrap ((E-1:Nat):Int)=((val us/BB^i/V:Nat):Int):=by
    rw[k3]
    have:=hy.q
    generalize val us/BB^i/V=q at this⊢
    exact IntWalk.u32_in _ (by unfold BB at this;omega)
   simp only[vx,T,seval]
   simp(disch:=omega) only[lG,←X2,←Int.natCast_mul,Int.toNat_natCast,IntWalk.i64_in,IntWalk.u64_in,aA,aI,true_and,and_true,k4]
   refine⟨by omega,Lq ⟨(i,Za,_),hy.step (by rw[RF,SP]) UH k2,by simp only[List.length_set];exact Us⟩ ?_ ?_⟩
   ·refine Sa ?_;simp only[ry,seval,rz]
   simp only;omega
  subst ht;simp only[Bool.false_eq_true,if_false,Nat.mul_zero,Nat.add_zero]at Ut;obtain⟨k1,k2⟩:=Uj.Be f2 Ut;have k4:IntKind.u32.wrap (E:Int)=((val us/BB^i/V:Nat):Int):=by
   rw[←k1];exact IntWalk.u32_in _ (by unfold BB at f1;omega)
  simp only[vx,T,seval]
  simp(disch:=omega) only[lG,←X2,←Int.natCast_mul,Int.toNat_natCast,IntWalk.i64_in,IntWalk.u64_in,aA,aI,true_and,and_true,k4]
  refine⟨by omega,Lq ⟨(i,zs,_),hy.step SP V5 k2,by simp only[List.length_set];exact Us⟩ ?_ ?_⟩
  ·refine Sa ?_;simp only[ry,seval,rz]
  simp only;omega
 have XI:j=0:=by omega
 subst XI;rw[hA,hV]at hy;obtain⟨r1,r2,r3⟩:=hy.done h0;rw[←hV]at r3;have hul:=hy.ulen;have hqi:=hy.qin;have Vy:=hy.uin;have Sf:=hy.le;simp only[←hV]at Sf;clear hy;simp only[vx,T,seval];rw[List.take_of_length_le (by omega)];refine Cg (du qs hqi (by omega)) ?_;rw[r1];simp only[vx,T,seval];have r4:val (us.take (nl V))=val us:=by rw[uv Vy,Nat.mod_eq_of_lt r3]
 have r5:nl (val us)<2^44:=Nat.lt_of_le_of_lt (aD r3) (by omega);refine⟨by omega,Cg (du _ (Vy.take _) (by rw[X5];omega)) ?_⟩;rw[r4];simp only[vx,T,seval];refine Cg (kE (val us) (jD b) r5 s1).ints ?_;simp only[vx,T,seval];have r6:val (ig (nl (val us)) (val us/2^jD b))=a%b:=by
  rw[jd (Nat.lt_of_le_of_lt (Nat.div_le_self _ _) (cC _)),r2,Nat.mul_div_cancel _ (Nat.pow_pos (by decide))]
 refine Cg (du _ (fY _ _) (by rw[aM];omega)) ?_;rw[r6];simp only[vx,T,seval];refine Va ?_;simp only[cU,aY,ry,seval]
open Go Go.Eng
theorem yd {b lb:Nat}(h:b<BB^lb)(i:Nat):(ig lb b).getD i 0=((b/BB^i%BB:Nat):Int):=by
 rw[dy (fY _ _),jQ,Nat.mod_eq_of_lt h]
theorem dC (lb b:Nat):(ig lb b).take lb=ig lb b:=List.take_of_length_le (by rw[aM];exact Nat.le_refl _)
structure iL (a b lb i:Nat) (os:List Int):Prop where
 le:i≤nl a
 len:os.length=nl a+lb
 inr:bI os
 zero:∀j,i+lb≤j→os.getD j 0=0
 eq:val os=(a%BB^i)*b
structure lV (a b lb i k:Nat) (os:List Int) (c:Nat):Prop where
 le:k≤lb
 len:os.length=nl a+lb
 inr:bI os
 zero:∀j,i+lb≤j→os.getD j 0=0
 eq:val os+BB^(i+k)*c=(a%BB^i)*b+BB^i*((a/BB^i%BB)*(b%BB^k))
 c:c<BB
theorem iL.init (a b lb:Nat):iL a b lb 0 (List.replicate (nl a+lb) 0):=
 ⟨Nat.zero_le _,by simp,bI.replicate _,fun j _=>by simp[X7,List.getElem?_replicate];split<;>rfl,by rw[cL];simp[Nat.mod_one]⟩
theorem iL.start {a b lb i:Nat}{os:List Int}(h:iL a b lb i os):lV a b lb i 0 os 0:=
 ⟨Nat.zero_le _,h.len,h.inr,h.zero,by rw[h.eq];simp[Nat.mod_one],by decide⟩
theorem lV.put {a b lb i k:Nat}{os:List Int}{c o s:Nat}(h:lV a b lb i k os c)(hi:i<nl a)(hk:k<lb)(ho:os.getD (i+k) 0=(o:Int))(hs:s=(a/BB^i%BB)*(b/BB^k%BB)+o+c):
  lV a b lb i (k+1) (os.set (i+k) ((s%BB:Nat):Int)) (s/BB):=by
 have hl:i+k<os.length:=by rw[h.len];omega
 have hx:=bc (a/BB^i);have hy:=bc (b/BB^k);have TJ:o<BB:=by have:=h.inr.getD (i+k);rw[ho]at this;unfold BB;omega
 refine⟨hk,by rw[List.length_set];exact h.len,h.inr.set _ ⟨by omega,by have:=bc s;omega⟩,fun j hj=>?_,?_,?_⟩
 ·rw[getD_set_ne (by omega)];exact h.zero j hj
 ·have e:=dP (xs:=os) (x:=((s%BB:Nat):Int)) hl;rw[ho]at e;simp only[Int.toNat_natCast]at e;have h1:=h.eq;have e2:BB^(i+(k+1))*(s/BB)+BB^(i+k)*(s%BB)=BB^(i+k)*s:=by
   rw[←Nat.add_assoc,Nat.pow_succ,Nat.mul_assoc,←Nat.mul_add,Nat.div_add_mod]
  have e3:BB^(i+k)*s=BB^i*((a/BB^i%BB)*(BB^k*(b/BB^k%BB)))+BB^(i+k)*o+BB^(i+k)*c:=by
   rw[hs,Nat.mul_add,Nat.mul_add,Nat.pow_add]
   congr 2
   simp only[Nat.mul_comm,Nat.mul_left_comm]
  rw[eZ b k,Nat.mul_add,Nat.mul_add];omega
 have hp:(a/BB^i%BB)*(b/BB^k%BB)≤4294967295*4294967295:=Nat.mul_le_mul (by omega) (by omega);have h3:=h.c;rw[Nat.div_lt_iff_lt_mul (by decide)];unfold BB at*
 omega
theorem lV.next {a b lb i:Nat}{os:List Int}{c:Nat}(Sl:b<BB^lb)(h:lV a b lb i (lb) os c)(hi:i<nl a):iL a b lb (i+1) (os.set (i+lb) ((c%BB:Nat):Int)):=by
 have hl:i+lb<os.length:=by rw[h.len];omega
 have hc:c%BB=c:=Nat.mod_eq_of_lt h.c;refine⟨hi,by rw[List.length_set];exact h.len,h.inr.set _ ⟨by omega,by have:=bc c;omega⟩,fun j hj=>?_,?_⟩
 ·rw[getD_set_ne (by omega)];exact h.zero j (by omega)
 have e:=dP (xs:=os) (x:=((c%BB:Nat):Int)) hl;rw[h.zero _ (Nat.le_refl _),hc]at e;simp only[Int.toNat_natCast,Int.toNat_zero,Nat.mul_zero,Nat.add_zero]at e;rw[hc,e,h.eq,Nat.mod_eq_of_lt Sl,eZ a,Nat.add_mul,Nat.mul_assoc]
theorem iL.done {a b lb:Nat}{os:List Int}(h:iL a b lb (nl a) os):val os=a*b:=by
 rw[h.eq,gP (Nat.le_refl _)]
theorem pA (a b lb:Nat)(ha:nl a<2^44)(hb:lb<2^44)(Sl:b<BB^lb):Pr prog 151 [.one (.ints .u32 (aj a)),.one (.ints .u32 (ig lb b))] (.one (.ints .u32 (aj (a*b)))):=by
 refine pw func151 ⟨[0,1,4,5,6,7,8,18,24],[]⟩ ?_;simp only[Tryz.f151,ntmps151,iz,seval];simp only[vx,T,seval,aM,dC]
 simp(disch:=omega) only[lG,←X2,←Int.natCast_mul,Int.toNat_natCast,IntWalk.i64_in,IntWalk.u64_in,aA,aI,true_and,and_true,yd Sl]
 refine⟨⟨by omega,by omega,by omega,by omega⟩,Lk (fun i:{i:Nat×List Int//iL a b lb i.1 i.2}=>⟨[(0,.one (.ints .u32 (aj a))),(1,.one (.ints .u32 (ig lb b))),(5,.one (.own 1 1 0 (nl a+lb))),(6,.one (.int .i64 i.1.1))],[(1,⟨.ints 147 .u32 i.1.2,true⟩)],3,67⟩) (fun i=>nl a-i.1.1) ⟨(0,List.replicate (nl a+lb) 0),iL.init a b lb⟩ ?_ (fun⟨⟨i,os⟩,hi⟩=>?_)⟩
 ·refine Sa ?_;simp only[ry,seval,rz,dC]
 have h1:=hi.le;have h2:=hi.len;simp only at h1 h2;simp only[vx,T,seval,aM,dC];refine⟨fun h=>Lg ?_,fun h=>Lg ?_⟩
 ·simp only[vx,T,seval,aM,dC];have hx:=bc (a/BB^i);refine Lk (fun k:{k:Nat×List Int×Nat//lV a b lb i k.1 k.2.1 k.2.2}=>⟨[(0,.one (.ints .u32 (aj a))),(1,.one (.ints .u32 (ig lb b))),(5,.one (.own 1 1 0 (nl a+lb))),(6,.one (.int .i64 i)),(7,.one (.int .u64 k.1.2.2)),(8,.one (.int .i64 k.1.1))],[(1,⟨.ints 147 .u32 k.1.2.1,true⟩)],3,67⟩) (fun k=>lb-k.1.1) ⟨(0,os,0),hi.start⟩ ?_ (fun⟨⟨k,os',c⟩,hk⟩=>?_)
  ·refine Sa ?_;simp only[ry,seval,rz,lG,dC]
  have h3:=hk.le;have h4:=hk.len;have h5:=hk.c;have h5:c<4294967296:=h5;have hz:=hk.inr.getD (i+k);simp only at h3 h4 hz;obtain⟨o,ho⟩:=Int.eq_ofNat_of_zero_le hz.1;rw[ho]at hz;simp only[vx,T,seval,aM,dC];refine⟨fun h'=>Lg ?_,fun h'=>Lg ?_⟩
  ·simp only[vx,T,seval,aM,dC];have hy:=bc (b/BB^k);have hp:(a/BB^i%BB)*(b/BB^k%BB)≤4294967295*4294967295:=Nat.mul_le_mul (by omega) (by omega)
   simp(disch:=omega) only[lG,←X2,←Int.natCast_mul,Int.toNat_natCast,IntWalk.i64_in,IntWalk.u64_in,aA,aI,true_and,and_true,ho,yd Sl]
   refine⟨by omega,by omega,by omega,by omega,Lq ⟨(k+1,_,_),hk.put (s:=c+o+(a/BB^i%BB)*(b/BB^k%BB)) (by omega) (by omega) ho (by simp only;omega)⟩ ?_ ?_⟩
   ·refine Sa ?_;simp only[ry,seval,rz,dC]
   simp only;omega
  simp only[vx,T,seval,aM,dC];have XH:k=lb:=by omega
  subst XH
  simp(disch:=omega) only[lG,←X2,←Int.natCast_mul,Int.toNat_natCast,IntWalk.i64_in,IntWalk.u64_in,aA,aI,true_and,and_true,yd Sl]
  refine⟨by omega,Lq ⟨(i+1,_),lV.next Sl hk (by omega)⟩ ?_ ?_⟩
  ·refine Sa ?_;simp only[ry,seval,rz,dC]
  simp only;omega
 simp only[vx,T,seval,aM,dC];have Tg:i=nl a:=by omega
 subst Tg;have hr:=hi.inr;have hv:=hi.done;simp only at hr hv;rw[List.take_of_length_le (by omega)];refine Cg (bH _ hr (by omega)) ?_;rw[hv];simp only[vx,T,seval,aM,dC];refine Va ?_;simp only[cU,aY,ry,seval]
open Go Go.Eng
theorem kx {xs:List Int}(h:bI xs)(off l:Nat):bI ((xs.drop off).take l):=(h.drop off).take l
theorem kf {xs:List Int}{off l i:Nat}(h:i<l):((xs.drop off).take l).getD i 0=xs.getD (off+i) 0:=by
 rw[X7,X7,List.getElem?_take,if_pos h,List.getElem?_drop]
theorem gV {xs:List Int}{off l:Nat}(h:off+l≤xs.length):((xs.drop off).take l).length=l:=by
 rw[X5,List.length_drop];omega
theorem vg {xs:List Int}{off l k:Nat}(h:k≤l):((xs.drop off).take l).take k=(xs.drop off).take k:=by
 rw[List.take_take,Nat.min_eq_left h]
theorem oN {xs:List Int}{off l:Nat}(hx:bI xs)(h:off+l≤xs.length):nl (val ((xs.drop off).take l))≤l∧(xs.drop off).take (nl (val ((xs.drop off).take l)))=aj (val ((xs.drop off).take l)):=by
 have hr:=kx hx off l;have hl:=gV h;have h1:nl (val ((xs.drop off).take l))≤l:=by
  refine aD ?_
  have:=j3 hr
  rw[hl]at this;exact this
 refine⟨h1,?_⟩;have h2:=uv hr (nl (val ((xs.drop off).take l)));rw[vg h1,Nat.mod_eq_of_lt (cC _)]at h2;have h3:=qz (kx hx off (nl (val ((xs.drop off).take l)))) (gV (by omega)) h2;rw[z9]at h3;exact h3
theorem mG (xs:List Int)(off len:Nat)(hx:bI xs)(hl:off+len≤xs.length)(hlen:xs.length<2^45):Mc prog 126 [.one (.own 0 1 off len)] (.ints 147 .u32 xs) (fun r B'=>r= .one (.own 0 1 off (nl (val ((xs.drop off).take len))))∧B'= .ints 147 .u32 xs):=by
 refine mw func126 ⟨[0,2,14],[]⟩ ?_;simp only[Tryz.f126,ntmps126,iz,seval];simp only[vx,T,seval];refine Lk (fun l:{l:Nat//l≤len∧val ((xs.drop off).take l)=val ((xs.drop off).take len)}=>⟨[(0,.one (.own 0 1 off l.1))],[(0,⟨.ints 147 .u32 xs,true⟩)],3,21⟩) (fun l=>l.1) ⟨len,Nat.le_refl _,rfl⟩ ?_ (fun⟨l,S7,RF⟩=>?_)
 ·refine Sa ?_;simp only[ry,seval,rz]
 have hv:=oN (l:=len) hx hl;have Zb:(l=0∨xs.getD (off+(l-1)) 0≠0)→nl (val ((xs.drop off).take len))=l:=by
  intro hc;rw[←RF];have h1:aj (val ((xs.drop off).take l))=(xs.drop off).take l:=by
   refine bY (kx hx off l) ?_
   rcases hc with hc|hc
   ·subst hc;exact .inl (List.take_zero)
   rcases Nat.eq_zero_or_pos l with h0|h0
   ·subst h0;exact .inl (List.take_zero)
   refine .inr ?_;rw[gV (by omega),kf (by omega)];exact hc
  unfold nl;rw[h1,gV (by omega)]
 simp only[vx,T,seval];refine⟨fun h=>Lg ?_,fun h=>Lg ?_⟩
 ·simp only[vx,T,seval];have e1:IntKind.i64.wrap ((l:Int)-1)=((l-1:Nat):Int):=by rw[IntWalk.i64_in _ (by omega)];omega
  simp(disch:=omega) only[lG,←X2,←Int.natCast_mul,Int.toNat_natCast,IntWalk.i64_in,IntWalk.u64_in,aA,aI,true_and,and_true,e1]
  refine⟨by omega,?_⟩;refine⟨fun h0=>Lg ?_,fun h0=>Lg ?_⟩
  ·simp only[vx,T,seval]
   simp(disch:=omega) only[lG,←X2,←Int.natCast_mul,Int.toNat_natCast,IntWalk.i64_in,IntWalk.u64_in,aA,aI,true_and,and_true,e1]
   refine⟨by omega,Lq ⟨l-1,by omega,?_⟩ ?_ ?_⟩
   ·have e2:=uo (ys:=(xs.drop off).take l) (kx hx off l) (by rw[gV (by omega)];omega) (by rw[gV (by omega),kf (by omega)];exact h0);rw[gV (by omega),vg (by omega)]at e2;rw[e2,RF]
   ·refine Sa ?_;simp only[ry,seval,rz]
   simp only;omega
  simp only[vx,T,seval];rw[Zb (.inr h0)]
 simp only[vx,T,seval];rw[Zb (.inl (by omega))]
open Go Go.Eng
theorem wS (xs:List Int)(off a b:Nat)(hx:bI xs)(hl:off+nl a≤xs.length)(hlen:xs.length<2^45)(hv:(xs.drop off).take (nl a)=aj a)(Tp:b≤a)(ha:nl a<2^44):
  Mc prog 167 [.one (.own 0 1 off (nl a)),.one (.ints .u32 (aj b))] (.ints 147 .u32 xs) (fun r B'=>r= .one (.ints .u32 (aj (a-b)))∧B'= .ints 147 .u32 xs):=by
 have hba:=bf Tp;have hg:∀i,i<nl a→xs.getD (off+i) 0=((a/BB^i%BB:Nat):Int):=fun i hi=>by rw[←lG,←hv,kf hi]
 refine mw func167 ⟨[0,1,4,5,6,7,8,9,16,22],[]⟩ ?_;simp only[Tryz.f167,ntmps167,iz,seval];simp only[vx,T,seval];refine⟨⟨by omega,by omega,by omega,by omega⟩,Lk (fun i:{i:Nat×List Int×Nat//gY a b i.1 i.2.1 i.2.2}=>⟨[(0,.one (.own 0 1 off (nl a))),(1,.one (.ints .u32 (aj b))),(5,.one (.own 1 1 0 (nl a))),(6,.one (.int .u64 i.1.2.2)),(7,.one (.int .i64 i.1.1))],[(0,⟨.ints 147 .u32 xs,true⟩),(1,⟨.ints 147 .u32 i.1.2.1,true⟩)],3,48⟩) (fun i=>nl a-i.1.1) ⟨(0,List.replicate (nl a) 0,0),Nat.zero_le _,bI.nil,by simp,by simp[val,Nat.mod_one],Nat.zero_le _⟩ ?_ (fun⟨⟨i,os,c⟩,hi⟩=>?_)⟩
 ·refine Sa ?_;simp only[ry,seval,rz]
 have h1:=hi.le;have h2:=hi.len;have h3:=hi.c;simp only at h1 h2 h3;simp only[vx,T,seval];refine⟨fun h=>Lg ?_,fun h=>Lg ?_⟩
 ·simp only[vx,T,seval];have WI:=bc (a/BB^i);have hy:=bc (b/BB^i);have e1:=IntWalk.u64_in (a/BB^i%BB:Nat) (by omega);have e2:=IntWalk.u64_in (b/BB^i%BB:Nat) (by omega);have TK:=hg i (by omega);refine⟨fun h'=>Lg ?_,fun h'=>Lg ?_⟩
  ·simp only[vx,T,seval];have hp:=hi.put (by omega);simp only[lG,TK,e1,e2,zg WI hy h3,zO WI hy h3,IntWalk.i64_in _ (show-9223372036854775808≤(i:Int)+1∧(i:Int)+1≤9223372036854775807 by omega)];refine⟨⟨by omega,by omega⟩,⟨by omega,by omega⟩,⟨by omega,by omega⟩,Lq ⟨(i+1,_,_),hp⟩ ?_ ?_⟩
   ·refine Sa ?_;simp only[ry,seval,rz]
   simp only;omega
  simp only[vx,T,seval];have WG:=iW (x:=b) (k:=i) (by omega);have hp:=hi.put (by omega);rw[WG]at hp;simp only[lG,TK,e1,e2,wc WI h3,vE WI h3,IntWalk.i64_in _ (show-9223372036854775808≤(i:Int)+1∧(i:Int)+1≤9223372036854775807 by omega)];refine⟨⟨by omega,by omega⟩,⟨by omega,by omega⟩,Lq ⟨(i+1,_,_),hp⟩ ?_ ?_⟩
  ·refine Sa ?_;simp only[ry,seval,rz]
  simp only;omega
 simp only[vx,T,seval];have Tg:i=nl a:=by omega
 subst Tg;obtain⟨TI,hr⟩:=hi.last Tp;simp only at TI hr;rw[List.take_of_length_le (by omega)];refine Cg (bH _ hr (by omega)) ?_;rw[TI];simp only[vx,T,seval]
theorem Ka {U V n:Nat}(hn:nl V=n)(h0:0<V):U/V≤U/BB^(n-1)/(V/BB^(n-1)):=by
 have hp:0<BB^(n-1):=Nat.pow_pos (by decide);have hv:0<V/BB^(n-1):=Nat.div_pos (by rw[←hn];exact tT h0) hp;rw[Nat.le_div_iff_mul_le hv,Nat.le_div_iff_mul_le hp,Nat.mul_assoc];refine Nat.le_trans (Nat.mul_le_mul_left _ ?_) (Nat.div_mul_le_self U V);rw[Nat.mul_comm];exact Nat.mul_div_le _ _
theorem AM (xs:List Int)(off V:Nat)(hx:bI xs)(hV:0<V)(hl:off+(nl V+1)≤xs.length)(hlen:xs.length<2^43)(hU:val ((xs.drop off).take (nl V+1))<V*BB):
  Mc prog 166 [.one (.own 0 1 off (nl V+1)),.one (.ints .u32 (aj V))] (.ints 147 .u32 xs)
   (fun r B'=>r= .aB [.one (.int .u32 (val ((xs.drop off).take (nl V+1))/V:Nat)),.one (.ints .u32 (aj (V*(val ((xs.drop off).take (nl V+1))/V))))]∧B'= .ints 147 .u32 xs):=by
 obtain⟨U,WM⟩:∃U,U=val ((xs.drop off).take (nl V+1)):=⟨_,rfl⟩;have hnV:=eH.2 hV;have Uw:=mG xs off (nl V+1) hx hl (by omega);have Ua:=oN (l:=nl V+1) hx hl;have hr:=kx hx off (nl V+1);have g1:xs.getD (off+nl V) 0=((U/BB^nl V%BB:Nat):Int):=by rw[WM,←dy hr,kf (by omega)]
 have g2:xs.getD (off+(nl V-1)) 0=((U/BB^(nl V-1)%BB:Nat):Int):=by rw[WM,←dy hr,kf (by omega)]
 have Yi:=j3 hr;rw[gV hl]at Yi;rw[←WM]at Uw Ua hU Yi⊢;have WH:=ku hV;obtain⟨t1,t2⟩:=gS hV;have ed:U/BB^nl V*BB+U/BB^(nl V-1)%BB=U/BB^(nl V-1):=by
  have:=vu U (nl V-1)
  rw[show nl V-1+1=nl V by omega]at this;exact this
 have d1:U/BB^nl V<BB:=by
  rw[Nat.div_lt_iff_lt_mul (Nat.pow_pos (by decide)),Nat.mul_comm,←Nat.pow_succ];exact Yi
 have d2:U/BB^nl V%BB=U/BB^nl V:=Nat.mod_eq_of_lt d1;have d3:=oY d1 (bc (U/BB^(nl V-1)));rw[ed]at d3;have hq0:=Ka (U:=U) rfl hV;have hq1:U/V<BB:=by rw[Nat.div_lt_iff_lt_mul hV,Nat.mul_comm];exact hU
 have V4:U/BB^(nl V-1)<BB*BB:=by
  rw[←ed]
  have:=bc (U/BB^(nl V-1))
  generalize U/BB^nl V=p at*
  generalize U/BB^(nl V-1)%BB=q at*
  unfold BB at*
  omega
 obtain⟨tp,Zc⟩:∃tp,tp=U/BB^(nl V-1):=⟨_,rfl⟩;obtain⟨hi,T7⟩:∃hi,hi=fg V:=⟨_,rfl⟩;have Zd:U/V≤tp/hi:=by rw[Zc,T7];exact hq0
 rw[←Zc]at d3 V4 g2;rw[←T7]at WH t1 t2;obtain⟨u1,Wn⟩:∃u1,u1=U/BB^nl V:=⟨_,rfl⟩;rw[d2]at g1;rw[←Wn]at g1 d1 d3;obtain⟨u0,hu0⟩:∃u0,u0=tp%BB:=⟨_,rfl⟩;have hu0l:u0<BB:=by rw[hu0];exact bc tp
 rw[←hu0]at g2 d3;have d4:IntKind.u64.wrap (u1:Int)=u1:=IntWalk.u64_in _ (by unfold BB at d1;omega);have d5:IntKind.u64.wrap (u0:Int)=u0:=IntWalk.u64_in _ (by unfold BB at hu0l;omega);have d6:IntKind.u64.wrap ((u1:Int)*4294967296)=(u1:Int)*4294967296:=IntWalk.u64_in _ (by unfold BB at d1;omega);have d7:IntKind.u64.wrap (hi:Int)=hi:=IntWalk.u64_in _ (by unfold BB at t2;omega);have d8:IntKind.u64.wrap ((tp:Int).tdiv hi)=((tp/hi:Nat):Int):=by
  have e3:(tp:Int).tdiv hi=((tp/hi:Nat):Int):=rfl
  have:=Nat.div_le_self tp hi
  generalize tp/hi=q at*
  rw[e3,IntWalk.u64_in _ (by unfold BB at V4;omega)]
 have x1:IntKind.i64.wrap ((nl V:Int)-1)=((nl V-1:Nat):Int):=by rw[IntWalk.i64_in _ (by omega)];omega
 refine mw func166 ⟨[0,1,4,5,6,7,8,32,42],[]⟩ ?_;simp only[Tryz.f166,ntmps166,iz,seval];simp only[vx,T,seval]
 simp(disch:=omega) only[lG,←X2,←Int.natCast_mul,Int.toNat_natCast,IntWalk.i64_in,IntWalk.u64_in,aA,aI,true_and,and_true,x1,g1,g2,WH,d4,d5,d6,d3,d7,d8]
 refine⟨⟨by omega,by omega⟩,⟨by omega,by omega⟩,⟨by omega,by omega⟩,by omega,?_⟩;refine⟨fun hq=>Lg ?_,fun hq=>Lg ?_⟩
 ·obtain⟨Q,hQ⟩:∃Q:Nat,(4294967295:Int)=Q:=⟨4294967295,rfl⟩;have hQ1:U/V≤Q:=by unfold BB at hq1;generalize U/V=q at*;omega
  have Ze:Q<BB:=by unfold BB;omega
  simp only[vx,T,seval];simp only[hQ];simp only[aA];refine Cg (pA V Q 1 (by omega) (by decide) (by rw[Nat.pow_one];exact Ze)) ?_;simp only[vx,T,seval];refine Lk (fun q:{q:Nat//U/V≤q∧q<BB}=>⟨[(0,.one (.own 0 1 off (nl V+1))),(1,.one (.ints .u32 (aj V))),(7,.one (.int .u64 q.1)),(8,.one (.ints .u32 (aj (V*q.1))))],[(0,⟨.ints 147 .u32 xs,true⟩)],3,51⟩) (fun q=>q.1) ⟨Q,hQ1,Ze⟩ ?_ (fun⟨q,Ul,Th⟩=>?_)
  ·refine Sa ?_;simp only[ry,seval,rz]
  have Yj:nl (V*q)≤nl V+1:=by
   have h1:=jy V q;have h2:nl q≤1:=aD (by rw[Nat.pow_one];exact Th);omega
  simp only[vx,T,seval];refine Cm 0 rfl trivial Uw ?_;rintro r B' ⟨rfl,rfl⟩ _;simp only[vx,T,seval];rw[Ua.2];refine Cg (fL U (V*q) (by omega) (by omega)) ?_;simp only[vx,T,seval];refine⟨fun hc=>Lg ?_,fun hc=>Lg ?_⟩
  ·have Vi:=kF hc;have WN:U/V<q:=by rw[Nat.div_lt_iff_lt_mul hV,Nat.mul_comm];exact Vi
   have WD:V*(q-1)=V*q-V:=by rw[Nat.mul_sub,Nat.mul_one]
   have hc5:0<q:=Nat.lt_of_le_of_lt (Nat.zero_le _) WN;have hc6:V≤V*q:=Nat.le_mul_of_pos_right _ hc5;have hc7:=Nat.le_sub_one_of_lt WN;have m1:IntKind.u64.wrap ((q:Int)-1)=((q-1:Nat):Int):=by rw[IntWalk.u64_in _ (by unfold BB at Th;omega)];omega
   simp only[vx,T,seval];simp only[m1];refine Cg (jU (V*q) V hc6 (by omega)) ?_;rw[←WD];simp only[vx,T,seval];refine Lq ⟨q-1,hc7,by omega⟩ ?_ ?_
   ·refine Sa ?_;simp only[ry,seval,rz]
   simp only;omega
  have Vi:=ja hc;have WN:q=U/V:=Nat.le_antisymm ((Nat.le_div_iff_mul_le hV).2 (by rw[Nat.mul_comm];exact Vi)) Ul;simp only[vx,T,seval];have m2:IntKind.u32.wrap (q:Int)=q:=IntWalk.u32_in _ (by unfold BB at Th;omega);rw[m2,WN]
 obtain⟨Q,hQ⟩:∃Q:Nat,Q=tp/hi:=⟨_,rfl⟩;rw[←hQ]at hq Zd⊢;have hQ1:U/V≤Q:=Zd;have Ze:Q<BB:=by unfold BB;omega
 simp only[vx,T,seval];simp only[aA];refine Cg (pA V Q 1 (by omega) (by decide) (by rw[Nat.pow_one];exact Ze)) ?_;simp only[vx,T,seval];refine Lk (fun q:{q:Nat//U/V≤q∧q<BB}=>⟨[(0,.one (.own 0 1 off (nl V+1))),(1,.one (.ints .u32 (aj V))),(7,.one (.int .u64 q.1)),(8,.one (.ints .u32 (aj (V*q.1))))],[(0,⟨.ints 147 .u32 xs,true⟩)],3,51⟩) (fun q=>q.1) ⟨Q,hQ1,Ze⟩ ?_ (fun⟨q,Ul,Th⟩=>?_)
 ·refine Sa ?_;simp only[ry,seval,rz]
 have Yj:nl (V*q)≤nl V+1:=by
  have h1:=jy V q;have h2:nl q≤1:=aD (by rw[Nat.pow_one];exact Th);omega
 simp only[vx,T,seval];refine Cm 0 rfl trivial Uw ?_;rintro r B' ⟨rfl,rfl⟩ _;simp only[vx,T,seval];rw[Ua.2];refine Cg (fL U (V*q) (by omega) (by omega)) ?_;simp only[vx,T,seval];refine⟨fun hc=>Lg ?_,fun hc=>Lg ?_⟩
 ·have Vi:=kF hc;have WN:U/V<q:=by rw[Nat.div_lt_iff_lt_mul hV,Nat.mul_comm];exact Vi
  have WD:V*(q-1)=V*q-V:=by rw[Nat.mul_sub,Nat.mul_one]
  have hc5:0<q:=Nat.lt_of_le_of_lt (Nat.zero_le _) WN;have hc6:V≤V*q:=Nat.le_mul_of_pos_right _ hc5;have hc7:=Nat.le_sub_one_of_lt WN;have m1:IntKind.u64.wrap ((q:Int)-1)=((q-1:Nat):Int):=by rw[IntWalk.u64_in _ (by unfold BB at Th;omega)];omega
  simp only[vx,T,seval];simp only[m1];refine Cg (jU (V*q) V hc6 (by omega)) ?_;rw[←WD];simp only[vx,T,seval];refine Lq ⟨q-1,hc7,by omega⟩ ?_ ?_
  ·refine Sa ?_;simp only[ry,seval,rz]
  simp only;omega
 have Vi:=ja hc;have WN:q=U/V:=Nat.le_antisymm ((Nat.le_div_iff_mul_le hV).2 (by rw[Nat.mul_comm];exact Vi)) Ul;simp only[vx,T,seval];have m2:IntKind.u32.wrap (q:Int)=q:=IntWalk.u32_in _ (by unfold BB at Th;omega);rw[m2,WN]
open Go Go.Eng
theorem pH (a b:Nat)(h0:0<b)(ha:nl a<2^42)(hb:nl b<2^42):Pr prog 127 [.one (.ints .u32 (aj a)),.one (.ints .u32 (aj b))] (.aB [.one (.ints .u32 (aj (a/b))),.one (.ints .u32 (aj (a%b)))]):=by
 have Z1:=eH.2 h0;refine pw func127 ⟨[0,1,4,5,6,7,8,9,10,11,12,13,14,15,16,17,18,19,23,27,42,77,105,114],[]⟩ ?_;simp only[Tryz.f127,ntmps127,iz,seval];simp only[vx,T,seval];refine Cg (fL a b (by omega) (by omega)) ?_;simp only[vx,T,seval];refine⟨fun h1=>Lg ?_,fun h1=>Lg ?_⟩
 ·simp only[vx,T,seval];have RE:a<b:=kF h1;refine Va ?_;simp only[cU,aY,ry,seval,Nat.div_eq_of_lt RE,Nat.mod_eq_of_lt RE,bp]
 have hle:b≤a:=ja h1;simp only[vx,T,seval];refine⟨fun h2=>Lg ?_,fun h2=>Lg ?_⟩
 ·simp only[vx,T,seval];have R4:a<2^64:=by have:=cF.1 (show nl a≤2 by omega);unfold BB at this;omega
  refine Cg (rO a R4) ?_;simp only[vx,T,seval];refine Cg (rO b (by omega)) ?_;simp only[vx,T,seval];refine⟨by omega,?_⟩;have e1:IntKind.u64.wrap ((a:Int).tdiv b)=((a/b:Nat):Int):=by
   have e3:(a:Int).tdiv b=((a/b:Nat):Int):=rfl
   have:=Nat.div_le_self a b
   generalize a/b=q at*
   rw[e3,IntWalk.u64_in _ (by omega)]
  have e2:(a:Int).tmod b=((a%b:Nat):Int):=rfl;simp only[e1,e2];refine Cg (ie (a/b) (Nat.lt_of_le_of_lt (Nat.div_le_self a b) R4)) ?_;simp only[vx,T,seval];refine⟨by omega,?_⟩;simp only[e2];refine Cg (ie (a%b) (Nat.lt_of_le_of_lt (Nat.mod_le a b) R4)) ?_;simp only[vx,T,seval];refine Va ?_;simp only[cU,aY,ry,seval]
 simp only[vx,T,seval];refine⟨fun h3=>Lg ?_,fun h3=>Lg ?_⟩
 ·have Wi:nl b=1:=by omega
  have Uq:b<BB:=by have:=cF.1 (show nl b≤1 by omega);simpa using this
  have ZT:=Nat.mod_lt a h0;have Yg:IntKind.u64.wrap ((a%b:Nat):Int)=((a%b:Nat):Int):=by
   generalize a%b=m at*
   exact IntWalk.u64_in _ (by unfold BB at Uq;omega)
  simp only[vx,T,seval]
  simp(disch:=omega) only[lG,←X2,←Int.natCast_mul,Int.toNat_natCast,IntWalk.i64_in,IntWalk.u64_in,aA,aI,true_and,and_true,Nat.pow_zero,Nat.div_one,Nat.mod_eq_of_lt Uq]
  refine⟨by omega,Cg (Hb a b (by omega) h0 Uq) ?_⟩;simp only[vx,T,seval];simp only[Yg];refine Cg (ie (a%b) (by unfold BB at Uq;omega)) ?_;simp only[vx,T,seval];refine Va ?_;simp only[cU,aY,ry,seval]
 simp only[vx,T,seval];have ht:=ku h0;obtain⟨t1,t2⟩:=gS h0;obtain⟨s1,s2,s3⟩:=sJ h0;have s4:=HA h0;refine Cg (pr b h0 (by omega)) ?_;simp only[vx,T,seval];have UJ:bl (fg b)≤32:=y6 (by unfold BB at t2;omega);have e0:IntKind.i64.wrap (IntKind.i64.wrap (32*(nl b:Nat))-((32*(nl b-1)+bl (fg b):Nat):Int))=((jD b:Nat):Int):=by
  have e1:IntKind.i64.wrap (32*(nl b:Nat))=32*(nl b:Nat):=IntWalk.i64_in _ (by omega);rw[e1,IntWalk.i64_in _ (by omega)];unfold jD;omega
 simp only[e0];refine cK.fresh (oe a (jD b) (by omega) s1) ?_;simp only[vx,T,seval];refine cK.fresh (oe b (jD b) (by omega) s1) ?_;simp only[vx,T,seval,aM];have W9:2*(a*2^jD b)<BB^(nl a+1):=by
  have h5:=cC a;have h6:2^jD b≤2^31:=Nat.pow_le_pow_right (by decide) (by omega);have h7:a*2^jD b≤a*2^31:=Nat.mul_le_mul_left _ h6;have h8:BB^(nl a+1)=BB^nl a*BB:=Nat.pow_succ _ _;have h9:a*(2*2^31)<BB^nl a*BB:=Nat.mul_lt_mul_of_lt_of_le h5 (by decide) (by decide);omega
 have YY:val (ig (nl b+1) (b*2^jD b))=b*2^jD b:=jd (Nat.lt_of_lt_of_le s2 (Nat.pow_le_pow_right (by decide) (by omega)));rw[List.take_of_length_le (by rw[aM];exact Nat.le_refl _)];refine Cg (bH _ (fY _ _) (by rw[aM];omega)) ?_;rw[YY];have hN:F1 (b*2^jD b) (nl (b*2^jD b)):=⟨rfl,by omega,by rw[s4];exact s3⟩;obtain⟨A,hA⟩:∃A,A=a*2^jD b:=⟨_,rfl⟩;obtain⟨V,hV⟩:∃V,V=b*2^jD b:=⟨_,rfl⟩;have hmono:nl b≤nl a:=bf hle;rw[←hA]at W9⊢;rw[←hV]at s4 hN⊢;have hVp:=hN.pos;clear YY s2 s3;simp only[vx,T,seval,aM];have e4:IntKind.i64.wrap ((nl a:Int)-(nl V:Nat))=((nl a+1-nl V:Nat):Int)-1:=by rw[IntWalk.i64_in _ (by omega)];omega
 simp(disch:=omega) only[lG,←X2,←Int.natCast_mul,Int.toNat_natCast,IntWalk.i64_in,IntWalk.u64_in,aA,aI,true_and,and_true,e4]
 refine⟨⟨by omega,by omega,by omega,by omega⟩,Lk (fun y:{y:Nat×List Int×List Int//je A V (nl a+1) y.1 y.2.1 y.2.2∧y.2.2.length=nl a}=>⟨[(10,.one (.int .i64 (jD b))),(11,.one (.own 1 1 0 (nl a+1))),(12,.one (.ints .u32 (aj V))),(13,.one (.own 2 1 0 (nl a))),(14,.one (.int .i64 ((y.1.1:Int)-1)))],[(1,⟨.ints 147 .u32 y.1.2.1,true⟩),(2,⟨.ints 147 .u32 y.1.2.2,true⟩)],3,128⟩) (fun y=>y.1.1) ⟨(nl a+1-nl V,_,List.replicate (nl a) 0),je.init hN (by omega) W9 (by omega),by simp⟩ ?_ (fun⟨⟨j,us,qs⟩,hy,Us⟩=>?_)⟩
 ·refine Sa ?_;simp only[ry,seval,rz];rfl
 simp only at hy Us;have hul:=hy.ulen;have Sf:=hy.le;have Vy:=hy.uin;simp only[vx,T,seval];refine⟨fun h6=>Lg ?_,fun h6=>Lg ?_⟩
 ·obtain⟨i,rfl⟩:∃i,j=i+1:=⟨j-1,by omega⟩;have Uj:=hy.at;have Uk:val us<BB^(i+nl V+1):=by
   refine Nat.lt_of_lt_of_le Uj.lt ?_
   have:=Nat.mul_le_mul_right (BB^(i+1)) (Nat.le_of_lt Uj.dz.lt)
   rw[←Nat.pow_add,show nl V+(i+1)=i+nl V+1 by omega]at this;exact this
  have hUv:val ((us.drop i).take (nl V+1))=val us/BB^i:=by
   rw[uv (Vy.drop i),ij Vy,Nat.mod_eq_of_lt];rw[Nat.div_lt_iff_lt_mul (Nat.pow_pos (by decide)),Nat.mul_comm,←Nat.pow_add,←Nat.add_assoc];exact Uk
  have Yi:val us/BB^i<BB^(nl V+1):=by
   rw[Nat.div_lt_iff_lt_mul (Nat.pow_pos (by decide)),Nat.mul_comm,←Nat.pow_add,←Nat.add_assoc];exact Uk
  have Z4:=AM us i V Vy hVp (by omega) (by omega) (by rw[hUv];exact Uj.U.1);have Uw:=mG us i (nl V+1) Vy (by omega) (by omega);have Ua:=oN (off:=i) (l:=nl V+1) Vy (by omega);rw[hUv]at Z4 Uw Ua;have hq:=hy.q;have x0:((i+1:Nat):Int)-1=(i:Int):=by omega
  have x3:IntKind.i64.wrap ((i:Int)+(nl V:Nat))=((i+nl V:Nat):Int):=by rw[←X2,IntWalk.i64_in _ (by omega)]
  have p1:IntKind.i64.wrap (((i+nl V:Nat):Int)+1)=((i+nl V+1:Nat):Int):=by rw[IntWalk.i64_in _ (by omega)];omega
  have p2:(((i+nl V+1:Nat):Int)-(i:Int)).toNat=nl V+1:=by omega
  obtain⟨U,WM⟩:∃U,U=val us/BB^i:=⟨_,rfl⟩;rw[←WM]at Z4 Uw Ua Yi hq;obtain⟨q,Wj⟩:∃q,q=U/V:=⟨_,rfl⟩;rw[←Wj]at Z4 hq;rw[x0];simp only[vx,T,seval]
  simp(disch:=omega) only[lG,←X2,←Int.natCast_mul,Int.toNat_natCast,IntWalk.i64_in,IntWalk.u64_in,aA,aI,true_and,and_true,x3,p1,p2]
  refine⟨⟨by omega,by omega,by omega⟩,Cm 1 rfl trivial Z4 ?_⟩;rintro r B' ⟨rfl,rfl⟩ _;simp only[vx,T,seval];refine⟨by omega,Cm 1 rfl trivial Uw ?_⟩;rintro r B' ⟨rfl,rfl⟩ _;simp only[vx,T,seval];have hqV:V*q≤U:=by rw[Wj,Nat.mul_comm];exact Nat.div_mul_le_self U V
  refine Cm 1 rfl trivial (wS us i U (V*q) Vy (by omega) (by omega) Ua.2 hqV (by omega)) ?_;rintro r B' ⟨rfl,rfl⟩ _;simp only[vx,T,seval];obtain⟨D,hD⟩:∃D,D=U-V*q:=⟨_,rfl⟩;rw[←hD];have YZ:D<BB^(nl V+1):=by omega
  have hDn:nl D≤nl V+1:=aD YZ;have hUg:∀k,k<nl V+1→us.getD (i+k) 0=((U/BB^k%BB:Nat):Int):=fun k hk=>by
   rw[WM,←hUv,←dy (kx Vy i (nl V+1)),kf hk]
  refine Lk (fun z:{z:Nat×List Int//pD us i U D (nl V+1) z.1 z.2}=>⟨[(10,.one (.int .i64 (jD b))),(11,.one (.own 1 1 0 (nl a+1))),(12,.one (.ints .u32 (aj V))),(13,.one (.own 2 1 0 (nl a))),(14,.one (.int .i64 i)),(15,.one (.own 1 1 i (nl V+1))),(18,.one (.ints .u32 (aj D))),(19,.one (.int .i64 z.1.1))],[(1,⟨.ints 147 .u32 z.1.2,true⟩),(2,⟨.ints 147 .u32 (qs.set i (q:Int)),true⟩)],3,128⟩) (fun z=>nl V+1-z.1.1) ⟨(0,us),pD.init i U D (nl V+1) Vy⟩ ?_ (fun⟨⟨k,zs⟩,hz⟩=>?_)
  ·refine Sa ?_;simp only[ry,seval,rz]
  simp only at hz;have SP:=hz.len;have hzk:=hz.le;simp only[vx,T,seval];refine⟨fun hk=>Lg ?_,fun hk=>Lg ?_⟩
  ·simp only[vx,T,seval];have Yk:k<nl V+1:=by omega
   have hdk:=bc (D/BB^k);have k1:=wI k (by omega);refine⟨⟨by omega,by omega⟩,fun h'=>Lg ?_,fun h'=>Lg ?_⟩
   ·simp only[vx,T,seval];simp only[List.set_set,k1,lG];refine⟨⟨by omega,by omega⟩,by omega,Lq ⟨(k+1,zs.set (i+k) ((D/BB^k%BB:Nat):Int)),hz.put Yk (by omega) (hUg k Yk) rfl⟩ ?_ ?_⟩
    ·refine Sa ?_;simp only[ry,seval,rz]
    simp only;omega
   simp only[vx,T,seval];simp only[k1];refine Lq ⟨(k+1,zs.set (i+k) 0),hz.put Yk (by omega) (hUg k Yk) (iW (x:=D) (k:=k) (by omega))⟩ ?_ ?_
   ·refine Sa ?_;simp only[ry,seval,rz]
   simp only;omega
  have Yk:k=nl V+1:=by omega
  subst Yk;have Ut:=hz.done Yi YZ;have i1:IntKind.i64.wrap ((i:Int)-1)=(i:Int)-1:=by rw[IntWalk.i64_in _ (by omega)]
  have hUle:BB^i*U≤val us:=by rw[WM];exact Nat.mul_div_le _ _
  have RW:val zs=val us-BB^i*(val us/BB^i/V*V):=by
   rw[←WM,←Wj,Nat.mul_comm q V];have h1:BB^i*U=BB^i*D+BB^i*(V*q):=by rw[←Nat.mul_add];congr 1;omega
   omega
  have Zf:=hy.step SP hz.inr RW;rw[←WM,←Wj]at Zf;simp only[vx,T,seval];simp only[i1];refine Lq ⟨(i,zs,_),Zf,by simp only[List.length_set];exact Us⟩ ?_ ?_
  ·refine Sa ?_;simp only[ry,seval,rz]
  simp only;omega
 have XI:j=0:=by omega
 subst XI;subst hA hV;obtain⟨q1,q2,q3⟩:=hy.done h0;have hqi:=hy.qin;clear hy;simp only[vx,T,seval];rw[List.take_of_length_le (by omega)];refine Cg (bH qs hqi (by omega)) ?_;rw[q1];simp only[vx,T,seval];rw[List.take_of_length_le (by omega)];refine Cg (bH us Vy (by omega)) ?_;rw[q2];have q4:nl (a%b*2^jD b)≤nl b:=by rw[←q2,←s4];exact aD q3
 simp only[vx,T,seval];refine Cg (Cn (a%b*2^jD b) (jD b) (by omega) s1) ?_;rw[Nat.mul_div_cancel _ (Nat.pow_pos (by decide))];simp only[vx,T,seval];refine Va ?_;simp only[cU,aY,ry,seval]
end Go.Proofs.YtchkplkghknabaaGreat
namespace Go.Eng
def zs (z:Int):Bool:=decide (z<0)
def zm (z:Int):List Int:=aj z.natAbs
def zn (z:Int):Nat:=nl z.natAbs
def fK (s:Bool)(n:Nat):Int:=if s then-(n:Int)else n
theorem Cf (s:Bool)(n:Nat):zs (fK s n)=(s&&decide (0<n)):=by
 unfold zs fK
 cases s
 ·simp
 simp only[if_true,Bool.true_and];congr 1;simp only[eq_iff_iff];omega
theorem jr (s:Bool)(n:Nat):(fK s n).natAbs=n:=by unfold fK;split<;>omega
theorem Cr (s:Bool)(n:Nat):zm (fK s n)=aj n:=by unfold zm;rw[jr]
theorem b5 (z:Int):fK (zs z) z.natAbs=z:=by unfold fK zs;simp only[decide_eq_true_eq];split<;>omega
theorem lf (z:Int):val (zm z)=z.natAbs:=gH _
theorem qE (z:Int):bI (zm z):=bI.aj _
theorem aV (z:Int):(zm z).length=zn z:=rfl
theorem ey {z:Int}:zn z=0↔z=0:=by unfold zn;rw[fT];omega
theorem JK:zm 0=[]:=bp
theorem kN {z:Int}:zs z=true↔z<0:=by unfold zs;simp
theorem dF {z:Int}:zs z=false↔0≤z:=by unfold zs;simp
theorem add_same {a b:Int}(h:zs a=zs b):fK (zs a) (a.natAbs+b.natAbs)=a+b:=by
 unfold fK zs at*
 have h:a<0↔b<0:=by simpa using h
 simp only[decide_eq_true_eq]
 split<;>omega
theorem yI {a b:Int}(h:zs a≠zs b)(hl:a.natAbs≤b.natAbs):fK (zs b) (b.natAbs-a.natAbs)=a+b:=by
 unfold fK zs at*
 have h:¬(a<0↔b<0):=by simpa using h
 simp only[decide_eq_true_eq]
 split<;>omega
theorem zQ {a b:Int}(h:zs a≠zs b)(hl:b.natAbs≤a.natAbs):fK (zs a) (a.natAbs-b.natAbs)=a+b:=by
 unfold fK zs at*
 have h:¬(a<0↔b<0):=by simpa using h
 simp only[decide_eq_true_eq]
 split<;>omega
theorem Ea (s t:Bool)(m n:Nat):fK (s !=t) (m*n)=fK s m*fK t n:=by
 cases s<;>cases t<;>simp [fK,Int.neg_mul,Int.mul_neg]
theorem zX (a b:Int):fK (zs a !=zs b) (a.natAbs*b.natAbs)=a*b:=by
 rw[Ea,b5,b5]
theorem Ai (a:Int):fK (!zs a) a.natAbs= -a:=by
 unfold fK zs;simp only[Bool.not_eq_true',decide_eq_false_iff_not]
 split<;>omega
theorem jK {a b q r:Int}(h:a=b*q+r)(hr:(0≤r∧r<b)∨(b<r∧r≤0)):a.fdiv b=q∧a.fmod b=r:=by
 have hb:b≠0:=by omega
 have e:b*(a.fdiv b)+a.fmod b=a:=Int.mul_fdiv_add_fmod a b;have hm:(0<b→0≤a.fmod b∧a.fmod b<b)∧(b<0→b<a.fmod b∧a.fmod b≤0):=by
  refine⟨fun hp=>⟨Int.fmod_nonneg_of_pos a hp,Int.fmod_lt_of_pos a hp⟩,fun hn=>?_⟩;have h1:a.fmod b= -((-a).fmod (-b)):=by rw[Int.neg_fmod_neg];omega
  have h2:=Int.fmod_nonneg_of_pos (-a) (show 0< -b by omega);have h3:=Int.fmod_lt_of_pos (-a) (show 0< -b by omega);omega
 have hq:a.fdiv b=q:=by
  generalize a.fdiv b=q' at*
  generalize a.fmod b=r' at*
  have e2:b*(q-q')=r'-r:=by rw[Int.mul_sub];omega
  rcases Int.lt_or_lt_of_ne hb with Uq|Uq
  ·have:=hm.2 Uq
   rcases Int.lt_trichotomy (q-q') 0 with h3|h3|h3
   ·have:b*(q-q')≥b*(-1):=Int.mul_le_mul_of_nonpos_left (by omega) (by omega)
    omega
   ·omega
   have:b*(q-q')≤b*1:=Int.mul_le_mul_of_nonpos_left (by omega) (by omega)
   omega
  have:=hm.1 Uq
  rcases Int.lt_trichotomy (q-q') 0 with h3|h3|h3
  ·have:b*(q-q')≤b*(-1):=Int.mul_le_mul_of_nonneg_left (by omega) (by omega)
   omega
  ·omega
  have:b*1≤b*(q-q'):=Int.mul_le_mul_of_nonneg_left (by omega) (by omega)
  omega
 exact⟨hq,by rw[hq]at e;omega⟩
theorem pS {a b:Int}(hb:b≠0)(h:zs a=zs b∨a.natAbs%b.natAbs=0):fK (zs a !=zs b) (a.natAbs/b.natAbs)=a.fdiv b∧fK (zs b) (a.natAbs%b.natAbs)=a.fmod b:=by
 have e:=Nat.div_add_mod a.natAbs b.natAbs;have l:=Nat.mod_lt a.natAbs (show 0<b.natAbs by omega);have ha:=b5 a;have Sl:=b5 b;have key:=jK (a:=a) (b:=b) (q:=fK (zs a !=zs b) (a.natAbs/b.natAbs)) (r:=fK (zs b) (a.natAbs%b.natAbs)) ?_ ?_
 ·exact⟨key.1.symm,key.2.symm⟩
 ·have e':(a.natAbs:Int)=b.natAbs*(a.natAbs/b.natAbs:Nat)+(a.natAbs%b.natAbs:Nat):=by rw[←Int.natCast_mul,←X2,e]
  have S9:zs a≠zs b→((a.natAbs%b.natAbs:Nat):Int)=0:=fun RT=>by rcases h with h|h;exact absurd h RT;simp[h]
  have e2:b*fK (zs a !=zs b) (a.natAbs/b.natAbs)=fK (zs b) b.natAbs*fK (zs a !=zs b) (a.natAbs/b.natAbs):=by rw[Sl]
  rw[e2];refine ha.symm.trans ?_
  generalize a.natAbs/b.natAbs=q at*
  generalize a.natAbs%b.natAbs=r at*
  generalize a.natAbs=m at*
  generalize b.natAbs=n at*
  generalize zs a=sa at*
  generalize zs b=sb at*
  cases sa<;>cases sb<;>simp [fK]at S9⊢
  ·omega
  ·subst S9;rw[Int.neg_mul_neg];simp at e'⊢;omega
  ·subst S9;simp at e'⊢;rw[Int.mul_neg];omega
  rw[Int.neg_mul];omega
 cases Zg:zs b
 ·left
  have:=dF.1 Zg
  simp only[fK,Bool.false_eq_true,if_false];omega
 right
 have:=kN.1 Zg
 simp only[fK,if_true];omega
theorem EX {a b:Int}(hb:b≠0)(h:zs a≠zs b)(hr:0<a.natAbs%b.natAbs):fK (zs a !=zs b) (a.natAbs/b.natAbs+1)=a.fdiv b∧fK (zs b) (b.natAbs-a.natAbs%b.natAbs)=a.fmod b:=by
 have e:=Nat.div_add_mod a.natAbs b.natAbs;have l:=Nat.mod_lt a.natAbs (show 0<b.natAbs by omega);have ha:=b5 a;have Sl:=b5 b;have key:=jK (a:=a) (b:=b) (q:=fK (zs a !=zs b) (a.natAbs/b.natAbs+1)) (r:=fK (zs b) (b.natAbs-a.natAbs%b.natAbs)) ?_ ?_
 ·exact⟨key.1.symm,key.2.symm⟩
 ·have e':(a.natAbs:Int)=b.natAbs*(a.natAbs/b.natAbs:Nat)+(a.natAbs%b.natAbs:Nat):=by rw[←Int.natCast_mul,←X2,e]
  have e3:b*fK (zs a !=zs b) (a.natAbs/b.natAbs+1)=fK (zs b) b.natAbs*fK (zs a !=zs b) (a.natAbs/b.natAbs+1):=by rw[Sl]
  have e2:((b.natAbs-a.natAbs%b.natAbs:Nat):Int)=b.natAbs-(a.natAbs%b.natAbs:Nat):=by omega
  rw[e3];refine ha.symm.trans ?_
  generalize a.natAbs/b.natAbs=q at*
  generalize a.natAbs%b.natAbs=r at*
  generalize a.natAbs=m at*
  generalize b.natAbs=n at*
  generalize zs a=sa at*
  generalize zs b=sb at*
  cases sa<;>cases sb<;>simp [fK]at h⊢
  ·rw[e2,Int.neg_add,Int.mul_add,Int.neg_mul_neg];omega
  rw[e2,Int.neg_add,Int.mul_add,Int.mul_neg];omega
 cases Zg:zs b
 ·left
  have:=dF.1 Zg
  simp only[fK,Bool.false_eq_true,if_false];omega
 right
 have:=kN.1 Zg
 simp only[fK,if_true];omega
end Go.Eng
namespace Go.Eng
def b9 (z:Int):Int:=if z=0 then 0 else if z<0 then-1 else 1
theorem cY (a b:Int):zn (a*b)≤zn a+zn b:=by unfold zn;rw[Int.natAbs_mul];exact jy _ _
theorem HT (a:Int):zn (-a)=zn a:=by unfold zn;rw[Int.natAbs_neg]
theorem oI (a b:Int):zn (a+b)≤max (zn a) (zn b)+1:=
 Nat.le_trans (bf (Int.natAbs_add_le a b)) (tx _ _)
theorem Cs (s:Bool)(n:Nat):zn (fK s n)=nl n:=by unfold zn;rw[jr]
theorem rL {a b:Int}(h:a.natAbs≤b.natAbs):zn a≤zn b:=bf h
theorem uS (x y:Int): -1≤b9 x*b9 y∧b9 x*b9 y≤1:=by
 unfold b9
 (repeat' split)<;>simp
theorem yV {x y:Int}:b9 x*b9 y<0↔(x<0∧0<y)∨(0<x∧y<0):=by
 unfold b9
 (repeat' split)<;>simp<;>omega
theorem Eb (a b:Int):a-fK (zs a !=zs b) (a.natAbs/b.natAbs)*b=fK (zs a) (a.natAbs%b.natAbs):=by
 have e1:fK (zs a !=zs b) (a.natAbs/b.natAbs)*b=fK (zs a) (a.natAbs/b.natAbs*b.natAbs):=by
  have:=Ea (zs a !=zs b) (zs b) (a.natAbs/b.natAbs) b.natAbs
  rw[b5 b]at this;rw[←this]
  congr 1
  cases zs a<;>cases zs b<;>rfl
 rw[e1];have h:=Nat.div_add_mod a.natAbs b.natAbs;rw[Nat.mul_comm]at h
 generalize a.natAbs/b.natAbs*b.natAbs=p at h⊢
 generalize a.natAbs%b.natAbs=r at h⊢
 unfold fK zs;simp only[decide_eq_true_eq]
 split<;>omega
theorem Bc {a b q r:Int}(h0:b≠0)(hq:q=fK (zs a !=zs b) (a.natAbs/b.natAbs))(hr:r=a-q*b):
  (b9 r*b9 b<0→q-1=a.fdiv b∧r+b=a.fmod b)∧(¬b9 r*b9 b<0→q=a.fdiv b∧r=a.fmod b):=by
 have hl:r.natAbs<b.natAbs:=by
  rw[hr,hq,Eb,jr];exact Nat.mod_lt _ (by omega)
 rw[yV];refine⟨fun h=>?_,fun h=>?_⟩
 ·have:=jK (a:=a) (b:=b) (q:=q-1) (r:=r+b) (by rw[Int.mul_sub,hr,Int.mul_comm b q];omega) (by omega)
  exact⟨this.1.symm,this.2.symm⟩
 have:=jK (a:=a) (b:=b) (q:=q) (r:=r) (by rw[hr,Int.mul_comm b q];omega) (by omega)
 exact⟨this.1.symm,this.2.symm⟩
end Go.Eng
namespace Go.Proofs.YtchkplkghknabaaGreat
open Go.Proofs.Tryz
open Go Go.Eng
def ZV (z:Int):V:=.agg [.bool (zs z),.ints .u32 (zm z)]
theorem bV (b:Bool)(n:Nat)(hn:nl n<2^60):Pr prog 148 [.one (.bool b),.one (.ints .u32 (aj n))] (ZV (fK b n)):=by
 have h:=yb b (aj n) (bI.aj n) (by rw[dY];omega);rw[gH]at h;unfold ZV;rw[Cf,Cr];exact h
theorem fR (z:Int)(hz:zn z<2^60):Pr prog 185 [.one (.ints .u32 (zm z))] (.one (.ints .u32 (aj z.natAbs))):=by
 have h:=du (zm z) (qE z) (by rw[aV];omega);rw[lf]at h;exact h
theorem yy (n:Nat)(hn:nl n<2^44):Pr prog 147 [.one (.ints .u32 (aj n))] (.one (.ints .u32 (aj n))):=jG _ (by rw[dY];exact hn)
theorem gR (z:Int)(h1: -9223372036854775808≤z)(h2:z≤9223372036854775807):Pr prog 106 [.one (.int .i64 z)] (ZV z):=by
 have hu:z.natAbs<2^64:=by omega
 have e0:fK (decide (z<0)) z.natAbs=z:=b5 z;have hn:=aD (n:=z.natAbs) (k:=2) (by unfold BB;omega);refine pw func106 ⟨[0,2,3,7],[]⟩ ?_;simp only[Tryz.f106,ntmps106,iz,seval];simp only[vx,T,seval,ZV];refine⟨fun h=>Lg ?_,fun h=>Lg ?_⟩
 ·have e1:IntKind.u64.wrap (0-IntKind.u64.wrap z)=(z.natAbs:Int):=by rw[aT,aT];omega
  simp only[vx,T,seval,ZV];simp only[e1];refine Cg (dj z.natAbs hu) ?_;simp only[vx,T,seval,ZV];refine Cg (bV _ z.natAbs (by omega)) ?_;rw[e0];simp only[vx,T,seval,ZV];refine Va ?_;simp only[cU,aY,ry,seval,ZV]
 have e1:IntKind.u64.wrap z=(z.natAbs:Int):=by rw[aT];omega
 simp only[vx,T,seval,ZV];simp only[e1];refine Cg (dj z.natAbs hu) ?_;simp only[vx,T,seval,ZV];refine Cg (bV _ z.natAbs (by omega)) ?_;rw[e0];simp only[vx,T,seval,ZV];refine Va ?_;simp only[cU,aY,ry,seval,ZV]
theorem vh (a:Int)(ha:zn a<2^42):Pr prog 191 [ZV a] (ZV (-a)):=by
 refine pw func191 ⟨[0,1,2],[]⟩ ?_;simp only[Tryz.f191,ntmps191,iz,seval];simp only[vx,T,seval,ZV];refine Cg (fR a (by omega)) ?_;simp only[vx,T,seval,ZV];refine Cg (yy a.natAbs (by unfold zn at ha;omega)) ?_;simp only[vx,T,seval,ZV];refine Cg (bV _ a.natAbs (by unfold zn at ha;omega)) ?_;rw[Ai];simp only[vx,T,seval,ZV];refine Va ?_;simp only[cU,aY,ry,seval,ZV]
theorem bK (a b:Int)(ha:zn a<2^42)(hb:zn b<2^42):Pr prog 218 [ZV a,ZV b] (ZV (a*b)):=by
 have hm:=jy a.natAbs b.natAbs;unfold zn at ha hb;refine pw func218 ⟨[0,1,2,3,4],[]⟩ ?_;simp only[Tryz.f218,ntmps218,iz,seval];simp only[vx,T,seval,ZV];refine Cg (fR a (by unfold zn;omega)) ?_;simp only[vx,T,seval,ZV];refine Cg (fR b (by unfold zn;omega)) ?_;simp only[vx,T,seval,ZV];refine Cg (yN a.natAbs b.natAbs (by omega) (by omega)) ?_;simp only[vx,T,seval,ZV];refine Cg (bV _ (a.natAbs*b.natAbs) (by omega)) ?_;rw[zX];simp only[vx,T,seval,ZV];refine Va ?_;simp only[cU,aY,ry,seval,ZV]
theorem qF (a b:Int)(ha:zn a<2^42)(hb:zn b<2^42):Pr prog 232 [ZV a,ZV b] (ZV (a+b)):=by
 have hm:=tx a.natAbs b.natAbs;unfold zn at ha hb;refine pw func232 ⟨[0,1,2,3,4,5,6,17,27],[]⟩ ?_;simp only[Tryz.f232,ntmps232,iz,seval];simp only[vx,T,seval,ZV];refine Cg (fR a (by unfold zn;omega)) ?_;simp only[vx,T,seval,ZV];refine Cg (fR b (by unfold zn;omega)) ?_;simp only[vx,T,seval,ZV,beq_iff_eq];refine⟨fun h=>Lg ?_,fun h=>Lg ?_⟩
 ·simp only[vx,T,seval,ZV];refine Cg (oh a.natAbs b.natAbs (by omega) (by omega)) ?_;simp only[vx,T,seval,ZV];refine Cg (bV _ (a.natAbs+b.natAbs) (by omega)) ?_;rw[add_same h];simp only[vx,T,seval,ZV];refine Va ?_;simp only[cU,aY,ry,seval,ZV]
 have h:=beq_eq_false_iff_ne.1 h;simp only[vx,T,seval,ZV];refine Cg (gL a.natAbs b.natAbs (by omega) (by omega)) ?_;simp only[vx,T,seval,ZV];refine⟨fun h2=>Lg ?_,fun h2=>Lg ?_⟩
 ·have h3:=kF h2;simp only[vx,T,seval,ZV];refine Cg (mR b.natAbs a.natAbs (by omega) (by omega)) ?_;simp only[vx,T,seval,ZV];refine Cg (bV _ (b.natAbs-a.natAbs) (Nat.lt_of_le_of_lt (bf (Nat.sub_le _ _)) (by omega))) ?_;rw[yI h (by omega)];simp only[vx,T,seval,ZV];refine Va ?_;simp only[cU,aY,ry,seval,ZV]
 have h3:=ja h2;simp only[vx,T,seval,ZV];refine Cg (mR a.natAbs b.natAbs (by omega) (by omega)) ?_;simp only[vx,T,seval,ZV];refine Cg (bV _ (a.natAbs-b.natAbs) (Nat.lt_of_le_of_lt (bf (Nat.sub_le _ _)) (by omega))) ?_;rw[zQ h h3];simp only[vx,T,seval,ZV];refine Va ?_;simp only[cU,aY,ry,seval,ZV]
theorem fP (a:Int)(ha:zn a<2^42):Pr prog 205 [ZV a] (.one (.int .i64 (b9 a))):=by
 refine pw func205 ⟨[0,1,2,3,9],[]⟩ ?_;simp only[Tryz.f205,ntmps205,iz,seval];simp only[vx,T,seval,ZV];refine Cg (fR a (by omega)) ?_;simp only[vx,T,seval,ZV];refine⟨fun h=>Lg ?_,fun h=>Lg ?_⟩
 ·have h0:a=0:=by have:=fT (n:=a.natAbs);omega
  simp only[vx,T,seval,ZV];subst h0;exact Ve rfl
 have h0:a≠0:=by rintro rfl;exact h (by simp[iD])
 simp only[vx,T,seval,ZV];refine⟨fun h2=>Lg ?_,fun h2=>Lg ?_⟩
 ·simp only[vx,T,seval,ZV];refine Ve ?_;unfold b9;rw[if_neg h0,if_pos (kN.1 h2)]
 simp only[vx,T,seval,ZV];refine Ve ?_
 have:=dF.1 h2
 unfold b9;rw[if_neg h0,if_neg (by omega)]
open Go Go.Eng
theorem nK {a b:Nat}(hb:0<b):nl (a%b)≤nl b:=bf (Nat.le_of_lt (Nat.mod_lt a hb))
theorem qt (a b:Int)(ha:zn a<2^42)(hb:zn b<2^42):Pr prog 215 [ZV a,ZV b] (ZV (Int.gcd a b)):=by
 have hg:Int.gcd a b=Nat.gcd a.natAbs b.natAbs:=rfl;unfold zn at ha hb;refine pw func215 ⟨[0,1,2,3,4,5,6,8,9,10,29,40,49],[(9,(.cons 4 [2,3] (.cons 5 [] .nil .nil) .nil))]⟩ ?_;simp only[Tryz.f215,ntmps215,iz,seval];simp only[vx,T,seval,ZV];refine Cg (fR a (by unfold zn;omega)) ?_;simp only[vx,T,seval,ZV];refine Cg (fR b (by unfold zn;omega)) ?_;simp only[vx,T,seval,ZV];refine Lk (fun y:{y:Nat×Nat//Nat.gcd y.1 y.2=Nat.gcd a.natAbs b.natAbs∧nl y.1<2^42∧nl y.2<2^42}=>⟨[(4,.one (.ptr 3 0)),(5,.one (.ints .u32 (aj y.1.1))),(6,.one (.ints .u32 (aj y.1.2)))],[(3,⟨.var [.bool false,.nil],true⟩)],4,57⟩) (fun y=>y.1.2) ⟨(a.natAbs,b.natAbs),rfl,ha,hb⟩ ?_ (fun⟨⟨u,v⟩,e,hu,hv⟩=>?_)
 ·refine Sa ?_;simp only[ry,seval,rz]
 simp only at e hu hv;simp only[vx,T,seval,ZV];refine⟨fun h1=>Lg ?_,fun h1=>Lg ?_⟩
 ·simp only[vx,T,seval,ZV];have SG:0<v:=by
   rcases Nat.eq_zero_or_pos v with h|h
   ·subst h;rw[iD]at*
    omega
   exact h
  refine Cg (iO u v SG (by omega) (by omega)) ?_;simp only[vx,T,seval,ZV];refine Lq ⟨(v,u%v),by rw[←e,Nat.gcd_comm u v,Nat.gcd_rec v u,Nat.gcd_comm],hv,Nat.lt_of_le_of_lt (nK SG) hv⟩ ?_ ?_
  ·refine Sa ?_;simp only[ry,seval,rz,ZV]
  exact Nat.mod_lt _ SG
 simp only[vx,T,seval,ZV];refine⟨fun h2=>Lg ?_,fun h2=>Lg ?_⟩
 ·simp only[vx,T,seval,ZV];refine⟨fun h3=>Lg ?_,fun h3=>Lg ?_⟩
  ·simp only[vx,T,seval,ZV];have SG:0<v:=by
    rcases Nat.eq_zero_or_pos v with h|h
    ·subst h;rw[iD]at*
     omega
    exact h
   refine Cg (iO u v SG (by omega) (by omega)) ?_;simp only[vx,T,seval,ZV];refine Lq ⟨(v,u%v),by rw[←e,Nat.gcd_comm u v,Nat.gcd_rec v u,Nat.gcd_comm],hv,Nat.lt_of_le_of_lt (nK SG) hv⟩ ?_ ?_
   ·refine Sa ?_;simp only[ry,seval,rz,ZV]
   exact Nat.mod_lt _ SG
  simp only[vx,T,seval,ZV];refine⟨fun h0=>Lg ?_,fun h0=>Lg ?_⟩
  ·have SG:v=0:=fT.1 (by omega);subst SG;rw[Nat.gcd_zero_right]at e;simp only[vx,T,seval,ZV];refine Cg (yy u (by omega)) ?_;simp only[vx,T,seval,ZV];refine Cg (bV false u (by omega)) ?_;have e2:fK false u=((Int.gcd a b:Nat):Int):=by rw[hg,←e];rfl
   rw[e2];simp only[vx,T,seval,ZV];refine Va ?_;simp only[cU,aY,ry,seval,ZV]
  have SN:u<2^64:=by have:=cF.1 (show nl u≤2 by omega);unfold BB at this;omega
  have TI:v<2^64:=by have:=cF.1 (show nl v≤2 by omega);unfold BB at this;omega
  simp only[vx,T,seval,ZV];refine Cg (fh u SN) ?_;simp only[vx,T,seval,ZV];refine Cg (fh v TI) ?_;simp only[vx,T,seval,ZV];refine Lk (fun y:{y:Nat×Nat//Nat.gcd y.1 y.2=Nat.gcd a.natAbs b.natAbs∧y.1<2^64∧y.2<2^64}=>⟨[(4,.one (.ptr 3 0)),(9,.one (.int .u64 y.1.1)),(10,.one (.int .u64 y.1.2))],[(3,⟨.var [.bool false,.nil],true⟩)],4,57⟩) (fun y=>y.1.2) ⟨(u,v),e,SN,TI⟩ ?_ (fun⟨⟨u,v⟩,e,hu,hv⟩=>?_)
  ·refine Sa ?_;simp only[ry,seval,rz]
  simp only at e hu hv;simp only[vx,T,seval,ZV];refine⟨fun h5=>Lg ?_,fun h5=>Lg ?_⟩
  ·simp only[vx,T,seval,ZV];have e2:(u:Int).tmod v=((u%v:Nat):Int):=rfl;simp only[e2];refine⟨by omega,by omega,Lq ⟨(v,u%v),by rw[←e,Nat.gcd_comm u v,Nat.gcd_rec v u,Nat.gcd_comm],hv,Nat.lt_trans (Nat.mod_lt u (by omega)) hv⟩ ?_ ?_⟩
   ·refine Sa ?_;simp only[ry,seval,rz,ZV]
   exact Nat.mod_lt _ (by omega)
  have SG:v=0:=by omega
  subst SG;rw[Nat.gcd_zero_right]at e;have hn:=aD (n:=u) (k:=2) (by unfold BB;omega);simp only[vx,T,seval,ZV];refine Cg (dj u (by omega)) ?_;simp only[vx,T,seval,ZV];refine Cg (bV false u (by omega)) ?_;have e2:fK false u=((Int.gcd a b:Nat):Int):=by rw[hg,←e];rfl
  rw[e2];simp only[vx,T,seval,ZV];refine Va ?_;simp only[cU,aY,ry,seval,ZV]
 simp only[vx,T,seval,ZV];refine⟨fun h0=>Lg ?_,fun h0=>Lg ?_⟩
 ·have SG:v=0:=fT.1 (by omega);subst SG;rw[Nat.gcd_zero_right]at e;simp only[vx,T,seval,ZV];refine Cg (yy u (by omega)) ?_;simp only[vx,T,seval,ZV];refine Cg (bV false u (by omega)) ?_;have e2:fK false u=((Int.gcd a b:Nat):Int):=by rw[hg,←e];rfl
  rw[e2];simp only[vx,T,seval,ZV];refine Va ?_;simp only[cU,aY,ry,seval,ZV]
 have SN:u<2^64:=by have:=cF.1 (show nl u≤2 by omega);unfold BB at this;omega
 have TI:v<2^64:=by have:=cF.1 (show nl v≤2 by omega);unfold BB at this;omega
 simp only[vx,T,seval,ZV];refine Cg (fh u SN) ?_;simp only[vx,T,seval,ZV];refine Cg (fh v TI) ?_;simp only[vx,T,seval,ZV];refine Lk (fun y:{y:Nat×Nat//Nat.gcd y.1 y.2=Nat.gcd a.natAbs b.natAbs∧y.1<2^64∧y.2<2^64}=>⟨[(4,.one (.ptr 3 0)),(9,.one (.int .u64 y.1.1)),(10,.one (.int .u64 y.1.2))],[(3,⟨.var [.bool false,.nil],true⟩)],4,57⟩) (fun y=>y.1.2) ⟨(u,v),e,SN,TI⟩ ?_ (fun⟨⟨u,v⟩,e,hu,hv⟩=>?_)
 ·refine Sa ?_;simp only[ry,seval,rz]
 simp only at e hu hv;simp only[vx,T,seval,ZV];refine⟨fun h5=>Lg ?_,fun h5=>Lg ?_⟩
 ·simp only[vx,T,seval,ZV];have e2:(u:Int).tmod v=((u%v:Nat):Int):=rfl;simp only[e2];refine⟨by omega,by omega,Lq ⟨(v,u%v),by rw[←e,Nat.gcd_comm u v,Nat.gcd_rec v u,Nat.gcd_comm],hv,Nat.lt_trans (Nat.mod_lt u (by omega)) hv⟩ ?_ ?_⟩
  ·refine Sa ?_;simp only[ry,seval,rz,ZV]
  exact Nat.mod_lt _ (by omega)
 have SG:v=0:=by omega
 subst SG;rw[Nat.gcd_zero_right]at e;have hn:=aD (n:=u) (k:=2) (by unfold BB;omega);simp only[vx,T,seval,ZV];refine Cg (dj u (by omega)) ?_;simp only[vx,T,seval,ZV];refine Cg (bV false u (by omega)) ?_;have e2:fK false u=((Int.gcd a b:Nat):Int):=by rw[hg,←e];rfl
 rw[e2];simp only[vx,T,seval,ZV];refine Va ?_;simp only[cU,aY,ry,seval,ZV]
open Go Go.Eng
def AQ (b:Bool)(xs:List Int):Bool:=decide (aj (val xs)=xs∧(b=true→xs≠[]))
theorem xa {b:Bool}{xs:List Int}(h:AQ b xs=true):∃z:Int,b=zs z∧xs=zm z:=by
 unfold AQ at h;simp only[decide_eq_true_eq]at h;refine⟨fK b (val xs),?_,by rw[Cr,h.1]⟩;rw[Cf]
 cases b
 ·rfl
 have:=h.2 rfl
 have h0:val xs≠0:=fun e=>this (by rw[←h.1,e,bp])
 simp;omega
theorem MH (z:Int):AQ (zs z) (zm z)=true:=by
 unfold AQ;simp only[decide_eq_true_eq];refine⟨by rw[lf];rfl,fun h e=>?_⟩
 have:zn z=0:=by rw[←aV,e];rfl
 have:=ey.1 this
 subst this
 cases h
theorem Cu {n:Nat}(h:0<n):(aj n).getD (nl n-1) 0≠0:=by
 rw[lG,ku h]
 have:=(gS h).1
 omega
theorem Dr (b:Bool):AQ b []=!b:=by
 have:aj (val [])=[]:=bp
 unfold AQ
 cases b<;>simp [this]
theorem G8 {b:Bool}{xs:List Int}(hx:bI xs)(h0:xs≠[]):AQ b xs=decide (xs.getD (xs.length-1) 0≠0):=by
 unfold AQ;simp only[h0,ne_eq,not_false_eq_true,implies_true,and_true]
 congr 1
 simp only[eq_iff_iff]
 constructor
 ·intro h e;rw[←h,dY]at e;have hp:0<val xs:=by
   rcases Nat.eq_zero_or_pos (val xs)with h1|h1
   ·rw[h1,bp]at h;exact absurd h.symm h0
   exact h1
  exact Cu hp e
 intro h;exact bY hx (.inr h)
theorem rI (b:Bool)(xs:List Int)(hx:bI xs)(hl:xs.length<2^44):Pr prog 213 [.agg [.bool b,.ints .u32 xs]] (.one (.bool (AQ b xs))):=by
 refine pw func213 ⟨[0,1,2,3],[]⟩ ?_;simp only[Tryz.f213,ntmps213,iz,seval];simp only[vx,T,seval];refine⟨fun h1=>Lg ?_,fun h1=>Lg ?_⟩
 ·have U4:xs=[]:=List.length_eq_zero_iff.1 (by omega);subst U4;simp only[vx,T,seval]
  cases b
  ·refine⟨fun h2=>Lg ?_,fun h2=>Lg ?_⟩
   ·simp only[vx,T,seval];refine Ve ?_;rw[Dr];rfl
   cases h2
  refine⟨fun h2=>absurd h2 (by decide),fun h2=>Lg ?_⟩;simp only[vx,T,seval];refine Ve ?_;rw[Dr];rfl
 have U4:xs≠[]:=by rintro rfl;exact h1 rfl
 simp only[vx,T,seval];have i1:IntKind.i64.wrap ((xs.length:Int)-1)=((xs.length-1:Nat):Int):=by rw[IntWalk.i64_in _ (by omega)];omega
 refine⟨fun h2=>Lg ?_,fun h2=>absurd h2 (by omega)⟩;simp only[vx,T,seval]
 simp(disch:=omega) only[lG,←X2,←Int.natCast_mul,Int.toNat_natCast,IntWalk.i64_in,IntWalk.u64_in,aA,aI,true_and,and_true,i1]
 refine⟨by omega,?_⟩;refine Ve ?_;rw[G8 hx U4]
theorem wK (a b:Int)(ha:zn a<2^42)(hb:zn b<2^42)(h0:b≠0):Pr prog 248 [ZV a,ZV b] (.aB [ZV (a.fdiv b),ZV (a.fmod b),.one (.int .i64 0)]):=by
 unfold zn at ha hb;have Xb:0<b.natAbs:=by omega
 have hbn:=eH.2 Xb;refine pw func248 ⟨[0,1,2,3,4,5,6,7,8,9,15,35],[]⟩ ?_;simp only[Tryz.f248,ntmps248,iz,seval];simp only[vx,T,seval,ZV];refine Cg (fR b (by unfold zn;omega)) ?_;simp only[vx,T,seval,ZV];refine⟨fun h=>Lg ?_,fun h=>Lg ?_⟩
 ·omega
 simp only[vx,T,seval,ZV];refine Cg (fR a (by unfold zn;omega)) ?_;simp only[vx,T,seval,ZV];refine Cg (iO a.natAbs b.natAbs Xb (by omega) (by omega)) ?_;have hr:=nK (a:=a.natAbs) Xb;have hq:nl (a.natAbs/b.natAbs)≤nl a.natAbs:=bf (Nat.div_le_self _ _);simp only[vx,T,seval,ZV];refine⟨fun h1=>Lg ?_,fun h1=>Lg ?_⟩
 ·simp only[vx,T,seval,ZV];refine⟨fun h2=>Lg ?_,fun h2=>Lg ?_⟩
  ·simp only[vx,T,seval,ZV];have l1:aj 1=[1]:=by rw[iR (by decide),show (1:Nat)/BB=0 by decide,bp];rfl
   rw[←l1];have hp:=tx (a.natAbs/b.natAbs) 1;have n1:nl 1=1:=by unfold nl;rw[l1];rfl
   refine Cg (oh (a.natAbs/b.natAbs) 1 (by omega) (by omega)) ?_;simp only[vx,T,seval,ZV];refine Cg (mR b.natAbs (a.natAbs%b.natAbs) (Nat.le_of_lt (Nat.mod_lt _ Xb)) (by omega)) ?_;have key:=EX (a:=a) (b:=b) h0 h1 (eH.1 (by omega));simp only[vx,T,seval,ZV];refine Cg (bV _ (a.natAbs/b.natAbs+1) (by omega)) ?_;rw[key.1];simp only[vx,T,seval,ZV];refine Cg (bV _ (b.natAbs-a.natAbs%b.natAbs) (Nat.lt_of_le_of_lt (bf (Nat.sub_le _ _)) (by omega))) ?_;rw[key.2];simp only[vx,T,seval,ZV];refine Va ?_;simp only[cU,aY,ry,seval,ZV]
  simp only[vx,T,seval,ZV];have key:=pS (a:=a) (b:=b) h0 (.inr (fT.1 (by omega)));refine Cg (bV _ (a.natAbs/b.natAbs) (by omega)) ?_;rw[key.1];simp only[vx,T,seval,ZV];refine Cg (bV _ (a.natAbs%b.natAbs) (by omega)) ?_;rw[key.2];simp only[vx,T,seval,ZV];refine Va ?_;simp only[cU,aY,ry,seval,ZV]
 simp only[vx,T,seval,ZV];have key:=pS (a:=a) (b:=b) h0 (.inl (by simpa using h1));refine Cg (bV _ (a.natAbs/b.natAbs) (by omega)) ?_;rw[key.1];simp only[vx,T,seval,ZV];refine Cg (bV _ (a.natAbs%b.natAbs) (by omega)) ?_;rw[key.2];simp only[vx,T,seval,ZV];refine Va ?_;simp only[cU,aY,ry,seval,ZV]
open Go Go.Eng
theorem fF (b:Bool)(n:Nat)(hn:nl n<2^60):Pr prog 91 [.one (.bool b),.one (.ints .u32 (aj n))] (ZV (fK b n)):=by
 have h:=pF b (aj n) (bI.aj n) (by rw[dY];omega);rw[gH]at h;unfold ZV;rw[Cf,Cr];exact h
theorem BC (z:Int)(hz:zn z<2^60):Pr prog 126 [.one (.ints .u32 (zm z))] (.one (.ints .u32 (aj z.natAbs))):=by
 have h:=bH (zm z) (qE z) (by rw[aV];omega);rw[lf]at h;exact h
theorem kB (z:Int):zm z=aj z.natAbs:=rfl
theorem fD (z:Int)(h1: -9223372036854775808≤z)(h2:z≤9223372036854775807):Pr prog 51 [.one (.int .i64 z)] (ZV z):=by
 have hu:z.natAbs<2^64:=by omega
 have e0:fK (decide (z<0)) z.natAbs=z:=b5 z;have hn:=aD (n:=z.natAbs) (k:=2) (by unfold BB;omega);refine pw func51 ⟨[0,2,4],[]⟩ ?_;simp only[Tryz.f51,ntmps51,iz,seval];simp only[vx,T,seval,ZV];refine⟨fun h=>Lg ?_,fun h=>Lg ?_⟩
 ·have e1:IntKind.u64.wrap (0-IntKind.u64.wrap z)=(z.natAbs:Int):=by rw[aT,aT];omega
  simp only[vx,T,seval,ZV];simp only[e1];refine Cg (ie z.natAbs hu) ?_;simp only[vx,T,seval,ZV];have e2:fK true z.natAbs=z:=by rw[←e0,jr];simp[h]
  refine Cg (fF _ z.natAbs (by omega)) ?_;rw[e2];simp only[vx,T,seval,ZV];refine Va ?_;simp only[cU,aY,ry,seval,ZV]
 have e1:IntKind.u64.wrap z=(z.natAbs:Int):=by rw[aT];omega
 simp only[vx,T,seval,ZV];simp only[e1];refine Cg (ie z.natAbs hu) ?_;simp only[vx,T,seval,ZV];have e2:fK false z.natAbs=z:=by rw[←e0,jr];simp[h]
 refine Cg (fF _ z.natAbs (by omega)) ?_;rw[e2];simp only[vx,T,seval,ZV];refine Va ?_;simp only[cU,aY,ry,seval,ZV]
theorem ff (a:Int)(ha:zn a<2^59):Pr prog 128 [ZV a] (ZV a):=by
 refine pw func128 ⟨[0,1,2],[]⟩ ?_;simp only[Tryz.f128,ntmps128,iz,seval];simp only[vx,T,seval,ZV];simp only[kB];refine Cg (fF (zs a) a.natAbs (by unfold zn at ha;omega)) ?_;rw[b5];simp only[vx,T,seval,ZV];refine Va ?_;simp only[cU,aY,ry,seval,ZV,kB]
theorem gE (a:Int)(ha:zn a<2^59):Pr prog 88 [ZV a] (.one (.int .i64 (b9 a))):=by
 refine pw func88 ⟨[0,1,2,8,10],[]⟩ ?_;simp only[Tryz.f88,ntmps88,iz,seval];simp only[vx,T,seval,ZV];refine Cg (ff a ha) ?_;simp only[vx,T,seval,ZV];refine⟨fun h=>Lg ?_,fun h=>Lg ?_⟩
 ·have h0:a=0:=ey.1 (by rw[aV]at h;omega);simp only[vx,T,seval,ZV];subst h0;exact Ve rfl
 have h0:a≠0:=by rintro rfl;exact h (by rw[JK];rfl)
 simp only[vx,T,seval,ZV];refine⟨fun h2=>Lg ?_,fun h2=>Lg ?_⟩
 ·simp only[vx,T,seval,ZV];refine Ve ?_;unfold b9;rw[if_neg h0,if_pos (kN.1 h2)]
 simp only[vx,T,seval,ZV];refine Ve ?_
 have:=dF.1 h2
 unfold b9;rw[if_neg h0,if_neg (by omega)]
theorem nI (a:Int)(ha:zn a<2^59):Pr prog 89 [ZV a] (ZV (-a)):=by
 refine pw func89 ⟨[0,1,2],[]⟩ ?_;simp only[Tryz.f89,ntmps89,iz,seval];simp only[vx,T,seval,ZV];simp only[kB];refine Cg (fF _ a.natAbs (by unfold zn at ha;omega)) ?_;rw[Ai];simp only[vx,T,seval,ZV];refine Va ?_;simp only[cU,aY,ry,seval,ZV,kB]
theorem bo (a b:Int)(ha:zn a<2^42)(hb:zn b<2^42):Pr prog 115 [ZV a,ZV b] (ZV (a*b)):=by
 have hm:=jy a.natAbs b.natAbs;unfold zn at ha hb;refine pw func115 ⟨[0,1,2,3,4],[]⟩ ?_;simp only[Tryz.f115,ntmps115,iz,seval];simp only[vx,T,seval,ZV];refine Cg (ff a (by unfold zn;omega)) ?_;simp only[vx,T,seval,ZV];refine Cg (ff b (by unfold zn;omega)) ?_;simp only[vx,T,seval,ZV];simp only[kB];refine Cg (AJ a.natAbs b.natAbs (by omega) (by omega)) ?_;simp only[vx,T,seval,ZV];refine Cg (fF _ (a.natAbs*b.natAbs) (by omega)) ?_;rw[zX];simp only[vx,T,seval,ZV];refine Va ?_;simp only[cU,aY,ry,seval,ZV,kB]
theorem gD (a b:Int)(ha:zn a<2^43)(hb:zn b<2^43):Pr prog 152 [ZV a,ZV b] (ZV (a+b)):=by
 have hm:=tx a.natAbs b.natAbs;unfold zn at ha hb;refine pw func152 ⟨[0,1,2,3,4,13,27],[]⟩ ?_;simp only[Tryz.f152,ntmps152,iz,seval];simp only[vx,T,seval,ZV];refine Cg (ff a (by unfold zn;omega)) ?_;simp only[vx,T,seval,ZV];refine Cg (ff b (by unfold zn;omega)) ?_;simp only[vx,T,seval,ZV,beq_iff_eq];refine⟨fun h=>Lg ?_,fun h=>Lg ?_⟩
 ·simp only[vx,T,seval,ZV];simp only[kB];refine Cg (Ct a.natAbs b.natAbs (by omega) (by omega)) ?_;simp only[vx,T,seval,ZV];refine Cg (fF _ (a.natAbs+b.natAbs) (by omega)) ?_;rw[add_same h];simp only[vx,T,seval,ZV];refine Va ?_;simp only[cU,aY,ry,seval,ZV,kB]
 have h:=beq_eq_false_iff_ne.1 h;simp only[vx,T,seval,ZV];simp only[kB];refine Cg (fL a.natAbs b.natAbs (by omega) (by omega)) ?_;simp only[vx,T,seval,ZV];refine⟨fun h2=>Lg ?_,fun h2=>Lg ?_⟩
 ·have h3:b.natAbs≤a.natAbs:=ja (by omega);simp only[vx,T,seval,ZV];refine Cg (jU a.natAbs b.natAbs (by omega) (by omega)) ?_;simp only[vx,T,seval,ZV];refine Cg (fF _ (a.natAbs-b.natAbs) (Nat.lt_of_le_of_lt (bf (Nat.sub_le _ _)) (by omega))) ?_;rw[zQ h h3];simp only[vx,T,seval,ZV];refine Va ?_;simp only[cU,aY,ry,seval,ZV,kB]
 have h3:a.natAbs<b.natAbs:=kF (by omega);simp only[vx,T,seval,ZV];refine Cg (jU b.natAbs a.natAbs (by omega) (by omega)) ?_;simp only[vx,T,seval,ZV];refine Cg (fF _ (b.natAbs-a.natAbs) (Nat.lt_of_le_of_lt (bf (Nat.sub_le _ _)) (by omega))) ?_;rw[yI h (by omega)];simp only[vx,T,seval,ZV];refine Va ?_;simp only[cU,aY,ry,seval,ZV,kB]
theorem qY (a b:Int)(ha:zn a<2^43)(hb:zn b<2^43):Pr prog 169 [ZV a,ZV b] (ZV (a-b)):=by
 refine pw func169 ⟨[0,1,2,3,4],[]⟩ ?_;simp only[Tryz.f169,ntmps169,iz,seval];simp only[vx,T,seval,ZV];refine Cg (nI b (by omega)) ?_;simp only[vx,T,seval,ZV];refine Cg (gD a (-b) (by omega) (by rw[HT];omega)) ?_;rw[←Int.sub_eq_add_neg];simp only[vx,T,seval,ZV];refine Va ?_;simp only[cU,aY,ry,seval,ZV]
theorem eG (a b:Int)(ha:zn a<2^42)(hb:zn b<2^42):Pr prog 87 [ZV a,ZV b] (ZV (Int.gcd a b)):=by
 have hg:Int.gcd a b=Nat.gcd a.natAbs b.natAbs:=rfl;unfold zn at ha hb;refine pw func87 ⟨[0,1,2,3,4,5,6,8,17],[]⟩ ?_;simp only[Tryz.f87,ntmps87,iz,seval];simp only[vx,T,seval,ZV];refine Cg (BC a (by unfold zn;omega)) ?_;simp only[vx,T,seval,ZV];refine Cg (BC b (by unfold zn;omega)) ?_;simp only[vx,T,seval,ZV];refine Lk (fun y:{y:Nat×Nat//Nat.gcd y.1 y.2=Nat.gcd a.natAbs b.natAbs∧nl y.1<2^42∧nl y.2<2^42}=>⟨[(4,.one (.ptr 3 0)),(5,.one (.ints .u32 (aj y.1.1))),(6,.one (.ints .u32 (aj y.1.2)))],[(3,⟨.var [.bool false,.nil],true⟩)],4,28⟩) (fun y=>y.1.2) ⟨(a.natAbs,b.natAbs),rfl,ha,hb⟩ ?_ (fun⟨⟨u,v⟩,e,hu,hv⟩=>?_)
 ·refine Sa ?_;simp only[ry,seval,rz]
 simp only at e hu hv;simp only[vx,T,seval,ZV];refine⟨fun h1=>Lg ?_,fun h1=>Lg ?_⟩
 ·have SG:0<v:=eH.1 (by omega);simp only[vx,T,seval,ZV];refine Cg (pH u v SG (by omega) (by omega)) ?_;simp only[vx,T,seval,ZV];refine Lq ⟨(v,u%v),by rw[←e,Nat.gcd_comm u v,Nat.gcd_rec v u,Nat.gcd_comm],hv,Nat.lt_of_le_of_lt (nK SG) hv⟩ ?_ ?_
  ·refine Sa ?_;simp only[ry,seval,rz,ZV]
  exact Nat.mod_lt _ SG
 have SG:v=0:=fT.1 (by omega);subst SG;rw[Nat.gcd_zero_right]at e;simp only[vx,T,seval,ZV];refine Cg (fF false u (by omega)) ?_;have e2:fK false u=((Int.gcd a b:Nat):Int):=by rw[hg,←e];rfl
 rw[e2];simp only[vx,T,seval,ZV];refine Va ?_;simp only[cU,aY,ry,seval,ZV]
theorem vQ {xs:List Int}(hx:bI xs):aj (val xs)=xs↔nl (val xs)=xs.length:=by
 refine⟨fun h=>by unfold nl;rw[h],fun h=>?_⟩;have h3:=qz hx h.symm rfl;rw[z9]at h3;exact h3.symm
theorem Ki {b:Bool}{xs:List Int}(hx:bI xs)(h:nl (val xs)≠xs.length):AQ b xs=false:=by
 unfold AQ
 simp[vQ hx,h]
theorem Gi {b:Bool}{xs:List Int}(hx:bI xs)(h:nl (val xs)=xs.length):AQ b xs=(!b||decide (0<xs.length)):=by
 unfold AQ
 cases b<;>simp [vQ hx,h]
 cases xs<;>simp
theorem HQ {z:Int}(h:z.natAbs<18446744073709551616):zn z≤2:=aD (by unfold BB;omega)
theorem rp (b:Bool)(xs:List Int)(hx:bI xs)(hl:xs.length<2^44):Pr prog 194 [.agg [.bool b,.ints .u32 xs]] (.one (.bool (AQ b xs))):=by
 refine pw func194 ⟨[0,1,2],[]⟩ ?_;simp only[Tryz.f194,ntmps194,iz,seval];simp only[vx,T,seval];refine Cg (bH xs hx (by omega)) ?_;simp only[vx,T,seval];refine⟨fun h1=>Lg ?_,fun h1=>Lg ?_⟩
 ·simp only[vx,T,seval];have hg:=Gi (b:=b) hx (by omega);refine⟨fun h2=>Lg ?_,fun h2=>Lg ?_⟩
  ·simp only[vx,T,seval];refine Ve ?_;rw[hg,h2];rfl
  simp only[vx,T,seval];refine Ve ?_;rw[hg,h2]
  congr 2
  simp
 simp only[vx,T,seval];refine Ve ?_;rw[Ki hx (by omega)]
theorem yg (a b:Int)(ha:zn a<2^40)(hb:zn b<2^40)(h0:b≠0):Pr prog 129 [ZV a,ZV b] (.aB [ZV (a.fdiv b),ZV (a.fmod b),.one (.int .i64 0)]):=by
 have Xb:0<b.natAbs:=by omega
 have hbn:=eH.2 Xb;obtain⟨q,Wj⟩:∃q,q=fK (zs a !=zs b) (a.natAbs/b.natAbs):=⟨_,rfl⟩;have Z5:zn q≤zn a:=by rw[Wj,Cs];exact bf (Nat.div_le_self _ _)
 have Th:=cY q b;obtain⟨r,hrd⟩:∃r,r=a-q*b:=⟨_,rfl⟩;have hrn:zn r≤zn b:=by
  rw[hrd,Wj,Eb,Cs];exact bf (Nat.le_of_lt (Nat.mod_lt _ Xb))
 obtain⟨key1,WO⟩:=Bc h0 Wj hrd;refine pw func129 ⟨[0,1,2,3,4,5,6,7,9,10,18,46],[(10,(.cons 2 [1] (.cons 3 [] (.cons 4 [] .nil .nil) .nil) .nil))]⟩ ?_;simp only[Tryz.f129,ntmps129,iz,seval];simp only[vx,T,seval,ZV];refine Cg (ff a (by omega)) ?_;simp only[vx,T,seval,ZV];refine Cg (ff b (by omega)) ?_;simp only[vx,T,seval,ZV];refine⟨fun h=>Lg ?_,fun h=>Lg ?_⟩
 ·rw[aV]at h;exact absurd (ey.1 (by omega)) h0
 simp only[vx,T,seval,ZV];simp only[kB];refine Cg (pH a.natAbs b.natAbs Xb (by unfold zn at ha;omega) (by unfold zn at hb;omega)) ?_;simp only[vx,T,seval,ZV];refine Cg (fF (zs a !=zs b) (a.natAbs/b.natAbs) (by rw[←Cs (zs a !=zs b),←Wj];omega)) ?_;rw[←Wj];simp only[vx,T,seval,ZV,←kB];refine Cg (bo q b (by omega) (by omega)) ?_;simp only[vx,T,seval,ZV];refine Cg (qY a (q*b) (by omega) (by omega)) ?_;rw[←hrd];simp only[vx,T,seval,ZV];refine Cg (gE r (by omega)) ?_;simp only[vx,T,seval,ZV];refine Cg (gE b (by omega)) ?_;have hw:IntKind.i64.wrap (b9 r*b9 b)=b9 r*b9 b:=by
  have:=uS r b
  exact IntWalk.i64_in _ (by omega)
 simp only[vx,T,seval,ZV,hw];refine⟨fun h3=>Lg ?_,fun h3=>Lg ?_⟩
 ·obtain⟨k1,k2⟩:=key1 h3;simp only[vx,T,seval,ZV];refine Cg (fD 1 (by omega) (by omega)) ?_;simp only[vx,T,seval,ZV];have z1:zn 1≤2:=HQ (by decide);refine Cg (qY q 1 (by omega) (by omega)) ?_;rw[k1];simp only[vx,T,seval,ZV];refine Cg (gD r b (by omega) (by omega)) ?_;rw[k2];simp only[vx,T,seval,ZV];refine Va ?_;simp only[cU,aY,ry,seval,ZV]
 obtain⟨k1,k2⟩:=WO h3;simp only[vx,T,seval,ZV];rw[←k1,←k2];refine Va ?_;simp only[cU,aY,ry,seval,ZV]
end Go.Proofs.YtchkplkghknabaaGreat
