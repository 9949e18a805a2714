/-
  MatrixMul: for every input the law returns true, and each argument reads afterwards as it read before. No condition.
  (Text 4 of 9; made by a program out of smaller texts.)
-/
import Derived.RangeFuncBox
import Derived.RangeFuncLeaves
import Derived.Shelf.Abstract
import Derived.WalkKit
import Derived.OwnWalkIn
import Derived.TacticsInMore
import Derived.LoopNIn
import Derived.LoopIn
import Derived.Lib.Hide
import Derived.Test.YtehahgjkjfoebaaGreatChecked
import Derived.Test.YtehahgjkjfoebaaGreatPa
import Derived.Test.YtehahgjkjfoebaaGreatP3
set_option linter.unusedSimpArgs false
set_option linter.unusedVariables false
set_option maxHeartbeats 16000000
set_option maxRecDepth 10000
open Nat renaming reduceAdd→J1,reduceMul→J2,reduceSub→J3,reduceEqDiff→J4,reduceLT→J5,reduceLeDiff→J6,reduceBEq→J7,reduceDiv→J8,reduceMod→J9,reducePow→J0
open Int renaming reduceToNat→K1,reduceLE→K2,reduceLT→K3,reduceEq→K4,reducePow→K5,reduceSub→K6,reduceNeg→K7,natCast_add→X2,natCast_one→X3,natCast_zero→X4
open List renaming getD_cons_zero→X0,getD_cons_succ→X1,length_take→X5,length_append→X6,getD_eq_getElem?_getD→X7,getElem?_eq_getElem→X8
open Nat renaming le_trans→O0,le_refl→O1,zero_le→O2,pow_le_pow_right→O3,pow_succ→O4,mul_comm→O6,mod_eq_of_lt→O7,mul_le_mul_right→O8,mul_le_mul_left→O9
open Int renaming toNat_natCast→Q1,natCast_mul→Q2
open Go.IntWalk renaming i64_in→Q4,u64_in→Q5
namespace Go.Proofs.YtehahgjkjfoebaaGreat
open Go.Proofs.Tryz
open Go Go.Eng
theorem pb (m n:Nat)(hm:nl m<2^44)(hn:nl n<2^44):Pr prog 250 [.one (.ints .u32 (ak m)),.one (.ints .u32 (ak n))] (.one (.ints .u32 (ak (m+n)))):=by
 rcases Nat.lt_or_ge (nl m) (nl n)with h|h
 ·have:=wH true n m (by omega) (fun _=>h) hn
  rw[Nat.add_comm];exact this
 exact wH false m n h (fun h=>by cases h) hm
theorem gN {os:List Int}{i:Nat}{d:Int}(h:i<os.length):(os.set i d).take (i+1)=os.take i++[d]:=by
 rw[List.take_set,List.take_succ_eq_append_getElem h,List.set_append_right _ _ (by simp;omega)]
 have:i-(os.take i).length=0:=by simp;omega
 rw[this];rfl
theorem da.Kn {a b i:Nat}{os os':List Int}{c:Nat}(h:da a b i os c)(he:os'.take i=os.take i)(hl:i≤os'.length):da a b i os' c:=
 ⟨h.le,by rw[he];exact h.inr,hl,by rw[he];exact h.eq,h.c⟩
theorem da.put {a b i:Nat}{os:List Int}{c s:Nat}(h:da a b i os c)(hi:i<nl a)(hl:i<os.length)(hs:s=c+a/BB^i%BB+b/BB^i%BB):da a b (i+1) (os.set i ((s%BB:Nat):Int)) (s/BB):=
 (h.step hi hs).Kn (by rw[gN hl,List.take_of_length_le (l:=os.take i++_) (by simp;omega)]) (by simp;omega)
theorem da.last {a b:Nat}{os:List Int}{c:Nat}(hb:nl b≤nl a)(h:da a b (nl a) os c)(hl:os.length=nl a+1):val (os.set (nl a) ((c%BB:Nat):Int))=a+b∧bO (os.set (nl a) ((c%BB:Nat):Int)):=by
 have e:os.set (nl a) ((c%BB:Nat):Int)=os.take (nl a)++[((c%BB:Nat):Int)]:=by
  rw[←gN (by omega),List.take_of_length_le (by simp;omega)]
 have h1:c%BB=c:=O7 (by have:=h.c;unfold BB;omega);have hlen:(os.take (nl a)).length=nl a:=by simp;omega
 refine⟨?_,by rw[e];exact h.inr.append (bO.digit c)⟩;rw[e,fa,val_one,h1,hlen];exact h.sum hb
theorem v7 (swap:Bool)(a b:Nat)(UD:nl b≤nl a)(W1:swap=true→nl b<nl a)(ha:nl a<2^44):Pr prog 226 [.one (.ints .u32 (ak (if swap then b else a))),.one (.ints .u32 (ak (if swap then a else b)))] (.one (.ints .u32 (ak (a+b)))):=by
 refine pw func226 ⟨[0,1,4,5,6,7,12,22,35],[]⟩ ?_;simp only[Tryz.f226,ntmps226,iz,seval]
 cases swap
 case' false=>have SI:((nl a:Int)<nl b)=False:=by simp;omega
 case' true=>have SI:((nl b:Int)<nl a)=True:=by have:=W1 rfl;simp;omega
 all_goals
  simp only[vx,T,seval,SI];rw[Q4 _ (by omega)];refine⟨⟨by omega,by omega,by omega⟩,Lk (fun i:{i:Nat×List Int×Nat//da a b i.1 i.2.1 i.2.2∧i.2.1.length=nl a+1}=>⟨[(0,.one (.ints .u32 (ak a))),(1,.one (.ints .u32 (ak b))),(5,.one (.own 1 1 0 (nl a+1))),(6,.one (.int .u64 i.1.2.2)),(7,.one (.int .i64 i.1.1))],[(1,⟨.ints 161 .u32 i.1.2.1,true⟩)],3,58⟩) (fun i=>nl a-i.1.1) ⟨(0,List.replicate (nl a+1) 0,0),⟨O2 _,bO.nil,O2 _,by simp[val,Nat.mod_one],O2 _⟩,by simp⟩ ?_ (fun⟨⟨i,os,c⟩,hi,hl⟩=>?_)⟩
  ·have e:((nl a:Int)+1).toNat=nl a+1:=by omega
   refine Sa ?_;simp only[ry,seval,rz,e]
  have h1:=hi.le;have h2:=hi.len;have h3:=hi.c;simp only at h1 h2 h3 hl;simp only[vx,T,seval];refine⟨fun h=>Lg ?_,fun h=>Lg ?_⟩
  ·simp only[vx,T,seval];refine⟨⟨by omega,by omega⟩,?_⟩;have hx:=bd (a/BB^i);have hy:=bd (b/BB^i)
   simp(disch:=omega) only[lG,←X2,←Q2,Q1,Q4,Q5,aD,aK,true_and,and_true]
   refine⟨fun h'=>Lg ?_,fun h'=>Lg ?_⟩
   ·simp only[vx,T,seval];refine⟨⟨by omega,by omega⟩,?_⟩
    simp(disch:=omega) only[lG,←X2,←Q2,Q1,Q4,Q5,aD,aK,true_and,and_true]
    refine⟨by omega,Lq ⟨(i+1,_,_),hi.put (by omega) (by simp only;omega) rfl,by simp only[List.length_set];exact hl⟩ ?_ ?_⟩
    ·refine Sa ?_;simp only[ry,seval,rz]
    simp only;omega
   simp only[vx,T,seval];have XS:=jn (x:=b) (k:=i) (by omega)
   simp(disch:=omega) only[lG,←X2,←Q2,Q1,Q4,Q5,aD,aK,true_and,and_true]
   refine⟨by omega,Lq ⟨(i+1,_,_),hi.put (s:=c+a/BB^i%BB) (by omega) (by simp only;omega) (by rw[XS];rfl),by simp only[List.length_set];exact hl⟩ ?_ ?_⟩
   ·refine Sa ?_;simp only[ry,seval,rz]
   simp only;omega
  simp only[vx,T,seval];have Uq:i=nl a:=by omega
  subst Uq;refine⟨⟨by omega,by omega⟩,?_⟩;obtain⟨hv,hr⟩:=hi.last UD hl;simp only at hv hr
  simp(disch:=omega) only[lG,←X2,←Q2,Q1,Q4,Q5,aD,aK,true_and,and_true]
  rw[List.take_of_length_le (by simp;omega)];refine Cg (bL _ hr (by simp;omega)) ?_;rw[hv];simp only[vx,T,seval];refine Va ?_;simp only[cY,a5,ry,seval]
theorem BA (m n:Nat)(hm:nl m<2^44)(hn:nl n<2^44):Pr prog 226 [.one (.ints .u32 (ak m)),.one (.ints .u32 (ak n))] (.one (.ints .u32 (ak (m+n)))):=by
 rcases Nat.lt_or_ge (nl m) (nl n)with h|h
 ·have:=v7 true n m (by omega) (fun _=>h) hn
  rw[Nat.add_comm];exact this
 exact v7 false m n h (fun h=>by cases h) hm
structure g8 (a b i:Nat) (os:List Int) (c:Nat):Prop where
 le:i≤nl a
 inr:bO (os.take i)
 len:os.length=nl a
 eq:val (os.take i)+b%BB^i=a%BB^i+BB^i*c
 c:c≤1
@[irreducible] def fh (x y c:Nat):Nat:=if x<y+c then 1 else 0
@[irreducible] def iH (x y c:Nat):Nat:=x+BB*fh x y c-(y+c)
theorem yP {x y c:Nat}(hx:x<BB)(hy:y<BB)(hc:c≤1):iH x y c+(y+c)=x+BB*fh x y c∧iH x y c<BB∧fh x y c≤1:=by
 unfold iH fh;unfold BB at*
 split<;>omega
theorem GB {P v c A B' x y d c':Nat}(h:v+B'=A+P*c)(hd:d+(y+c)=x+BB*c'):(v+P*d)+(B'+P*y)=(A+P*x)+(P*BB)*c':=by
 have h1:P*d+P*y+P*c=P*x+P*(BB*c'):=by rw[←Nat.mul_add,←Nat.mul_add,←Nat.mul_add,←hd,Nat.add_assoc]
 rw[Nat.mul_assoc];omega
theorem g8.put {a b i:Nat}{os:List Int}{c:Nat}(h:g8 a b i os c)(hi:i<nl a):g8 a b (i+1) (os.set i ((iH (a/BB^i%BB) (b/BB^i%BB) c:Nat):Int)) (fh (a/BB^i%BB) (b/BB^i%BB) c):=by
 have hl:i<os.length:=by rw[h.len];exact hi
 obtain⟨h1,h2,h3⟩:=yP (bd (a/BB^i)) (bd (b/BB^i)) h.c;have hlen:(os.take i).length=i:=by simp;omega
 refine⟨hi,?_,by rw[List.length_set];exact h.len,?_,h3⟩
 ·rw[gN hl];have h4:iH (a/BB^i%BB) (b/BB^i%BB) c<4294967296:=h2;exact h.inr.append (bO.one ⟨by omega,by omega⟩)
 rw[gN hl,fa,hlen,val_one,fg a,fg b,O4];exact GB h.eq h1
theorem g8.last {a b:Nat}{os:List Int}{c:Nat}(hb:b≤a)(h:g8 a b (nl a) os c):val os=a-b∧bO os:=by
 have e:os.take (nl a)=os:=List.take_of_length_le (by rw[h.len];exact O1 _);have h1:=h.eq;have h2:=h.inr;rw[e]at h1 h2;rw[gS (O1 _),gS (bh hb)]at h1;have h3:=kC h2;rw[h.len]at h3;refine⟨?_,h2⟩;have h4:=h.c
 rcases Nat.lt_or_ge c 1 with h5|h5
 ·have:c=0:=by omega
  subst this;omega
 have:c=1:=by omega
 subst this;omega
theorem aV (n:Int):IntKind.u64.wrap n=n%18446744073709551616:=by
 simp[IntKind.wrap,IntKind.bits,IntKind.signed]
theorem Ia {x y c:Nat}(hx:x<BB)(hy:y<BB)(hc:c≤1):IntKind.u32.wrap (IntKind.u64.wrap (IntKind.u64.wrap ((x:Int)-c)-y))=(iH x y c:Nat):=by
 unfold iH fh;unfold BB at*
 rw[IntKind.wrap_u32,aV,aV]
 split<;>omega
theorem Iy {x y c:Nat}(hx:x<BB)(hy:y<BB)(hc:c≤1):(IntKind.u64.wrap (IntKind.u64.wrap ((x:Int)-c)-y)).fdiv 9223372036854775808=(fh x y c:Nat):=by
 unfold fh;unfold BB at*
 rw[aV,aV,Int.fdiv_eq_ediv_of_nonneg _ (by decide)]
 split<;>omega
theorem Fb {x c:Nat}(hx:x<BB)(hc:c≤1):IntKind.u32.wrap (IntKind.u64.wrap ((x:Int)-c))=(iH x 0 c:Nat):=by
 unfold iH fh;unfold BB at*
 rw[IntKind.wrap_u32,aV]
 split<;>omega
theorem F5 {x c:Nat}(hx:x<BB)(hc:c≤1):(IntKind.u64.wrap ((x:Int)-c)).fdiv 9223372036854775808=(fh x 0 c:Nat):=by
 unfold fh;unfold BB at*
 rw[aV,Int.fdiv_eq_ediv_of_nonneg _ (by decide)]
 split<;>omega
theorem Aw {x y c:Nat}(hx:x<BB)(hy:y<BB)(hc:c≤1):IntKind.u32.wrap (IntKind.u64.wrap (IntKind.u64.wrap (IntKind.u64.wrap ((x:Int)+4294967296)-y)-c))=(iH x y c:Nat):=by
 unfold iH fh;unfold BB at*
 rw[IntKind.wrap_u32,aV,aV,aV]
 split<;>omega
theorem An {x y c:Nat}(hx:x<BB)(hy:y<BB)(hc:c≤1):IntKind.u64.wrap (1-(IntKind.u64.wrap (IntKind.u64.wrap (IntKind.u64.wrap ((x:Int)+4294967296)-y)-c)).fdiv 4294967296)=(fh x y c:Nat):=by
 unfold fh;unfold BB at*
 rw[aV,aV,aV,aV,Int.fdiv_eq_ediv_of_nonneg _ (by decide)]
 split<;>omega
theorem vL {x c:Nat}(hx:x<BB)(hc:c≤1):IntKind.u32.wrap (IntKind.u64.wrap (IntKind.u64.wrap (IntKind.u64.wrap ((x:Int)+4294967296))-c))=(iH x 0 c:Nat):=by
 unfold iH fh;unfold BB at*
 rw[IntKind.wrap_u32,aV,aV,aV]
 split<;>omega
theorem vQ {x c:Nat}(hx:x<BB)(hc:c≤1):IntKind.u64.wrap (1-(IntKind.u64.wrap (IntKind.u64.wrap (IntKind.u64.wrap ((x:Int)+4294967296))-c)).fdiv 4294967296)=(fh x 0 c:Nat):=by
 unfold fh;unfold BB at*
 rw[aV,aV,aV,aV,Int.fdiv_eq_ediv_of_nonneg _ (by decide)]
 split<;>omega
theorem nm (a b:Nat)(UD:b≤a)(ha:nl a<2^44):Pr prog 251 [.one (.ints .u32 (ak a)),.one (.ints .u32 (ak b))] (.one (.ints .u32 (ak (a-b)))):=by
 have hba:=bh UD;refine pw func251 ⟨[0,1,4,5,6,7,8,9,13,14,15,16,27],[]⟩ ?_;simp only[Tryz.f251,ntmps251,iz,seval];simp only[vx,T,seval];refine⟨⟨by omega,by omega,by omega,by omega⟩,Lk (fun i:{i:Nat×List Int×Nat//g8 a b i.1 i.2.1 i.2.2}=>⟨[(0,.one (.ints .u32 (ak a))),(1,.one (.ints .u32 (ak b))),(5,.one (.own 1 1 0 (nl a))),(6,.one (.int .u64 i.1.2.2)),(13,.one (.ints .u32 (ak a))),(14,.one (.int .i64 (nl a))),(15,.one (.int .i64 i.1.1))],[(1,⟨.ints 161 .u32 i.1.2.1,true⟩)],3,45⟩) (fun i=>nl a-i.1.1) ⟨(0,List.replicate (nl a) 0,0),O2 _,bO.nil,by simp,by simp[val,Nat.mod_one],O2 _⟩ ?_ (fun⟨⟨i,os,c⟩,hi⟩=>?_)⟩
 ·refine Sa ?_;simp only[ry,seval,rz]
 have h1:=hi.le;have h2:=hi.len;have h3:=hi.c;simp only at h1 h2 h3;simp only[vx,T,seval];refine⟨fun h=>Lg ?_,fun h=>Lg ?_⟩
 ·simp only[vx,T,seval];refine⟨⟨by omega,by omega⟩,?_⟩;have hx:=bd (a/BB^i);have hy:=bd (b/BB^i);have e1:=Q5 (a/BB^i%BB:Nat) (by omega);have e2:=Q5 (b/BB^i%BB:Nat) (by omega);refine⟨fun h'=>Lg ?_,fun h'=>Lg ?_⟩
  ·simp only[vx,T,seval];have hp:=hi.put (by omega);simp only[lG,e1,e2,Ia hx hy h3,Iy hx hy h3,Q4 _ (show-9223372036854775808≤(i:Int)+1∧(i:Int)+1≤9223372036854775807 by omega)];refine⟨⟨by omega,by omega⟩,⟨by omega,by omega⟩,Lq ⟨(i+1,_,_),hp⟩ ?_ ?_⟩
   ·refine Sa ?_;simp only[ry,seval,rz]
   simp only;omega
  simp only[vx,T,seval];have XS:=jn (x:=b) (k:=i) (by omega);have hp:=hi.put (by omega);rw[XS]at hp;simp only[lG,e1,e2,Fb hx h3,F5 hx h3,Q4 _ (show-9223372036854775808≤(i:Int)+1∧(i:Int)+1≤9223372036854775807 by omega)];refine⟨⟨by omega,by omega⟩,Lq ⟨(i+1,_,_),hp⟩ ?_ ?_⟩
  ·refine Sa ?_;simp only[ry,seval,rz]
  simp only;omega
 simp only[vx,T,seval];have Uq:i=nl a:=by omega
 subst Uq;obtain⟨hv,hr⟩:=hi.last UD;simp only at hv hr;rw[List.take_of_length_le (by omega)];refine Cg (du _ hr (by omega)) ?_;rw[hv];simp only[vx,T,seval];refine Va ?_;simp only[cY,a5,ry,seval]
theorem j5 (a b:Nat)(UD:b≤a)(ha:nl a<2^44):Pr prog 196 [.one (.ints .u32 (ak a)),.one (.ints .u32 (ak b))] (.one (.ints .u32 (ak (a-b)))):=by
 have hba:=bh UD;refine pw func196 ⟨[0,1,4,5,6,7,8,9,16,22],[]⟩ ?_;simp only[Tryz.f196,ntmps196,iz,seval];simp only[vx,T,seval];refine⟨⟨by omega,by omega,by omega,by omega⟩,Lk (fun i:{i:Nat×List Int×Nat//g8 a b i.1 i.2.1 i.2.2}=>⟨[(0,.one (.ints .u32 (ak a))),(1,.one (.ints .u32 (ak b))),(5,.one (.own 1 1 0 (nl a))),(6,.one (.int .u64 i.1.2.2)),(7,.one (.int .i64 i.1.1))],[(1,⟨.ints 161 .u32 i.1.2.1,true⟩)],3,48⟩) (fun i=>nl a-i.1.1) ⟨(0,List.replicate (nl a) 0,0),O2 _,bO.nil,by simp,by simp[val,Nat.mod_one],O2 _⟩ ?_ (fun⟨⟨i,os,c⟩,hi⟩=>?_)⟩
 ·refine Sa ?_;simp only[ry,seval,rz]
 have h1:=hi.le;have h2:=hi.len;have h3:=hi.c;simp only at h1 h2 h3;simp only[vx,T,seval];refine⟨fun h=>Lg ?_,fun h=>Lg ?_⟩
 ·simp only[vx,T,seval];have hx:=bd (a/BB^i);have hy:=bd (b/BB^i);have e1:=Q5 (a/BB^i%BB:Nat) (by omega);have e2:=Q5 (b/BB^i%BB:Nat) (by omega);refine⟨fun h'=>Lg ?_,fun h'=>Lg ?_⟩
  ·simp only[vx,T,seval];have hp:=hi.put (by omega);simp only[lG,e1,e2,Aw hx hy h3,An hx hy h3,Q4 _ (show-9223372036854775808≤(i:Int)+1∧(i:Int)+1≤9223372036854775807 by omega)];refine⟨⟨by omega,by omega⟩,⟨by omega,by omega⟩,⟨by omega,by omega⟩,Lq ⟨(i+1,_,_),hp⟩ ?_ ?_⟩
   ·refine Sa ?_;simp only[ry,seval,rz]
   simp only;omega
  simp only[vx,T,seval];have XS:=jn (x:=b) (k:=i) (by omega);have hp:=hi.put (by omega);rw[XS]at hp;simp only[lG,e1,e2,vL hx h3,vQ hx h3,Q4 _ (show-9223372036854775808≤(i:Int)+1∧(i:Int)+1≤9223372036854775807 by omega)];refine⟨⟨by omega,by omega⟩,⟨by omega,by omega⟩,Lq ⟨(i+1,_,_),hp⟩ ?_ ?_⟩
  ·refine Sa ?_;simp only[ry,seval,rz]
  simp only;omega
 simp only[vx,T,seval];have Uq:i=nl a:=by omega
 subst Uq;obtain⟨hv,hr⟩:=hi.last UD;simp only at hv hr;rw[List.take_of_length_le (by omega)];refine Cg (bL _ hr (by omega)) ?_;rw[hv];simp only[vx,T,seval];refine Va ?_;simp only[cY,a5,ry,seval]
open Go Go.Eng
structure gG (a b i:Nat) (os:List Int):Prop where
 le:i≤nl a
 len:os.length=nl a+nl b
 inr:bO os
 zero:∀j,i+nl b≤j→os.getD j 0=0
 eq:val os=(a%BB^i)*b
structure pZ (a b i k:Nat) (os:List Int) (c:Nat):Prop where
 le:k≤nl b
 len:os.length=nl a+nl b
 inr:bO os
 zero:∀j,i+nl b≤j→os.getD j 0=0
 eq:val os+BB^(i+k)*c=(a%BB^i)*b+BB^i*((a/BB^i%BB)*(b%BB^k))
 c:c<BB
theorem gG.init (a b:Nat):gG a b 0 (List.replicate (nl a+nl b) 0):=
 ⟨O2 _,by simp,bO.replicate _,fun j _=>by simp[X7,List.getElem?_replicate];split<;>rfl,by rw[cO];simp[Nat.mod_one]⟩
theorem gG.start {a b i:Nat}{os:List Int}(h:gG a b i os):pZ a b i 0 os 0:=
 ⟨O2 _,h.len,h.inr,h.zero,by rw[h.eq];simp[Nat.mod_one],by decide⟩
theorem getD_set_ne {os:List Int}{i j:Nat}{d:Int}(h:i≠j):(os.set i d).getD j 0=os.getD j 0:=by
 rw[X7,X7,List.getElem?_set_ne h]
theorem pZ.put {a b i k:Nat}{os:List Int}{c o s:Nat}(h:pZ a b i k os c)(hi:i<nl a)(hk:k<nl b)(ho:os.getD (i+k) 0=(o:Int))(hs:s=(a/BB^i%BB)*(b/BB^k%BB)+o+c):
  pZ a b i (k+1) (os.set (i+k) ((s%BB:Nat):Int)) (s/BB):=by
 have hl:i+k<os.length:=by rw[h.len];omega
 have hx:=bd (a/BB^i);have hy:=bd (b/BB^k);have UQ:o<BB:=by have:=h.inr.getD (i+k);rw[ho]at this;unfold BB;omega
 refine⟨hk,by rw[List.length_set];exact h.len,h.inr.set _ ⟨by omega,by have:=bd s;omega⟩,fun j hj=>?_,?_,?_⟩
 ·rw[getD_set_ne (by omega)];exact h.zero j hj
 ·have e:=dN (xs:=os) (x:=((s%BB:Nat):Int)) hl;rw[ho]at e;simp only[Q1]at e;have h1:=h.eq;have e2:BB^(i+(k+1))*(s/BB)+BB^(i+k)*(s%BB)=BB^(i+k)*s:=by
   rw[←Nat.add_assoc,O4,Nat.mul_assoc,←Nat.mul_add,Nat.div_add_mod]
  have e3:BB^(i+k)*s=BB^i*((a/BB^i%BB)*(BB^k*(b/BB^k%BB)))+BB^(i+k)*o+BB^(i+k)*c:=by
   rw[hs,Nat.mul_add,Nat.mul_add,Nat.pow_add]
   congr 2
   simp only[O6,Nat.mul_left_comm]
  rw[fg b k,Nat.mul_add,Nat.mul_add];omega
 have hp:(a/BB^i%BB)*(b/BB^k%BB)≤4294967295*4294967295:=Nat.mul_le_mul (by omega) (by omega);have h3:=h.c;rw[Nat.div_lt_iff_lt_mul (by decide)];unfold BB at*
 omega
theorem pZ.next {a b i:Nat}{os:List Int}{c:Nat}(h:pZ a b i (nl b) os c)(hi:i<nl a):gG a b (i+1) (os.set (i+nl b) ((c%BB:Nat):Int)):=by
 have hl:i+nl b<os.length:=by rw[h.len];omega
 have hc:c%BB=c:=O7 h.c;refine⟨hi,by rw[List.length_set];exact h.len,h.inr.set _ ⟨by omega,by have:=bd c;omega⟩,fun j hj=>?_,?_⟩
 ·rw[getD_set_ne (by omega)];exact h.zero j (by omega)
 have e:=dN (xs:=os) (x:=((c%BB:Nat):Int)) hl;rw[h.zero _ (O1 _),hc]at e;simp only[Q1,Int.toNat_zero,Nat.mul_zero,Nat.add_zero]at e;rw[hc,e,h.eq,gS (O1 _),fg a,Nat.add_mul,Nat.mul_assoc]
theorem gG.done {a b:Nat}{os:List Int}(h:gG a b (nl a) os):val os=a*b:=by
 rw[h.eq,gS (O1 _)]
theorem Ag (a b:Nat)(ha:nl a<2^44)(hb:nl b<2^44):Pr prog 206 [.one (.ints .u32 (ak a)),.one (.ints .u32 (ak b))] (.one (.ints .u32 (ak (a*b)))):=by
 refine pw func206 ⟨[0,1,4,5,6,7,8,9,10,18,25,26,27,28,32,33,34,35],[]⟩ ?_;simp only[Tryz.f206,ntmps206,iz,seval];simp only[vx,T,seval];refine⟨fun h0=>Lg ?_,fun h0=>Lg ?_⟩
 ·simp only[vx,T,seval];have h1:=jL h0;refine Va ?_;simp only[cY,a5,ry,seval,h1,Nat.zero_mul,br]
 simp only[vx,T,seval];refine⟨fun h0=>Lg ?_,fun h0=>Lg ?_⟩
 ·simp only[vx,T,seval];have h1:=jL h0;refine Va ?_;simp only[cY,a5,ry,seval,h1,Nat.mul_zero,br]
 simp only[vx,T,seval]
 simp(disch:=omega) only[lG,←X2,←Q2,Q1,Q4,Q5,aD,aK,true_and,and_true]
 refine⟨⟨by omega,by omega,by omega,by omega⟩,Lk (fun i:{i:Nat×List Int//gG a b i.1 i.2}=>⟨[(0,.one (.ints .u32 (ak a))),(1,.one (.ints .u32 (ak b))),(5,.one (.own 1 1 0 (nl a+nl b))),(25,.one (.ints .u32 (ak a))),(26,.one (.int .i64 (nl a))),(27,.one (.int .i64 i.1.1))],[(1,⟨.ints 161 .u32 i.1.2,true⟩)],3,75⟩) (fun i=>nl a-i.1.1) ⟨(0,List.replicate (nl a+nl b) 0),gG.init a b⟩ ?_ (fun⟨⟨i,os⟩,hi⟩=>?_)⟩
 ·refine Sa ?_;simp only[ry,seval,rz]
 have h1:=hi.le;have h2:=hi.len;simp only at h1 h2;simp only[vx,T,seval];refine⟨fun h=>Lg ?_,fun h=>Lg ?_⟩
 ·simp only[vx,T,seval];have hx:=bd (a/BB^i);refine⟨⟨by omega,by omega⟩,Lk (fun k:{k:Nat×List Int×Nat//pZ a b i k.1 k.2.1 k.2.2}=>⟨[(0,.one (.ints .u32 (ak a))),(1,.one (.ints .u32 (ak b))),(5,.one (.own 1 1 0 (nl a+nl b))),(25,.one (.ints .u32 (ak a))),(26,.one (.int .i64 (nl a))),(27,.one (.int .i64 i)),(6,.one (.int .i64 i)),(7,.one (.int .u32 (a/BB^i%BB:Nat))),(8,.one (.int .u64 k.1.2.2)),(32,.one (.ints .u32 (ak b))),(33,.one (.int .i64 (nl b))),(34,.one (.int .i64 k.1.1))],[(1,⟨.ints 161 .u32 k.1.2.1,true⟩)],3,75⟩) (fun k=>nl b-k.1.1) ⟨(0,os,0),hi.start⟩ ?_ (fun⟨⟨k,os',c⟩,hk⟩=>?_)⟩
  ·refine Sa ?_;simp only[ry,seval,rz,lG]
  have h3:=hk.le;have h4:=hk.len;have h5:=hk.c;have h5:c<4294967296:=h5;have hz:=hk.inr.getD (i+k);simp only at h3 h4 hz;obtain⟨o,ho⟩:=Int.eq_ofNat_of_zero_le hz.1;rw[ho]at hz;simp only[vx,T,seval];refine⟨fun h'=>Lg ?_,fun h'=>Lg ?_⟩
  ·simp only[vx,T,seval];have hy:=bd (b/BB^k);have hp:(a/BB^i%BB)*(b/BB^k%BB)≤4294967295*4294967295:=Nat.mul_le_mul (by omega) (by omega)
   simp(disch:=omega) only[lG,←X2,←Q2,Q1,Q4,Q5,aD,aK,true_and,and_true,ho]
   refine⟨by omega,by omega,by omega,Lq ⟨(k+1,_,_),hk.put (s:=c+((a/BB^i%BB)*(b/BB^k%BB)+o)) (by omega) (by omega) ho (by simp only;omega)⟩ ?_ ?_⟩
   ·refine Sa ?_;simp only[ry,seval,rz]
   simp only;omega
  simp only[vx,T,seval];have YT:k=nl b:=by omega
  subst YT
  simp(disch:=omega) only[lG,←X2,←Q2,Q1,Q4,Q5,aD,aK,true_and,and_true]
  refine⟨by omega,Lq ⟨(i+1,_),hk.next (by omega)⟩ ?_ ?_⟩
  ·refine Sa ?_;simp only[ry,seval,rz]
  simp only;omega
 simp only[vx,T,seval];have Uq:i=nl a:=by omega
 subst Uq;have hr:=hi.inr;have hv:=hi.done;simp only at hr hv;rw[List.take_of_length_le (by omega)];refine Cg (du _ hr (by omega)) ?_;rw[hv];simp only[vx,T,seval];refine Va ?_;simp only[cY,a5,ry,seval]
theorem AZ (a b:Nat)(ha:nl a<2^44)(hb:nl b<2^44):Pr prog 188 [.one (.ints .u32 (ak a)),.one (.ints .u32 (ak b))] (.one (.ints .u32 (ak (a*b)))):=by
 refine pw func188 ⟨[0,1,4,5,6,7,8,18,24],[]⟩ ?_;simp only[Tryz.f188,ntmps188,iz,seval];simp only[vx,T,seval]
 simp(disch:=omega) only[lG,←X2,←Q2,Q1,Q4,Q5,aD,aK,true_and,and_true]
 refine⟨⟨by omega,by omega,by omega,by omega⟩,Lk (fun i:{i:Nat×List Int//gG a b i.1 i.2}=>⟨[(0,.one (.ints .u32 (ak a))),(1,.one (.ints .u32 (ak b))),(5,.one (.own 1 1 0 (nl a+nl b))),(6,.one (.int .i64 i.1.1))],[(1,⟨.ints 161 .u32 i.1.2,true⟩)],3,67⟩) (fun i=>nl a-i.1.1) ⟨(0,List.replicate (nl a+nl b) 0),gG.init a b⟩ ?_ (fun⟨⟨i,os⟩,hi⟩=>?_)⟩
 ·refine Sa ?_;simp only[ry,seval,rz]
 have h1:=hi.le;have h2:=hi.len;simp only at h1 h2;simp only[vx,T,seval];refine⟨fun h=>Lg ?_,fun h=>Lg ?_⟩
 ·simp only[vx,T,seval];have hx:=bd (a/BB^i);refine Lk (fun k:{k:Nat×List Int×Nat//pZ a b i k.1 k.2.1 k.2.2}=>⟨[(0,.one (.ints .u32 (ak a))),(1,.one (.ints .u32 (ak b))),(5,.one (.own 1 1 0 (nl a+nl b))),(6,.one (.int .i64 i)),(7,.one (.int .u64 k.1.2.2)),(8,.one (.int .i64 k.1.1))],[(1,⟨.ints 161 .u32 k.1.2.1,true⟩)],3,67⟩) (fun k=>nl b-k.1.1) ⟨(0,os,0),hi.start⟩ ?_ (fun⟨⟨k,os',c⟩,hk⟩=>?_)
  ·refine Sa ?_;simp only[ry,seval,rz,lG]
  have h3:=hk.le;have h4:=hk.len;have h5:=hk.c;have h5:c<4294967296:=h5;have hz:=hk.inr.getD (i+k);simp only at h3 h4 hz;obtain⟨o,ho⟩:=Int.eq_ofNat_of_zero_le hz.1;rw[ho]at hz;simp only[vx,T,seval];refine⟨fun h'=>Lg ?_,fun h'=>Lg ?_⟩
  ·simp only[vx,T,seval];have hy:=bd (b/BB^k);have hp:(a/BB^i%BB)*(b/BB^k%BB)≤4294967295*4294967295:=Nat.mul_le_mul (by omega) (by omega)
   simp(disch:=omega) only[lG,←X2,←Q2,Q1,Q4,Q5,aD,aK,true_and,and_true,ho]
   refine⟨by omega,by omega,by omega,by omega,Lq ⟨(k+1,_,_),hk.put (s:=c+o+(a/BB^i%BB)*(b/BB^k%BB)) (by omega) (by omega) ho (by simp only;omega)⟩ ?_ ?_⟩
   ·refine Sa ?_;simp only[ry,seval,rz]
   simp only;omega
  simp only[vx,T,seval];have YT:k=nl b:=by omega
  subst YT
  simp(disch:=omega) only[lG,←X2,←Q2,Q1,Q4,Q5,aD,aK,true_and,and_true]
  refine⟨by omega,Lq ⟨(i+1,_),hk.next (by omega)⟩ ?_ ?_⟩
  ·refine Sa ?_;simp only[ry,seval,rz]
  simp only;omega
 simp only[vx,T,seval];have Uq:i=nl a:=by omega
 subst Uq;have hr:=hi.inr;have hv:=hi.done;simp only at hr hv;rw[List.take_of_length_le (by omega)];refine Cg (bL _ hr (by omega)) ?_;rw[hv];simp only[vx,T,seval];refine Va ?_;simp only[cY,a5,ry,seval]
open Go Go.Eng
theorem LF {a b:Nat}(ha:a<2^64)(hb:b<2^64):fm .or .u64 (a:Int) (b:Int)=((a|||b:Nat):Int):=by
 have UD:a|||b<2^64:=Nat.or_lt_two_pow ha hb
 show IntKind.u64.wrap ((BitVec.ofInt 64 (a:Int)|||BitVec.ofInt 64 (b:Int)).toNat:Int)=_
 simp only[BitVec.ofInt_natCast,BitVec.toNat_or,BitVec.toNat_ofNat];rw[O7 ha,O7 hb,aV];omega
theorem PO {r d:Nat}(hr:r<BB)(hd:d<BB):fm .or .u64 (IntKind.u64.wrap ((r:Int)*4294967296)) (d:Int)=((BB*r+d:Nat):Int):=by
 have h1:((r:Int)*4294967296)=((BB*r:Nat):Int):=by unfold BB;omega
 rw[h1,Q5 _ (by unfold BB at*;omega),LF (by unfold BB at*;omega) (by unfold BB at*;omega)]
 have:=Nat.two_pow_add_eq_or_of_lt (i:=32) (b:=d) (by unfold BB at hd;omega) r
 have h2:BB=2^32:=rfl;rw[h2,this]
theorem Gz (x i:Nat):x/BB^i=BB*(x/BB^(i+1))+x/BB^i%BB:=by
 rw[O4,←Nat.div_div_eq_div_mul,Nat.div_add_mod]
theorem Jp {h d b:Nat}(hb:0<b):(BB*h+d)/b=BB*(h/b)+(BB*(h%b)+d)/b∧(BB*h+d)%b=(BB*(h%b)+d)%b:=by
 have e:BB*h+d=BB*(h%b)+d+b*(BB*(h/b)):=by
  have h1:=Nat.div_add_mod h b;have h2:BB*h=BB*(b*(h/b))+BB*(h%b):=by rw[←Nat.mul_add,h1]
  rw[Nat.mul_left_comm b BB];omega
 rw[e,Nat.add_mul_div_left _ _ hb,Nat.add_mul_mod_self_left];exact⟨Nat.add_comm _ _,rfl⟩
theorem Dd {r d b:Nat}(hr:r<b)(hd:d<BB):(BB*r+d)/b<BB:=by
 rw[Nat.div_lt_iff_lt_mul (by omega)]
 have:BB*(r+1)≤BB*b:=O9 _ hr
 rw[Nat.mul_add]at this;omega
theorem vI {os:List Int}{i:Nat}{d:Int}(h:i<os.length):(os.set i d).drop i=d::os.drop (i+1):=by
 rw[List.drop_eq_getElem_cons (by simp;omega)]
 simp[List.drop_set]
structure lJ (a b j:Nat) (os:List Int) (r:Nat):Prop where
 le:j≤nl a
 len:os.length=nl a
 inr:bO os
 eq:val (os.drop j)=a/BB^j/b
 r:r=a/BB^j%b
theorem lJ.init (a b:Nat)(hb:0<b):lJ a b (nl a) (List.replicate (nl a) 0) 0:=
 ⟨O1 _,by simp,bO.replicate _,by rw[List.drop_of_length_le (by simp),lA (O1 _)];simp[val],by rw[lA (O1 _)];simp⟩
theorem lJ.put {a b i:Nat}{os:List Int}{r:Nat}(hb:0<b)(h:lJ a b (i+1) os r):
  lJ a b i (os.set i (((BB*r+a/BB^i%BB)/b%BB:Nat):Int)) ((BB*r+a/BB^i%BB)%b):=by
 have hl:i<os.length:=by rw[h.len];exact h.le
 have hr:r<b:=by rw[h.r];exact Nat.mod_lt _ hb
 obtain⟨h1,h2⟩:=Jp (h:=a/BB^(i+1)) (d:=a/BB^i%BB) hb;rw[←Gz]at h1 h2;have hq:=Dd (d:=a/BB^i%BB) hr (Nat.mod_lt _ (by decide));refine⟨Nat.le_of_lt h.le,by rw[List.length_set];exact h.len,h.inr.set _ ⟨by omega,by have:=bd ((BB*r+a/BB^i%BB)/b);omega⟩,?_,?_⟩
 ·rw[vI hl];simp only[val,Q1];rw[h.eq,h1,O7 hq,←h.r];omega
 rw[h2,←h.r]
theorem rH (a b:Nat)(ha:nl a<2^44)(hb:0<b)(Tr:b<BB):Pr prog 257 [.one (.ints .u32 (ak a)),.one (.int .u32 b)] (.aB [.one (.ints .u32 (ak (a/b))),.one (.ints .u32 (ak (a%b)))]):=by
 have hb3:b<4294967296:=Tr;refine pw func257 ⟨[0,1,4,5,6,7,8,16],[]⟩ ?_;simp only[Tryz.f257,ntmps257,iz,seval];simp only[vx,T,seval]
 simp(disch:=omega) only[lG,←X2,←Q2,Q1,Q4,Q5,aD,aK,true_and,and_true]
 refine⟨⟨by omega,by omega,by omega,by omega⟩,Lk (fun j:{j:Nat×List Int×Nat//lJ a b j.1 j.2.1 j.2.2}=>⟨[(0,.one (.ints .u32 (ak a))),(1,.one (.int .u32 b)),(6,.one (.own 1 1 0 (nl a))),(7,.one (.int .u64 j.1.2.2)),(8,.one (.int .i64 ((j.1.1:Int)-1)))],[(1,⟨.ints 161 .u32 j.1.2.1,true⟩)],3,43⟩) (fun j=>j.1.1) ⟨(nl a,List.replicate (nl a) 0,0),lJ.init a b hb⟩ ?_ (fun⟨⟨j,os,r⟩,hj⟩=>?_)⟩
 ·refine Sa ?_;simp only[ry,seval,rz]
 have h1:=hj.le;have h2:=hj.len;have h3:r<b:=by have:=hj.r;simp only at this;rw[this];exact Nat.mod_lt _ hb
 simp only at h1 h2;simp only[vx,T,seval];refine⟨fun h=>Lg ?_,fun h=>Lg ?_⟩
 ·obtain⟨i,rfl⟩:∃i,j=i+1:=⟨j-1,by omega⟩;simp only[show ((i+1:Nat):Int)-1=(i:Int) by omega,Q1]at h⊢;simp only[vx,T,seval];have hx:=bd (a/BB^i);have e1:=Q5 (a/BB^i%BB:Nat) (by omega);have e2:=Q5 (b:Int) (by omega);have e3:(((BB*r+a/BB^i%BB:Nat):Int).tdiv b)=(((BB*r+a/BB^i%BB)/b:Nat):Int):=rfl;have e4:(((BB*r+a/BB^i%BB:Nat):Int).tmod b)=(((BB*r+a/BB^i%BB)%b:Nat):Int):=rfl;have hq:=Dd (d:=a/BB^i%BB) h3 hx;have Z5:(BB*r+a/BB^i%BB)/b<4294967296:=hq;have e5:IntKind.u64.wrap (((BB*r+a/BB^i%BB)/b:Nat):Int)=(((BB*r+a/BB^i%BB)/b:Nat):Int):=by
   generalize(BB*r+a/BB^i%BB)/b=q at Z5
   exact Q5 _ (by omega)
  simp only[lG,e1,e2,PO (show r<BB by unfold BB;omega) hx,e3,e4,e5]
  simp(disch:=omega) only[lG,←X2,←Q2,Q1,Q4,Q5,aD,aK,true_and,and_true]
  refine⟨⟨by omega,by omega⟩,by omega,⟨by omega,by omega⟩,by omega,Lq ⟨(i,_,_),hj.put hb⟩ ?_ ?_⟩
  ·refine Sa ?_;simp only[ry,seval,rz]
  simp only;omega
 simp only[vx,T,seval];have YU:j=0:=by omega
 subst YU;have hr:=hj.inr;have hv:=hj.eq;have SQ:=hj.r;simp only[Nat.pow_zero,Nat.div_one,List.drop_zero]at hr hv SQ;rw[List.take_of_length_le (by omega)];refine Cg (du _ hr (by omega)) ?_;rw[hv];simp only[vx,T,seval];refine Cg (dr r (by omega)) ?_;rw[SQ];simp only[vx,T,seval];refine Va ?_;simp only[cY,a5,ry,seval]
theorem HO (a b:Nat)(ha:nl a<2^44)(hb:0<b)(Tr:b<BB):Pr prog 192 [.one (.ints .u32 (ak a)),.one (.int .u32 b)] (.aB [.one (.ints .u32 (ak (a/b))),.one (.int .u32 (a%b:Nat))]):=by
 have hb3:b<4294967296:=Tr;refine pw func192 ⟨[0,1,4,5,6,7,8,16],[]⟩ ?_;simp only[Tryz.f192,ntmps192,iz,seval];simp only[vx,T,seval]
 simp(disch:=omega) only[lG,←X2,←Q2,Q1,Q4,Q5,aD,aK,true_and,and_true]
 refine⟨⟨by omega,by omega,by omega,by omega⟩,Lk (fun j:{j:Nat×List Int×Nat//lJ a b j.1 j.2.1 j.2.2}=>⟨[(0,.one (.ints .u32 (ak a))),(1,.one (.int .u32 b)),(6,.one (.own 1 1 0 (nl a))),(7,.one (.int .u64 j.1.2.2)),(8,.one (.int .i64 ((j.1.1:Int)-1)))],[(1,⟨.ints 161 .u32 j.1.2.1,true⟩)],3,43⟩) (fun j=>j.1.1) ⟨(nl a,List.replicate (nl a) 0,0),lJ.init a b hb⟩ ?_ (fun⟨⟨j,os,r⟩,hj⟩=>?_)⟩
 ·refine Sa ?_;simp only[ry,seval,rz]
 have h1:=hj.le;have h2:=hj.len;have h3:r<b:=by have:=hj.r;simp only at this;rw[this];exact Nat.mod_lt _ hb
 simp only at h1 h2;simp only[vx,T,seval];refine⟨fun h=>Lg ?_,fun h=>Lg ?_⟩
 ·obtain⟨i,rfl⟩:∃i,j=i+1:=⟨j-1,by omega⟩;simp only[show ((i+1:Nat):Int)-1=(i:Int) by omega,Q1]at h⊢;simp only[vx,T,seval];have hx:=bd (a/BB^i);have e1:=Q5 (a/BB^i%BB:Nat) (by omega);have e2:=Q5 (b:Int) (by omega);have e3:(((BB*r+a/BB^i%BB:Nat):Int).tdiv b)=(((BB*r+a/BB^i%BB)/b:Nat):Int):=rfl;have e4:(((BB*r+a/BB^i%BB:Nat):Int).tmod b)=(((BB*r+a/BB^i%BB)%b:Nat):Int):=rfl;have hq:=Dd (d:=a/BB^i%BB) h3 hx;have Z5:(BB*r+a/BB^i%BB)/b<4294967296:=hq;have e5:IntKind.u64.wrap (((BB*r+a/BB^i%BB)/b:Nat):Int)=(((BB*r+a/BB^i%BB)/b:Nat):Int):=by
   generalize(BB*r+a/BB^i%BB)/b=q at Z5
   exact Q5 _ (by omega)
  simp only[lG,e1,e2,PO (show r<BB by unfold BB;omega) hx,e3,e4,e5]
  simp(disch:=omega) only[lG,←X2,←Q2,Q1,Q4,Q5,aD,aK,true_and,and_true]
  refine⟨⟨by omega,by omega⟩,by omega,⟨by omega,by omega⟩,by omega,Lq ⟨(i,_,_),hj.put hb⟩ ?_ ?_⟩
  ·refine Sa ?_;simp only[ry,seval,rz]
  simp only;omega
 simp only[vx,T,seval];have YU:j=0:=by omega
 subst YU;have hr:=hj.inr;have hv:=hj.eq;have SQ:=hj.r;simp only[Nat.pow_zero,Nat.div_one,List.drop_zero]at hr hv SQ;rw[List.take_of_length_le (by omega)];refine Cg (bL _ hr (by omega)) ?_;rw[hv];simp only[vx,T,seval];have e6:IntKind.u32.wrap (r:Int)=r:=IntWalk.u32_in _ (by omega);rw[e6,SQ];refine Va ?_;simp only[cY,a5,ry,seval]
open Go Go.Eng
structure qU (xs:List Int) (off y i:Nat) (zs:List Int) (c:Nat):Prop where
 le:i≤nl y
 len:zs.length=xs.length
 inr:bO zs
 up:zs.drop (off+nl y+1)=xs.drop (off+nl y+1)
 eq:val zs+BB^(off+i)*c=val xs+BB^off*(y%BB^i)
 c:c≤1
theorem set_drop {zs:List Int}{i j:Nat}{d:Int}(h:i<j):(zs.set i d).drop j=zs.drop j:=List.drop_set_of_lt h
theorem qU.put {xs:List Int}{off y i:Nat}{zs:List Int}{c o s:Nat}(h:qU xs off y i zs c)(hi:i<nl y)(hl:off+nl y<xs.length)(ho:zs.getD (off+i) 0=(o:Int))(hs:s=o+y/BB^i%BB+c):
  qU xs off y (i+1) (zs.set (off+i) ((s%BB:Nat):Int)) (s/BB):=by
 have SJ:off+i<zs.length:=by rw[h.len];omega
 have hy:=bd (y/BB^i);have UQ:o<4294967296:=by have:=h.inr.getD (off+i);rw[ho]at this;omega
 refine⟨hi,by rw[List.length_set];exact h.len,h.inr.set _ ⟨by omega,by have:=bd s;omega⟩,by rw[set_drop (by omega)];exact h.up,?_,?_⟩
 ·have e:=dN (xs:=zs) (x:=((s%BB:Nat):Int)) SJ;rw[ho]at e;simp only[Q1]at e;have h1:=h.eq;have e2:BB^(off+(i+1))*(s/BB)+BB^(off+i)*(s%BB)=BB^(off+i)*s:=by
   rw[←Nat.add_assoc,O4,Nat.mul_assoc,←Nat.mul_add,Nat.div_add_mod]
  have e3:BB^(off+i)*s=BB^(off+i)*o+BB^off*(BB^i*(y/BB^i%BB))+BB^(off+i)*c:=by
   rw[hs,Nat.mul_add,Nat.mul_add,←Nat.mul_assoc (BB^off),←Nat.pow_add]
  rw[fg y i,Nat.mul_add];omega
 have h3:=h.c
 have:s/BB<2:=by rw[Nat.div_lt_iff_lt_mul (by decide)];unfold BB at*;omega
 omega
def QS (xs:List Int)(off y:Nat)(r:V)(B':Bk):Prop:=
 r= .aB []∧∃zs k,B'= .ints 161 .u32 zs∧zs.length=xs.length∧bO zs∧zs.drop (off+nl y+1)=xs.drop (off+nl y+1)∧val zs+BB^(off+nl y+1)*k=val xs+BB^off*y
theorem qU.done {xs:List Int}{off y:Nat}{zs:List Int}{c o:Nat}(h:qU xs off y (nl y) zs c)(hl:off+nl y<xs.length)(ho:zs.getD (off+nl y) 0=(o:Int)):
  QS xs off y (.aB []) (.ints 161 .u32 (zs.set (off+nl y) (((o+c%BB)%BB:Nat):Int))):=by
 have SJ:off+nl y<zs.length:=by rw[h.len];omega
 have hc:c%BB=c:=O7 (by have:=h.c;unfold BB;omega);refine⟨rfl,_,(o+c)/BB,rfl,by rw[List.length_set];exact h.len,h.inr.set _ ⟨by omega,by have:=bd (o+c%BB);omega⟩,by rw[set_drop (by omega)];exact h.up,?_⟩;have e:=dN (xs:=zs) (x:=(((o+c)%BB:Nat):Int)) SJ;rw[ho]at e;simp only[Q1]at e;have h1:=h.eq;rw[gS (O1 _)]at h1;have e2:BB^(off+nl y+1)*((o+c)/BB)+BB^(off+nl y)*((o+c)%BB)=BB^(off+nl y)*(o+c):=by
  rw[O4,Nat.mul_assoc,←Nat.mul_add,Nat.div_add_mod]
 rw[Nat.mul_add]at e2;rw[hc];omega
theorem kz (xs:List Int)(off y:Nat)(hx:bO xs)(hl:off+nl y<xs.length)(hlen:xs.length<2^44):Mc prog 261 [.one (.own 0 1 off (nl y+1)),.one (.ints .u32 (ak y))] (.ints 161 .u32 xs) (QS xs off y):=by
 refine mw func261 ⟨[0,1,4,5,6,7,8,9,10],[]⟩ ?_;simp only[Tryz.f261,ntmps261,iz,seval];simp only[vx,T,seval];refine Lk (fun i:{i:Nat×List Int×Nat//qU xs off y i.1 i.2.1 i.2.2}=>⟨[(0,.one (.own 0 1 off (nl y+1))),(1,.one (.ints .u32 (ak y))),(4,.one (.int .u64 i.1.2.2)),(7,.one (.ints .u32 (ak y))),(8,.one (.int .i64 (nl y))),(9,.one (.int .i64 i.1.1))],[(0,⟨.ints 161 .u32 i.1.2.1,true⟩)],3,41⟩) (fun i=>nl y-i.1.1) ⟨(0,xs,0),O2 _,rfl,hx,rfl,by simp[Nat.mod_one],O2 _⟩ ?_ (fun⟨⟨i,zs,c⟩,hi⟩=>?_)
 ·refine Sa ?_;simp only[ry,seval,rz]
 have h1:=hi.le;have h2:=hi.len;have h3:=hi.c;have hz:=hi.inr.getD (off+i);simp only at h1 h2 h3 hz;obtain⟨o,ho⟩:=Int.eq_ofNat_of_zero_le hz.1;rw[ho]at hz;simp only[vx,T,seval];refine⟨fun h=>Lg ?_,fun h=>Lg ?_⟩
 ·simp only[vx,T,seval];have hy:=bd (y/BB^i)
  simp(disch:=omega) only[lG,←X2,←Q2,Q1,Q4,Q5,aD,aK,true_and,and_true,ho]
  refine⟨by omega,by omega,by omega,Lq ⟨(i+1,_,_),hi.put (s:=c+(o+y/BB^i%BB)) (by simp only;omega) hl ho (by simp only;omega)⟩ ?_ ?_⟩
  ·refine Sa ?_;simp only[ry,seval,rz]
  simp only;omega
 simp only[vx,T,seval];have hiy:i=nl y:=by omega
 subst hiy
 simp(disch:=omega) only[lG,←X2,←Q2,Q1,Q4,Q5,aD,aK,true_and,and_true,ho]
 exact⟨by omega,by omega,hi.done hl ho⟩
open Go Go.Eng
theorem Ah {x c:Nat}(hx:x<BB)(hc:c<BB):IntKind.u32.wrap (IntKind.u64.wrap ((x:Int)-c))=(iH x c 0:Nat):=by
 unfold iH fh;unfold BB at*
 rw[IntKind.wrap_u32,aV]
 split<;>omega
theorem A9 {x c:Nat}(hx:x<BB)(hc:c<BB):(IntKind.u64.wrap ((x:Int)-c)).fdiv 9223372036854775808=(fh x c 0:Nat):=by
 unfold fh;unfold BB at*
 rw[aV,Int.fdiv_eq_ediv_of_nonneg _ (by decide)]
 split<;>omega
structure qW (xs:List Int) (off y D i:Nat) (zs:List Int) (c:Nat):Prop where
 le:i≤nl y
 len:zs.length=xs.length
 inr:bO zs
 up:zs.drop (off+nl y+1)=xs.drop (off+nl y+1)
 eq:val zs+BB^off*(D*(y%BB^i))=val xs+BB^(off+i)*c
 c:c<BB
theorem xb {x D c o:Nat}(hx:x<BB)(hD:D<BB)(hc:c<BB)(ho:o<BB):iH o ((x*D+c)%BB) 0+(x*D+c)=o+BB*((x*D+c)/BB+fh o ((x*D+c)%BB) 0)∧iH o ((x*D+c)%BB) 0<BB∧(x*D+c)/BB+fh o ((x*D+c)%BB) 0<BB:=by
 obtain⟨h1,h2,h3⟩:=yP ho (Nat.mod_lt (x*D+c) (show BB>0 by decide)) (O2 1);have h4:=Nat.div_add_mod (x*D+c) BB;have h5:x*D≤4294967295*4294967295:=Nat.mul_le_mul (by unfold BB at hx;omega) (by unfold BB at hD;omega);refine⟨by rw[Nat.mul_add];omega,h2,?_⟩;have h6:fh o ((x*D+c)%BB) 0=1→0<(x*D+c)%BB:=by
  intro h;unfold fh at h
  split at h
  ·omega
  cases h
 generalize fh o ((x*D+c)%BB) 0=bor at*
 generalize(x*D+c)%BB=low at*
 generalize(x*D+c)/BB=q at*
 unfold BB at*
 rcases Nat.lt_or_ge bor 1 with h7|h7
 ·omega
 have:=h6 (by omega)
 omega
theorem qW.put {xs:List Int}{off y D i:Nat}{zs:List Int}{c o:Nat}(h:qW xs off y D i zs c)(hD:D<BB)(hi:i<nl y)(hl:off+nl y<xs.length)(ho:zs.getD (off+i) 0=(o:Int)):
  qW xs off y D (i+1) (zs.set (off+i) ((iH o ((y/BB^i%BB*D+c)%BB) 0:Nat):Int)) ((y/BB^i%BB*D+c)/BB+fh o ((y/BB^i%BB*D+c)%BB) 0):=by
 have SJ:off+i<zs.length:=by rw[h.len];omega
 have UQ:o<BB:=by have:=h.inr.getD (off+i);rw[ho]at this;unfold BB;omega
 obtain⟨h1,h2,h3⟩:=xb (bd (y/BB^i)) hD h.c UQ;refine⟨hi,by rw[List.length_set];exact h.len,h.inr.set _ ⟨by omega,by have:iH o ((y/BB^i%BB*D+c)%BB) 0<4294967296:=h2;omega⟩,by rw[set_drop (by omega)];exact h.up,?_,h3⟩;have e:=dN (xs:=zs) (x:=((iH o ((y/BB^i%BB*D+c)%BB) 0:Nat):Int)) SJ;rw[ho]at e;simp only[Q1]at e;have h4:=h.eq
 generalize iH o ((y/BB^i%BB*D+c)%BB) 0=dd at*
 generalize(y/BB^i%BB*D+c)/BB+fh o ((y/BB^i%BB*D+c)%BB) 0=cc at*
 have e2:BB^(off+(i+1))*cc=BB^(off+i)*(BB*cc):=by rw[←Nat.add_assoc,O4,Nat.mul_assoc]
 have e3:BB^(off+i)*dd+BB^(off+i)*(y/BB^i%BB*D)+BB^(off+i)*c=BB^(off+i)*o+BB^(off+i)*(BB*cc):=by
  rw[←Nat.mul_add,←Nat.mul_add,←Nat.mul_add,←h1,Nat.add_assoc]
 have e4:BB^off*(D*(y%BB^(i+1)))=BB^off*(D*(y%BB^i))+BB^(off+i)*(y/BB^i%BB*D):=by
  rw[fg y i,Nat.mul_add,Nat.mul_add,Nat.pow_add,Nat.mul_assoc,Nat.mul_left_comm D,O6 D (y/BB^i%BB)]
 rw[e2,e4];omega
def Qi (xs:List Int)(off y D:Nat)(r:V)(B':Bk):Prop:=
 ∃t zs,r= .one (.bool t)∧B'= .ints 161 .u32 zs∧zs.length=xs.length∧bO zs∧zs.drop (off+nl y+1)=xs.drop (off+nl y+1)∧val zs+BB^off*(D*y)=val xs+BB^(off+nl y+1)*(if t then 1 else 0)
theorem qW.done {xs:List Int}{off y D:Nat}{zs:List Int}{c o:Nat}(h:qW xs off y D (nl y) zs c)(hl:off+nl y<xs.length)(ho:zs.getD (off+nl y) 0=(o:Int)):
  Qi xs off y D (.one (.bool (decide (((fh o c 0:Nat):Int)=1)))) (.ints 161 .u32 (zs.set (off+nl y) ((iH o c 0:Nat):Int))):=by
 have SJ:off+nl y<zs.length:=by rw[h.len];omega
 have UQ:o<BB:=by have:=h.inr.getD (off+nl y);rw[ho]at this;unfold BB;omega
 obtain⟨h1,h2,h3⟩:=yP UQ h.c (O2 1);refine⟨_,_,rfl,rfl,by rw[List.length_set];exact h.len,h.inr.set _ ⟨by omega,by have:iH o c 0<4294967296:=h2;omega⟩,by rw[set_drop (by omega)];exact h.up,?_⟩;have e:=dN (xs:=zs) (x:=((iH o c 0:Nat):Int)) SJ;rw[ho]at e;simp only[Q1]at e;have h4:=h.eq;rw[gS (O1 _)]at h4;have hb:(if decide (((fh o c 0:Nat):Int)=1)=true then 1 else 0)=fh o c 0:=by
  by_cases h5:fh o c 0=1
  ·rw[h5];rfl
  rw[if_neg (by simp;omega)];omega
 rw[hb]
 generalize iH o c 0=dd at*
 generalize fh o c 0=bb at*
 have e3:BB^(off+nl y)*dd+BB^(off+nl y)*c=BB^(off+nl y)*o+BB^(off+nl y+1)*bb:=by
  rw[O4,Nat.mul_assoc,←Nat.mul_add,←Nat.mul_add]
  congr 1
 omega
theorem jP (xs:List Int)(off y D:Nat)(hx:bO xs)(hl:off+nl y<xs.length)(hlen:xs.length<2^44)(hD:D<BB):Mc prog 260 [.one (.own 0 1 off (nl y+1)),.one (.ints .u32 (ak y)),.one (.int .u64 D)] (.ints 161 .u32 xs) (Qi xs off y D):=by
 have hD2:D<4294967296:=hD;refine mw func260 ⟨[0,1,2,6,7,8,9,10,11,12,13,14,15,16],[]⟩ ?_;simp only[Tryz.f260,ntmps260,iz,seval];simp only[vx,T,seval];refine Lk (fun i:{i:Nat×List Int×Nat//qW xs off y D i.1 i.2.1 i.2.2}=>⟨[(0,.one (.own 0 1 off (nl y+1))),(1,.one (.ints .u32 (ak y))),(2,.one (.int .u64 D)),(7,.one (.int .u64 i.1.2.2)),(13,.one (.ints .u32 (ak y))),(14,.one (.int .i64 (nl y))),(15,.one (.int .i64 i.1.1))],[(0,⟨.ints 161 .u32 i.1.2.1,true⟩)],3,63⟩) (fun i=>nl y-i.1.1) ⟨(0,xs,0),O2 _,rfl,hx,rfl,by simp[Nat.mod_one],by simp only;decide⟩ ?_ (fun⟨⟨i,zs,c⟩,hi⟩=>?_)
 ·refine Sa ?_;simp only[ry,seval,rz]
 have h1:=hi.le;have h2:=hi.len;have h3:=hi.c;have Xv:c<4294967296:=h3;have hz:=hi.inr.getD (off+i);simp only at h1 h2 h3 hz;obtain⟨o,ho⟩:=Int.eq_ofNat_of_zero_le hz.1;rw[ho]at hz;have UQ:o<BB:=by unfold BB;omega
 simp only[vx,T,seval];refine⟨fun h=>Lg ?_,fun h=>Lg ?_⟩
 ·simp only[vx,T,seval];have hy:=bd (y/BB^i);have hp:y/BB^i%BB*D≤4294967295*4294967295:=Nat.mul_le_mul (by omega) (by omega)
  simp(disch:=omega) only[lG,←X2,←Q2,Q1,Q4,Q5,aD,aK,true_and,and_true,ho]
  have hm:=bd (y/BB^i%BB*D+c);obtain⟨_,_,V3⟩:=xb hy hD h3 UQ;have e1:IntKind.u64.wrap (((y/BB^i%BB*D+c)%BB:Nat):Int)=(((y/BB^i%BB*D+c)%BB:Nat):Int):=Q5 _ (by omega);have e2:IntKind.u64.wrap (((y/BB^i%BB*D+c)/BB+fh o ((y/BB^i%BB*D+c)%BB) 0:Nat):Int)=(((y/BB^i%BB*D+c)/BB+fh o ((y/BB^i%BB*D+c)%BB) 0:Nat):Int):=by
   generalize(y/BB^i%BB*D+c)/BB+fh o ((y/BB^i%BB*D+c)%BB) 0=q at V3
   exact Q5 _ (by unfold BB at V3;omega)
  simp only[e1,Ah UQ hm,A9 UQ hm,←X2,e2];refine⟨by omega,by omega,by omega,Lq ⟨(i+1,_,_),hi.put hD (by simp only;omega) hl ho⟩ ?_ ?_⟩
  ·refine Sa ?_;simp only[ry,seval,rz]
  simp only;omega
 simp only[vx,T,seval];have hiy:i=nl y:=by omega
 subst hiy
 simp(disch:=omega) only[lG,←X2,←Q2,Q1,Q4,Q5,aD,aK,true_and,and_true,ho]
 simp only[Ah UQ h3,A9 UQ h3];exact⟨by omega,by omega,hi.done hl ho⟩
end Go.Proofs.YtehahgjkjfoebaaGreat
namespace Go.Eng
def ij:Nat→Nat→List Int
 |0,_=>[]
 |k+1,n=>((n%BB:Nat):Int)::ij k (n/BB)
theorem aP:∀k n,(ij k n).length=k
 |0,_=>rfl
 |k+1,n=>by simp[ij,aP k]
theorem gn:∀k n,bO (ij k n)
 |0,_=>bO.nil
 |k+1,n=>bO.cons ⟨by omega,by have:=Nat.mod_lt n (show BB>0 by decide);unfold BB at*;omega⟩ (gn k _)
theorem jV:∀k n,val (ij k n)=n%BB^k
 |0,n=>by simp[ij,val,Nat.mod_one]
 |k+1,n=>by
  simp only[ij,val,jV k,Q1];rw[O4,O6 (BB^k),Nat.mod_mul]
theorem xI:∀{xs:List Int},bO xs→ij xs.length (val xs)=xs
 |[],_=>rfl
 |x::xs,h=>by
  have h2:=h.head;have h3:x.toNat<BB:=by unfold BB;omega
  simp only[List.length_cons,ij,val];rw[Nat.add_mul_mod_self_left,O7 h3,Nat.add_mul_div_left _ _ (by decide:0<BB),Nat.div_eq_of_lt h3,Nat.zero_add,xI h.tail]
  congr 1;omega
theorem qJ {xs:List Int}{k n:Nat}(h:bO xs)(hl:xs.length=k)(hv:val xs=n):xs=ij k n:=by
 rw[←hl,←hv,xI h]
theorem JS {U V P high next Vr top u2 Ur:Nat}(hU:U=(top*BB+u2)*P+Ur)(hV:V=(high*BB+next)*P+Vr)(hUr:Ur<P)(TU:u2<BB)(hh:0<high):U/V≤top/high:=by
 rw[Nat.le_div_iff_mul_le hh];have h1:=Nat.div_mul_le_self U V
 generalize U/V=q at h1⊢
 rcases Nat.lt_or_ge top (q*high)with h2|h2
 ·exfalso
  have h3:(top+1)*(BB*P)≤q*high*(BB*P):=O8 _ h2;have h4:q*high*(BB*P)≤q*V:=by
   rw[hV,Nat.mul_assoc];refine O9 _ ?_;rw[Nat.add_mul,Nat.mul_assoc];omega
  have h5:(u2+1)*P≤BB*P:=O8 _ TU;rw[Nat.add_mul,Nat.mul_assoc top]at hU;rw[Nat.add_mul]at h3 h5;omega
 exact h2
theorem LP {U V P V2 Vr T3 Ur D:Nat}(hU:U=T3*P+Ur)(hV:V=V2*P+Vr)(hUr:Ur<P)(hD:T3<D*V2):U/V<D:=by
 have h1:=Nat.div_mul_le_self U V
 generalize U/V=q at h1⊢
 rcases Nat.lt_or_ge q D with h2|h2
 ·exact h2
 exfalso
 have h3:D*V2≤q*V2:=O8 _ h2;have h4:(T3+1)*P≤q*V2*P:=O8 _ (by omega);have h5:q*V2*P≤q*V:=by rw[hV,Nat.mul_assoc];exact O9 _ (by omega)
 rw[Nat.add_mul]at h4;omega
theorem Oq {U V P V2 Vr T3 Ur D:Nat}(hU:U=T3*P+Ur)(hV:V=V2*P+Vr)(hVr:Vr<P)(hD:D*V2≤T3)(hl:D≤V2)(hV0:0<V):D≤U/V+1:=by
 rcases Nat.lt_or_ge (U/V+1) D with h|h
 ·exfalso
  have h1:U<(U/V+1)*V:=by
   have e:=Nat.div_add_mod U V;have l:=Nat.mod_lt U hV0;rw[Nat.add_mul,O6 (U/V)];omega
  generalize U/V=q at h h1
  have h2:(q+1)*V≤(q+1)*((V2+1)*P):=O9 _ (by rw[hV,Nat.add_mul];omega);have h3:D*V2*P≤T3*P:=O8 _ hD;have h4:D*V2*P<(q+1)*(V2+1)*P:=by rw[Nat.mul_assoc (q+1)];omega
  have h5:D*V2<(q+1)*(V2+1):=Nat.lt_of_mul_lt_mul_right h4;have h6:(q+2)*V2≤D*V2:=O8 _ h;have e1:(q+2)*V2=q*V2+2*V2:=Nat.add_mul _ _ _;have e2:(q+1)*(V2+1)=q*V2+V2+q+1:=by rw[Nat.add_mul,Nat.mul_add];omega
  omega
 exact h
end Go.Eng
namespace Go.Proofs.YtehahgjkjfoebaaGreat
open Go.Proofs.Tryz
open Go Go.Eng
theorem xp {a b:Nat}(ha:a<2^32)(hb:b<2^32):fm .or .u32 (a:Int) (b:Int)=((a|||b:Nat):Int):=by
 have UD:a|||b<2^32:=Nat.or_lt_two_pow ha hb
 show IntKind.u32.wrap ((BitVec.ofInt 32 (a:Int)|||BitVec.ofInt 32 (b:Int)).toNat:Int)=_
 simp only[BitVec.ofInt_natCast,BitVec.toNat_or,BitVec.toNat_ofNat];rw[O7 ha,O7 hb,IntKind.wrap_u32];omega
theorem EA {w n:Nat}(hn:n≤32):(w*2^n)%BB=2^n*(w%2^(32-n)):=by
 have:BB=2^n*2^(32-n):=by rw[←Nat.pow_add,show n+(32-n)=32 by omega];rfl
 rw[this,O6 w,Nat.mul_mod_mul_left]
theorem CB {w n o:Nat}(hn:n<32)(ho:o<2^n):fm .or .u32 (o:Int) (((w*2^n)%BB:Nat):Int)=((o+(w*2^n)%BB:Nat):Int)∧o+(w*2^n)%BB<BB:=by
 have h1:2^n≤2^31:=O3 (by decide) (by omega);have hm:=bd (w*2^n);have e:=Nat.two_pow_add_eq_or_of_lt ho (w%2^(32-n));rw[←EA (by omega)]at e
 have e3:o|||(w*2^n)%BB=o+(w*2^n)%BB:=by rw[Nat.or_comm,←e,Nat.add_comm]
 have h2:o|||(w*2^n)%BB<2^32:=Nat.or_lt_two_pow (by omega) (by omega)
 rw[e3]at h2;refine⟨by rw[xp (by omega) (by omega),e3],h2⟩
structure k9 (a n i:Nat) (zs:List Int):Prop where
 le:i≤nl a
 len:zs.length=nl a+1
 inr:bO zs
 eq:val zs=(a%BB^i)*2^n
theorem k9.init (a n:Nat):k9 a n 0 (List.replicate (nl a+1) 0):=⟨O2 _,by simp,bO.replicate _,by rw[cO];simp[Nat.mod_one]⟩
def MT (a n i:Nat):Nat:=(a%BB^i)*2^n/BB^i
theorem k9.get {a n i:Nat}{zs:List Int}(h:k9 a n i zs)(hn:n<32):zs.getD i 0=(MT a n i:Nat)∧MT a n i<2^n∧zs.getD (i+1) 0=0:=by
 have hp:0<BB^i:=Nat.pow_pos (by decide);have h1:MT a n i<2^n:=by
  unfold MT;rw[Nat.div_lt_iff_lt_mul hp,O6];exact Nat.mul_lt_mul_of_pos_left (Nat.mod_lt _ hp) (Nat.pow_pos (by decide))
 have h2:2^n≤2^31:=O3 (by decide) (by omega);have h3:MT a n i<BB:=by unfold BB;omega
 refine⟨?_,h1,?_⟩
 ·rw[dk h.inr,h.eq]
  show((MT a n i%BB:Nat):Int)=_
  rw[O7 h3]
 rw[dk h.inr,h.eq,O4,←Nat.div_div_eq_div_mul]
 show((MT a n i/BB%BB:Nat):Int)=0
 rw[Nat.div_eq_of_lt h3];rfl
theorem Ql {P o v1 v2 A Z W:Nat}(e1:A+P*o=Z+P*v1)(e2:W=A+P*(BB*v2)):W+P*o=Z+P*v1+P*(BB*v2):=by omega
theorem Rz {zs:List Int}{i o v1 v2:Nat}(hr:bO zs)(hl:i+1<zs.length)(ho:zs.getD i 0=(o:Int))(hz:zs.getD (i+1) 0=0)(h1:v1<4294967296)(h2:v2<4294967296):
  bO ((zs.set i (v1:Int)).set (i+1) (v2:Int))∧val ((zs.set i (v1:Int)).set (i+1) (v2:Int))+BB^i*o=val zs+BB^i*v1+BB^i*(BB*v2):=by
 refine⟨(hr.set _ ⟨by omega,by omega⟩).set _ ⟨by omega,by omega⟩,?_⟩;have e1:val (zs.set i (v1:Int))+BB^i*o=val zs+BB^i*v1:=by
  have e:=dN (xs:=zs) (i:=i) (x:=(v1:Int)) (by omega);rw[ho]at e;exact e
 have e2:val ((zs.set i (v1:Int)).set (i+1) (v2:Int))=val (zs.set i (v1:Int))+BB^i*(BB*v2):=by
  have e:=dN (xs:=zs.set i (v1:Int)) (i:=i+1) (x:=(v2:Int)) (by rw[List.length_set];exact hl);rw[getD_set_ne (by omega),hz,O4,Nat.mul_assoc,Nat.mul_assoc]at e;exact e
 exact Ql e1 e2
theorem k9.put {a n i:Nat}{zs:List Int}(h:k9 a n i zs)(hn:n<32)(hi:i<nl a):
  k9 a n (i+1) ((zs.set i ((MT a n i+(a/BB^i%BB*2^n)%BB:Nat):Int)).set (i+1) (((a/BB^i%BB*2^n)/BB%BB:Nat):Int)):=by
 obtain⟨g1,g2,g3⟩:=h.get hn;obtain⟨_,g4⟩:=CB (w:=a/BB^i%BB) hn g2;have h2:2^n≤2^31:=O3 (by decide) (by omega);have h4:a/BB^i%BB*2^n/BB<BB:=by
  rw[Nat.div_lt_iff_lt_mul (by decide)];exact Nat.lt_of_le_of_lt (O9 _ (O0 h2 (by decide:2^31≤BB))) (Nat.mul_lt_mul_of_pos_right (bd _) (by decide))
 rw[O7 h4];obtain⟨k1,k2⟩:=Rz h.inr (by rw[h.len];omega) g1 g3 g4 h4;refine⟨hi,by simp only[List.length_set];exact h.len,k1,?_⟩;have e4:(a%BB^(i+1))*2^n=(a%BB^i)*2^n+BB^i*(a/BB^i%BB*2^n):=by
  rw[fg a i,Nat.add_mul,Nat.mul_assoc]
 rw[e4,←h.eq]
 generalize a/BB^i%BB*2^n=X at k2⊢
 have e5:=Nat.div_add_mod X BB;have e6:BB^i*X=BB^i*(BB*(X/BB))+BB^i*(X%BB):=by rw[←Nat.mul_add,e5]
 rw[Nat.mul_add]at k2;omega
theorem pY (n:Nat):(2:Int)^n=((2^n:Nat):Int):=by simp
theorem Nh {w n:Nat}(hw:w<BB)(hn:n<32):w*2^n<9223372036854775808:=by
 have h2:2^n≤2^31:=O3 (by decide) (by omega);exact Nat.lt_of_le_of_lt (O9 _ h2) (Nat.mul_lt_mul_of_pos_right hw (by decide))
theorem k9.done {a n:Nat}{zs:List Int}(h:k9 a n (nl a) zs):zs=ij (nl a+1) (a*2^n):=
 qJ h.inr h.len (by rw[h.eq,gS (O1 _)])
theorem mm (a n:Nat)(ha:nl a<2^44)(hn:n<32):Fr prog 259 [.one (.ints .u32 (ak a)),.one (.int .i64 n)] (.ints 161 .u32 (ij (nl a+1) (a*2^n))):=by
 have Uy:n≤64:=by omega
 refine fw func259 ⟨[0,1,4,5,6,7,8,13,14,15,16],[]⟩ ?_;simp only[Tryz.f259,ntmps259,iz,seval];simp only[vx,T,seval]
 simp(disch:=omega) only[lG,←X2,←Q2,Q1,Q4,Q5,aD,aK,true_and,and_true]
 refine⟨⟨by omega,by omega,by omega,by omega⟩,Lk (fun i:{i:Nat×List Int//k9 a n i.1 i.2}=>⟨[(0,.one (.ints .u32 (ak a))),(1,.one (.int .i64 n)),(5,.one (.own 1 1 0 (nl a+1))),(13,.one (.ints .u32 (ak a))),(14,.one (.int .i64 (nl a))),(15,.one (.int .i64 i.1.1))],[(1,⟨.ints 161 .u32 i.1.2,true⟩)],2,41⟩) (fun i=>nl a-i.1.1) ⟨(0,_),k9.init a n⟩ ?_ (fun⟨⟨i,zs⟩,hi⟩=>?_)⟩
 ·refine Sa ?_;simp only[ry,seval,rz];rw[show ((nl a:Int)+1).toNat=nl a+1 by omega];exact⟨rfl,rfl⟩
 have h1:=hi.le;have h2:=hi.len;obtain⟨g1,g2,g3⟩:=hi.get hn;simp only at h1 h2 g1 g2 g3;simp only[vx,T,seval,Uy];refine⟨fun h=>Lg ?_,fun h=>Lg ?_⟩
 ·simp only[vx,T,seval,Uy];have hy:=bd (a/BB^i);have g4:=Nh hy hn;have g5:=(CB (w:=a/BB^i%BB) hn g2).1
  simp(disch:=omega) only[lG,←X2,←Q2,Q1,Q4,Q5,aD,aK,true_and,and_true,pY,g1,g5]
  refine⟨by omega,by omega,by omega,by omega,by omega,Lq ⟨(i+1,_),hi.put hn (by simp only;omega)⟩ ?_ ?_⟩
  ·refine Sa ?_;simp only[ry,seval,rz];rw[show ((i:Int)+1).toNat=i+1 by omega]
  simp only;omega
 simp only[vx,T,seval];have Uq:i=nl a:=by omega
 subst Uq;exact⟨(aP _ _).symm,rfl,hi.done⟩
theorem oA (a n:Nat)(ha:nl a<2^44)(hn:n<32):Fr prog 194 [.one (.ints .u32 (ak a)),.one (.int .i64 n)] (.ints 161 .u32 (ij (nl a+1) (a*2^n))):=by
 have Uy:n≤64:=by omega
 refine fw func194 ⟨[0,1,4,5,6,7,15],[]⟩ ?_;simp only[Tryz.f194,ntmps194,iz,seval];simp only[vx,T,seval]
 simp(disch:=omega) only[lG,←X2,←Q2,Q1,Q4,Q5,aD,aK,true_and,and_true]
 refine⟨⟨by omega,by omega,by omega,by omega⟩,Lk (fun i:{i:Nat×List Int//k9 a n i.1 i.2}=>⟨[(0,.one (.ints .u32 (ak a))),(1,.one (.int .i64 n)),(5,.one (.own 1 1 0 (nl a+1))),(6,.one (.int .i64 i.1.1))],[(1,⟨.ints 161 .u32 i.1.2,true⟩)],2,43⟩) (fun i=>nl a-i.1.1) ⟨(0,_),k9.init a n⟩ ?_ (fun⟨⟨i,zs⟩,hi⟩=>?_)⟩
 ·refine Sa ?_;simp only[ry,seval,rz];rw[show ((nl a:Int)+1).toNat=nl a+1 by omega];exact⟨rfl,rfl⟩
 have h1:=hi.le;have h2:=hi.len;obtain⟨g1,g2,g3⟩:=hi.get hn;simp only at h1 h2 g1 g2 g3;simp only[vx,T,seval,Uy];refine⟨fun h=>Lg ?_,fun h=>Lg ?_⟩
 ·simp only[vx,T,seval,Uy];have hy:=bd (a/BB^i);have g4:=Nh hy hn;have g5:=(CB (w:=a/BB^i%BB) hn g2).1
  simp(disch:=omega) only[lG,←X2,←Q2,Q1,Q4,Q5,aD,aK,true_and,and_true,pY,g1,g5]
  refine⟨by omega,by omega,by omega,by omega,by omega,Lq ⟨(i+1,_),hi.put hn (by simp only;omega)⟩ ?_ ?_⟩
  ·refine Sa ?_;simp only[ry,seval,rz];rw[show ((i:Int)+1).toNat=i+1 by omega]
  simp only;omega
 simp only[vx,T,seval];have Uq:i=nl a:=by omega
 subst Uq;exact⟨(aP _ _).symm,rfl,hi.done⟩
end Go.Proofs.YtehahgjkjfoebaaGreat
namespace Go.Eng
theorem pG {n:Nat}(hn:n≤32):BB=2^n*2^(32-n):=by
 rw[←Nat.pow_add,show n+(32-n)=32 by omega];rfl
theorem nW {n:Nat}(hn:n≤32):BB=2^(32-n)*2^n:=by rw[pG hn,O6]
theorem JG (w Y n:Nat)(hn:n≤32):(w+BB*Y)/2^n=w/2^n+2^(32-n)*Y:=by
 rw[pG hn,Nat.mul_assoc,Nat.add_mul_div_left _ _ (Nat.pow_pos (by decide))]
theorem Dq (w n:Nat)(hn:n≤32)(hw:w<BB):w/2^n<2^(32-n):=by
 rw[Nat.div_lt_iff_lt_mul (Nat.pow_pos (by decide)),←nW hn];exact hw
theorem xL (w Y n:Nat)(hn:n≤32)(hw:w<BB):(w+BB*Y)/2^n%BB=w/2^n+2^(32-n)*(Y%2^n):=by
 rw[JG w Y n hn]
 generalize hr:w/2^n=r
 have h:=Dq w n hn hw;rw[hr]at h;rw[nW hn,Nat.mod_mul,Nat.add_mul_mod_self_left,O7 h,Nat.add_mul_div_left _ _ (Nat.pow_pos (by decide)),Nat.div_eq_of_lt h,Nat.zero_add]
theorem La (X n:Nat)(hn:n≤32):X/2^n%BB=X%BB/2^n+(X/BB%BB*2^(32-n))%BB:=by
 have hw:X%BB<BB:=Nat.mod_lt _ (by decide);have e:X/2^n%BB=(X%BB+BB*(X/BB))/2^n%BB:=by rw[Nat.mod_add_div]
 rw[e,xL _ _ n hn hw,O6 (X/BB%BB)]
 congr 1
 rw[nW hn,Nat.mul_mod_mul_left,←nW hn,pG hn,Nat.mod_mul_right_mod]
theorem GP (X n:Nat)(hn:n≤32):(X%BB+X/BB%BB*BB)/2^n%BB=X/2^n%BB:=by
 have hw:X%BB<BB:=Nat.mod_lt _ (by decide);rw[O6 (X/BB%BB),xL _ _ n hn hw];have e:X/2^n%BB=(X%BB+BB*(X/BB))/2^n%BB:=by rw[Nat.mod_add_div]
 rw[e,xL _ _ n hn hw]
 congr 2
 rw[pG hn,Nat.mod_mul_right_mod]
structure gM (a n l i:Nat) (zs:List Int):Prop where
 le:i≤l
 len:zs.length=l
 inr:bO zs
 eq:val zs=(a/2^n)%BB^i
theorem gM.init (a n l:Nat):gM a n l 0 (List.replicate l 0):=⟨O2 _,by simp,bO.replicate _,by rw[cO];simp[Nat.mod_one]⟩
theorem kI (y i:Nat):y%BB^(i+1)=y%BB^i+BB^i*(y/BB^i%BB):=by
 rw[O4,Nat.mod_mul]
theorem gM.get {a n l i:Nat}{zs:List Int}(h:gM a n l i zs):zs.getD i 0=0:=by
 rw[dk h.inr,h.eq,Nat.div_eq_of_lt (Nat.mod_lt _ (Nat.pow_pos (by decide)))];rfl
theorem gM.put {a n l i:Nat}{zs:List Int}(h:gM a n l i zs)(hi:i<l){d:Nat}(hd:a/BB^i/2^n%BB=d):gM a n l (i+1) (zs.set i (d:Int)):=by
 have hl:i<zs.length:=by rw[h.len];exact hi
 have VX:d<BB:=by rw[←hd];exact Nat.mod_lt _ (by decide)
 have e:=dN (xs:=zs) (i:=i) (x:=(d:Int)) hl;rw[h.get]at e;simp only[Int.toNat_zero,Nat.mul_zero,Nat.add_zero,Q1]at e;refine⟨hi,by rw[List.length_set];exact h.len,h.inr.set _ ⟨by omega,by unfold BB at VX;omega⟩,?_⟩;rw[e,h.eq,kI]
 congr 2
 rw[←hd,Nat.div_div_eq_div_mul,Nat.div_div_eq_div_mul,O6]
theorem gM.done {a n l:Nat}{zs:List Int}(h:gM a n l l zs)(hl:a<BB^l):zs=ij l (a/2^n):=
 qJ h.inr h.len (by rw[h.eq,O7 (Nat.lt_of_le_of_lt (Nat.div_le_self _ _) hl)])
theorem jI {l n:Nat}(h:n<BB^l):val (ij l n)=n:=by rw[jV,O7 h]
end Go.Eng
namespace Go.Proofs.YtehahgjkjfoebaaGreat
open Go.Proofs.Tryz
open Go Go.Eng
theorem Mb {w n o:Nat}(hn:n≤32)(ho:o<2^n):fm .or .u32 (o:Int) (((w*2^n)%BB:Nat):Int)=((o+(w*2^n)%BB:Nat):Int):=by
 have h1:2^n≤2^32:=O3 (by decide) hn;have hm:=bd (w*2^n);have e:=Nat.two_pow_add_eq_or_of_lt ho (w%2^(32-n));rw[←EA (by omega)]at e
 have e3:o|||(w*2^n)%BB=o+(w*2^n)%BB:=by rw[Nat.or_comm,←e,Nat.add_comm]
 rw[xp (by omega) (by omega),e3]
theorem sQ (s m:Nat):(s:Int).fdiv (m:Int)=((s/m:Nat):Int):=by
 rw[Int.fdiv_eq_ediv_of_nonneg _ (by omega)];rfl
theorem rh {a b:Nat}(ha:a<2^64)(hb:b<2^64):fm .or .u64 (a:Int) (b:Int)=((a|||b:Nat):Int):=by
 have UD:a|||b<2^64:=Nat.or_lt_two_pow ha hb
 show IntKind.u64.wrap ((BitVec.ofInt 64 (a:Int)|||BitVec.ofInt 64 (b:Int)).toNat:Int)=_
 simp only[BitVec.ofInt_natCast,BitVec.toNat_or,BitVec.toNat_ofNat];rw[O7 ha,O7 hb,aV];omega
theorem Lu {w u:Nat}(hw:w<BB)(hu:u<BB):fm .or .u64 (w:Int) ((u:Int)*4294967296)=((w+u*BB:Nat):Int):=by
 rw[show ((u:Int)*4294967296)=((u*4294967296:Nat):Int) by omega];unfold BB at*
 have e:=Nat.two_pow_add_eq_or_of_lt (i:=32) (b:=w) (by omega) u;rw[rh (by omega) (by omega)];have e2:u*4294967296=2^32*u:=O6 _ _;rw[e2,Nat.or_comm,←e,Nat.add_comm]
theorem zX {zs:List Int}{i:Nat}{x:Int}(h:i<zs.length):(zs.set i x).getD i 0=x:=by
 rw[X7,List.getElem?_set_self h];rfl
theorem LY {w k:Nat}(hw:w<BB)(hk:k≤32):w*2^k<18446744073709551616:=by
 have h1:w*2^k≤4294967295*4294967296:=Nat.mul_le_mul (by unfold BB at hw;omega) (O3 (by decide) hk);omega
theorem yI (i:Nat):((i:Int)+1).toNat=i+1:=by omega
theorem nU (a i:Nat):a/BB^(i+1)%BB=a/BB^i/BB%BB:=by
 rw[O4,Nat.div_div_eq_div_mul]
theorem tD {a i:Nat}(h:nl a≤i):a/BB^i=0:=Nat.div_eq_of_lt (cL.1 h)
theorem rj (n:Nat):(2:Int)^n=((2^n:Nat):Int):=by simp
theorem kJ (a n:Nat)(ha:nl a<2^44)(hn:n<32):Fr prog 262 [.one (.ints .u32 (ak a)),.one (.int .i64 n)] (.ints 161 .u32 (ij (nl a) (a/2^n))):=by
 have Uy:n≤32:=by omega
 have Xp:IntKind.i64.wrap (32-(n:Int))=32-(n:Int):=Q4 _ (by omega);have hn3:(32-(n:Int)).toNat=32-n:=by omega
 have hn4:32-n≤64:=by omega
 refine fw func262 ⟨[0,1,4,5,6,7,11,12,13,14,28],[]⟩ ?_;simp only[Tryz.f262,ntmps262,iz,seval];simp only[vx,T,seval];refine⟨⟨by omega,by omega,by omega,by omega⟩,Lk (fun i:{i:Nat×List Int//gM a n (nl a) i.1 i.2}=>⟨[(0,.one (.ints .u32 (ak a))),(1,.one (.int .i64 n)),(5,.one (.own 1 1 0 (nl a))),(11,.one (.ints .u32 (ak a))),(12,.one (.int .i64 (nl a))),(13,.one (.int .i64 i.1.1))],[(1,⟨.ints 161 .u32 i.1.2,true⟩)],2,47⟩) (fun i=>nl a-i.1.1) ⟨(0,_),gM.init a n (nl a)⟩ ?_ (fun⟨⟨i,zs⟩,hi⟩=>?_)⟩
 ·refine Sa ?_;simp only[ry,seval,rz]
 have h1:=hi.le;have h2:=hi.len;have g1:=hi.get;simp only at h1 h2 g1;simp only[vx,T,seval,Uy,Xp,hn3,hn4];refine⟨fun h=>Lg ?_,fun h=>Lg ?_⟩
 ·simp only[vx,T,seval,Uy,Xp,hn3,hn4];have hy:=bd (a/BB^i);have hd:=La (a/BB^i) n Uy;have hl:=Dq _ n Uy hy;have hq:=Nat.div_le_self (a/BB^i%BB) (2^n)
  simp(disch:=omega) only[lG,←X2,←Q2,Q1,Q4,Q5,aD,aK,true_and,and_true,pY,sQ]
  refine⟨by omega,by omega,by omega,?_⟩;refine⟨fun h3=>Lg ?_,fun h3=>Lg ?_⟩
  ·simp only[vx,T,seval,Uy,Xp,hn3,hn4];have h4:=zX (zs:=zs) (i:=i) (x:=((a/BB^i%BB/2^n:Nat):Int)) (by omega);have h5:=bd (a/BB^(i+1));have h6:=LY (k:=32-n) h5 (Nat.sub_le 32 n);have h7:=Mb (w:=a/BB^(i+1)%BB) (n:=32-n) (by omega) hl;rw[←nU]at hd
   simp(disch:=omega) only[lG,←X2,←Q2,Q1,Q4,Q5,aD,aK,true_and,and_true,yI,h4,rj]
   rw[h7];refine⟨by omega,by omega,by omega,by omega,Lq ⟨(i+1,_),hi.put (by simp only;omega) hd⟩ ?_ ?_⟩
   ·refine Sa ?_;simp only[ry,seval,rz];rw[List.set_set]
   simp only;omega
  simp only[vx,T,seval,Uy,Xp,hn3,hn4];rw[←nU,tD (a:=a) (i:=i+1) (by omega)]at hd;simp only[Nat.zero_mod,Nat.zero_mul,Nat.add_zero]at hd
  simp(disch:=omega) only[lG,←X2,←Q2,Q1,Q4,Q5,aD,aK,true_and,and_true,yI]
  refine Lq ⟨(i+1,_),hi.put (by simp only;omega) hd⟩ ?_ ?_
  ·refine Sa ?_;simp only[ry,seval,rz]
  simp only;omega
 simp only[vx,T,seval];have Uq:i=nl a:=by omega
 subst Uq;exact⟨(aP _ _).symm,rfl,hi.done (cG a)⟩
theorem Br (a n:Nat)(ha:nl a<2^44)(hn:n<32):Pr prog 197 [.one (.ints .u32 (ak a)),.one (.int .i64 n)] (.one (.ints .u32 (ak (a/2^n)))):=by
 have Uy:n≤64:=by omega
 refine pw func197 ⟨[0,1,4,5,6,7,14,26],[]⟩ ?_;simp only[Tryz.f197,ntmps197,iz,seval];simp only[vx,T,seval];refine⟨⟨by omega,by omega,by omega,by omega⟩,Lk (fun i:{i:Nat×List Int//gM a n (nl a) i.1 i.2}=>⟨[(0,.one (.ints .u32 (ak a))),(1,.one (.int .i64 n)),(5,.one (.own 1 1 0 (nl a))),(6,.one (.int .i64 i.1.1))],[(1,⟨.ints 161 .u32 i.1.2,true⟩)],2,45⟩) (fun i=>nl a-i.1.1) ⟨(0,_),gM.init a n (nl a)⟩ ?_ (fun⟨⟨i,zs⟩,hi⟩=>?_)⟩
 ·refine Sa ?_;simp only[ry,seval,rz]
 have h1:=hi.le;have h2:=hi.len;have g1:=hi.get;simp only at h1 h2 g1;simp only[vx,T,seval,Uy];refine⟨fun h=>Lg ?_,fun h=>Lg ?_⟩
 ·simp only[vx,T,seval,Uy];have hy:=bd (a/BB^i);have hd:=GP (a/BB^i) n (by omega)
  simp(disch:=omega) only[lG,←X2,←Q2,Q1,Q4,Q5,aD,aK,true_and,and_true,pY,sQ]
  refine⟨by omega,?_⟩;refine⟨fun h3=>Lg ?_,fun h3=>Lg ?_⟩
  ·simp only[vx,T,seval,Uy];have h5:=bd (a/BB^(i+1));have h7:=Lu hy h5;rw[←nU]at hd
   simp(disch:=omega) only[lG,←X2,←Q2,Q1,Q4,Q5,aD,aK,true_and,and_true,yI]
   simp only[h7,rj,sQ,aD,hd];refine⟨by omega,by omega,by omega,Lq ⟨(i+1,_),hi.put (by simp only;omega) rfl⟩ ?_ ?_⟩
   ·refine Sa ?_;simp only[ry,seval,rz]
   simp only;omega
  simp only[vx,T,seval,Uy];rw[←nU,tD (a:=a) (i:=i+1) (by omega)]at hd;simp only[Nat.zero_mod,Nat.zero_mul,Nat.add_zero]at hd
  simp(disch:=omega) only[lG,←X2,←Q2,Q1,Q4,Q5,aD,aK,true_and,and_true,yI]
  simp only[rj,sQ,aD,hd];refine⟨by omega,by omega,Lq ⟨(i+1,_),hi.put (by simp only;omega) rfl⟩ ?_ ?_⟩
  ·refine Sa ?_;simp only[ry,seval,rz]
  simp only;omega
 simp only[vx,T,seval];have Uq:i=nl a:=by omega
 subst Uq;have hr:=hi.inr;have hv:=hi.done (cG a);simp only at hr hv;have UP:val zs=a/2^n:=by rw[hv,jI (Nat.lt_of_le_of_lt (Nat.div_le_self _ _) (cG a))]
 rw[List.take_of_length_le (by omega)];refine Cg (bL _ hr (by omega)) ?_;rw[UP];simp only[vx,T,seval];refine Va ?_;simp only[cY,a5,ry,seval]
end Go.Proofs.YtehahgjkjfoebaaGreat
namespace Go.Eng
def bl (x:Nat):Nat:=if h:x=0 then 0 else 1+bl (x/2)
termination_by x
decreasing_by omega
theorem sU:bl 0=0:=by rw[bl];rfl
theorem CL {x:Nat}(h:0<x):bl x=1+bl (x/2):=by rw[bl,dif_neg (by omega)]
theorem yw (x:Nat)(h:0<x):2^(bl x-1)≤x∧x<2^bl x∧0<bl x:=by
 induction x using Nat.strongRecOn with
 |_ x ih=>
  rw[CL h]
  by_cases h2:x/2=0
  ·rw[h2,sU]
   have:x=1:=by omega
   subst this;decide
  obtain⟨h3,h4,h5⟩:=ih (x/2) (by omega) (by omega);have e:1+bl (x/2)-1=(bl (x/2)-1)+1:=by omega
  rw[e,O4,Nat.add_comm 1,O4];omega
theorem zu {x k:Nat}(h:x<2^k):bl x≤k:=by
 rcases Nat.eq_zero_or_pos x with h0|h0
 ·subst h0;rw[sU];omega
 obtain⟨h3,_,h5⟩:=yw x h0
 rcases Nat.lt_or_ge k (bl x)with h1|h1
 ·have:2^k≤2^(bl x-1):=O3 (by decide) (by omega)
  omega
 exact h1
def fy (b:Nat):Nat:=b/BB^(nl b-1)
def jY (b:Nat):Nat:=32-bl (fy b)
theorem gP {b:Nat}(h:0<b):0<fy b∧fy b<BB:=by
 have h1:=eL.2 h;have hp:0<BB^(nl b-1):=Nat.pow_pos (by decide);refine⟨Nat.div_pos (uz h) hp,?_⟩;unfold fy;rw[Nat.div_lt_iff_lt_mul hp,O6,←O4,show (nl b-1).succ=nl b by omega];exact cG b
theorem kU {b:Nat}(h:0<b):b/BB^(nl b-1)%BB=fy b:=O7 (gP h).2
theorem uZ {b:Nat}(h:0<b):jY b<32∧b*2^jY b<BB^nl b∧BB^nl b≤2*(b*2^jY b):=by
 obtain⟨t1,t2⟩:=gP h;obtain⟨b1,b2,b3⟩:=yw _ t1;have b4:bl (fy b)≤32:=zu (by unfold BB at t2;omega);have h1:=eL.2 h;have hp:0<BB^(nl b-1):=Nat.pow_pos (by decide);have e1:=Nat.div_add_mod b (BB^(nl b-1));have e2:=Nat.mod_lt b hp;have eB:BB^nl b=BB^(nl b-1)*(2^bl (fy b)*2^jY b):=by
  have e3:2^bl (fy b)*2^jY b=BB:=by rw[←Nat.pow_add];unfold jY;rw[show bl (fy b)+(32-bl (fy b))=32 by omega];rfl
  rw[e3,←O4,show (nl b-1).succ=nl b by omega]
 refine⟨by unfold jY;omega,?_,?_⟩
 ·rw[eB,←Nat.mul_assoc];refine Nat.mul_lt_mul_of_pos_right ?_ (Nat.pow_pos (by decide))
  have:BB^(nl b-1)*(fy b+1)≤BB^(nl b-1)*2^bl (fy b):=O9 _ b2
  rw[Nat.mul_add]at this;unfold fy at*
  omega
 rw[eB,←Nat.mul_assoc,←Nat.mul_assoc];refine O8 _ ?_;have e5:2^bl (fy b)=2*2^(bl (fy b)-1):=by
  rw[O6,←O4];congr 1;omega
 rw[e5]
 have:BB^(nl b-1)*2^(bl (fy b)-1)≤BB^(nl b-1)*fy b:=O9 _ b1
 rw[Nat.mul_left_comm];have e6:BB^(nl b-1)*fy b≤b:=Nat.mul_div_le _ _;omega
theorem Ib {b:Nat}(h:0<b):nl (b*2^jY b)=nl b:=by
 obtain⟨_,h2,h3⟩:=uZ h;have h1:=eL.2 h;have h4:=aE h2
 rcases Nat.lt_or_ge (nl (b*2^jY b)) (nl b)with h5|h5
 ·have h6:b*2^jY b<BB^(nl b-1):=cL.1 (by omega);have e:BB^nl b=BB^(nl b-1)*BB:=by rw[←O4];congr 1;omega
  have h7:BB^(nl b-1)*2≤BB^(nl b-1)*BB:=O9 _ (by decide);omega
 omega
structure Hl (V n:Nat):Prop where
 nle:nl V=n
 two:2≤n
 big:BB^n≤2*V
theorem Hl.pos {V n:Nat}(h:Hl V n):0<V:=eL.1 (by rw[h.nle];have:=h.two;omega)
theorem Hl.lt {V n:Nat}(h:Hl V n):V<BB^n:=by have:=cG V;rw[h.nle]at this;exact this
theorem Ck {n:Nat}(h:2≤n):BB^(n-1)=BB^(n-2)*BB:=by rw[←O4];congr 1;omega
theorem uO {n:Nat}(h:1≤n):BB^n=BB^(n-1)*BB:=by rw[←O4];congr 1;omega
theorem Hl.high {V n:Nat}(h:Hl V n):BB≤2*(V/BB^(n-1))∧V/BB^(n-1)<BB∧V/BB^(n-2)=V/BB^(n-1)*BB+V/BB^(n-2)%BB:=by
 have hp:0<BB^(n-1):=Nat.pow_pos (by decide);have h2:=h.two;refine⟨?_,?_,?_⟩
 ·have h3:=h.big;rw[uO (by omega)]at h3;have h4:BB/2≤V/BB^(n-1):=by
   rw[Nat.le_div_iff_mul_le hp]
   have:(BB/2)*BB^(n-1)*2=BB^(n-1)*BB:=by
    rw[O6,←Nat.mul_assoc,show 2*(BB/2)=BB from rfl,O6]
   omega
  have:BB=2*(BB/2):=rfl
  omega
 ·rw[Nat.div_lt_iff_lt_mul hp,O6,←uO (by omega)];exact h.lt
 rw[Ck h2,←Nat.div_div_eq_div_mul,O6,Nat.div_add_mod]
structure At (V n i R:Nat):Prop where
 cH:Hl V n
 lt:R<V*BB^(i+1)
def q3 (n i R:Nat):Nat:=R/BB^(i+n-2)
theorem At.words {V n i R:Nat}(h:At V n i R):R/BB^(i+n-2)%BB=q3 n i R%BB∧R/BB^(i+n-1)%BB=q3 n i R/BB%BB∧R/BB^(i+n)%BB=q3 n i R/BB/BB∧q3 n i R/BB<BB*BB:=by
 have h2:=h.cH.two;have e1:R/BB^(i+n-1)=q3 n i R/BB:=by
  unfold q3;rw[Nat.div_div_eq_div_mul,←O4];congr 2;omega
 have e2:R/BB^(i+n)=q3 n i R/BB/BB:=by
  rw[←e1,Nat.div_div_eq_div_mul,←O4];congr 2;omega
 have hR:R<BB^(i+n+1):=by
  refine Nat.lt_of_lt_of_le h.lt ?_
  have:=O8 (BB^(i+1)) (Nat.le_of_lt h.cH.lt)
  rw[←Nat.pow_add,show n+(i+1)=i+n+1 by omega]at this;exact this
 have h3:R/BB^(i+n)<BB:=by
  rw[Nat.div_lt_iff_lt_mul (Nat.pow_pos (by decide)),O6,←O4];exact hR
 refine⟨rfl,by rw[e1],by rw[O7 h3,e2],?_⟩;rw[e2]at h3;exact(Nat.div_lt_iff_lt_mul (by decide)).1 h3
theorem At.U {V n i R:Nat}(h:At V n i R):R/BB^i<V*BB∧R/BB^i=q3 n i R*BB^(n-2)+R/BB^i%BB^(n-2):=by
 have h2:=h.cH.two;refine⟨?_,?_⟩
 ·rw[Nat.div_lt_iff_lt_mul (Nat.pow_pos (by decide)),Nat.mul_assoc,O6 BB,←O4];exact h.lt
 have e:q3 n i R=R/BB^i/BB^(n-2):=by
  unfold q3;rw[Nat.div_div_eq_div_mul,←Nat.pow_add];congr 2;omega
 rw[e,O6,Nat.div_add_mod]
structure Dg (V n i R D rest:Nat):Prop where
 top:q3 n i R/BB=D*(V/BB^(n-1))+rest
 ge:R/BB^i/V≤D
 rest:rest<BB
 lt:D<2*BB
theorem Dg.init {V n i R:Nat}(h:At V n i R):Dg V n i R (q3 n i R/BB/(V/BB^(n-1))) (q3 n i R/BB% (V/BB^(n-1))):=by
 obtain⟨h1,h2,h3⟩:=h.cH.high;obtain⟨_,hU⟩:=h.U;obtain⟨_,_,_,h4⟩:=h.words;have hp:0<V/BB^(n-1):=by unfold BB at*;omega
 have hP:0<BB^(n-2):=Nat.pow_pos (by decide);refine⟨by rw[O6,Nat.div_add_mod],?_,Nat.lt_trans (Nat.mod_lt _ hp) h2,?_⟩
 ·refine JS (P:=BB^(n-2)) (next:=V/BB^(n-2)%BB) (Vr:=V%BB^(n-2)) (u2:=q3 n i R%BB) (Ur:=R/BB^i%BB^(n-2)) ?_ ?_ (Nat.mod_lt _ hP) (Nat.mod_lt _ (by decide)) hp
  ·rw[O6 (q3 n i R/BB),Nat.div_add_mod];exact hU
  rw[←h3,O6,Nat.div_add_mod]
 rw[Nat.div_lt_iff_lt_mul hp]
 have:BB*BB≤2*BB*(V/BB^(n-1)):=by
  rw[O6 2,Nat.mul_assoc];exact O9 _ h1
 omega
theorem Dg.next {V n i R D rest:Nat}(hA:At V n i R)(h:Dg V n i R D rest)(hc:BB≤D∨rest*BB+q3 n i R%BB<D*(V/BB^(n-2)%BB)):
  0<D∧q3 n i R/BB=(D-1)*(V/BB^(n-1))+(rest+V/BB^(n-1))∧R/BB^i/V≤D-1:=by
 obtain⟨h1,h2,h3⟩:=hA.cH.high;obtain⟨hU1,hU⟩:=hA.U;have hV:0<V:=hA.cH.pos;have hP:0<BB^(n-2):=Nat.pow_pos (by decide);have hD:R/BB^i/V<D:=by
  rcases hc with hc|hc
  ·refine Nat.lt_of_lt_of_le ?_ hc;rw[Nat.div_lt_iff_lt_mul hV,O6];exact hU1
  refine LP (P:=BB^(n-2)) (V2:=V/BB^(n-2)) (Vr:=V%BB^(n-2)) (Ur:=R/BB^i%BB^(n-2)) hU (by rw[O6,Nat.div_add_mod]) (Nat.mod_lt _ hP) ?_;have e:=Nat.div_add_mod (q3 n i R) BB;rw[h.top]at e;rw[h3,Nat.mul_add,←Nat.mul_assoc];rw[Nat.mul_add,O6 BB,O6 BB rest]at e;omega
 refine⟨Nat.lt_of_le_of_lt (O2 _) hD,?_,Nat.le_sub_one_of_lt hD⟩;have hD0:0<D:=Nat.lt_of_le_of_lt (O2 _) hD;have e:D*(V/BB^(n-1))=(D-1)*(V/BB^(n-1))+V/BB^(n-1):=by
  rw[←Nat.succ_mul];congr 1;omega
 rw[h.top,e];omega
theorem Dg.fin {V n i R D rest:Nat}(hA:At V n i R)(XT:q3 n i R/BB=D*(V/BB^(n-1))+rest)(XH:R/BB^i/V≤D)(hc:(D<BB∧D*(V/BB^(n-2)%BB)≤rest*BB+q3 n i R%BB)∨BB≤rest):
  D<BB∧R/BB^i/V≤D∧D≤R/BB^i/V+1:=by
 obtain⟨h1,h2,h3⟩:=hA.cH.high;obtain⟨hU1,hU⟩:=hA.U;obtain⟨_,_,w3,h4⟩:=hA.words;have hV:0<V:=hA.cH.pos;have hP:0<BB^(n-2):=Nat.pow_pos (by decide);have e:=Nat.div_add_mod (q3 n i R) BB;have W5:V/BB^(n-2)%BB<BB:=Nat.mod_lt _ (by decide)
 -- the highest word is not above the divisor's
 have hD:D<BB:=by
  rcases hc with hc|hc
  ·exact hc.1
  rcases Nat.lt_or_ge D BB with hD|hD
  ·exact hD
  exfalso
  have h5:BB*(V/BB^(n-1))≤D*(V/BB^(n-1)):=O8 _ hD;have h6:q3 n i R/BB<(V/BB^(n-1)+1)*BB:=by
   have h7:R/BB^i/BB^(n-1)=q3 n i R/BB:=by
    unfold q3;have Zr:=hA.cH.two;rw[Nat.div_div_eq_div_mul,Nat.div_div_eq_div_mul,←Nat.pow_add,←O4];congr 2;omega
   rw[←h7,Nat.div_lt_iff_lt_mul (Nat.pow_pos (by decide))];refine Nat.lt_of_lt_of_le hU1 ?_;rw[Nat.mul_right_comm];refine O8 _ ?_;have e8:=Nat.div_add_mod V (BB^(n-1));have l8:=Nat.mod_lt V (Nat.pow_pos (n:=n-1) (show 0<BB by decide));rw[Nat.add_mul,O6 (V/_)];omega
  rw[Nat.add_mul,O6 (V/_)]at h6;omega
 have hq:D*(V/BB^(n-2))≤q3 n i R:=by
  rw[XT]at e;rw[h3,Nat.mul_add,←Nat.mul_assoc];rw[Nat.mul_add,O6 BB,O6 BB rest]at e
  rcases hc with hc|hc
  ·omega
  have h5:D*(V/BB^(n-2)%BB)≤BB*BB:=Nat.mul_le_mul (Nat.le_of_lt hD) (Nat.le_of_lt W5);have h6:BB*BB≤rest*BB:=O8 _ hc;omega
 refine⟨hD,XH,Oq (P:=BB^(n-2)) (V2:=V/BB^(n-2)) (Vr:=V%BB^(n-2)) (Ur:=R/BB^i%BB^(n-2)) hU (by rw[O6,Nat.div_add_mod]) (Nat.mod_lt _ hP) hq ?_ hV⟩;rw[h3]
 have:BB≤V/BB^(n-1)*BB:=Nat.le_mul_of_pos_left _ (by unfold BB at*;omega)
 omega
theorem At.step {V n i R:Nat}(h:At V n i R):R-BB^i*(R/BB^i/V*V)<V*BB^i∧BB^i*(R/BB^i/V*V)≤R:=by
 have hp:0<BB^i:=Nat.pow_pos (by decide);have e1:=Nat.div_add_mod R (BB^i);have l1:=Nat.mod_lt R hp;have e2:=Nat.div_add_mod (R/BB^i) V;have l2:=Nat.mod_lt (R/BB^i) h.cH.pos;have e3:BB^i*(R/BB^i)=BB^i*(R/BB^i/V*V)+BB^i*(R/BB^i%V):=by
  rw[←Nat.mul_add,O6 (R/BB^i/V),e2]
 have h3:BB^i*(R/BB^i%V+1)≤BB^i*V:=O9 _ l2;rw[Nat.mul_add]at h3;rw[O6 V]
 generalize R/BB^i=U at*
 generalize R%BB^i=r at*
 generalize U%V=m at*
 generalize U/V*V=x at*
 omega
theorem At.B8 {V n i R D Z:Nat}(h:At V n i R)(XH:R/BB^i/V≤D)(hz:Z+BB^i*(D*V)=R):D=R/BB^i/V∧Z=R-BB^i*(R/BB^i/V*V):=by
 have hD:D≤R/BB^i/V:=by
  rw[Nat.le_div_iff_mul_le h.cH.pos,Nat.le_div_iff_mul_le (Nat.pow_pos (by decide)),O6];omega
 have:D=R/BB^i/V:=by omega
 subst this;exact⟨rfl,by omega⟩
theorem At.yW {V n i R D Z Z2 k:Nat}(h:At V n i R)(hle:D≤R/BB^i/V+1)(XH:R/BB^i/V≤D)(hZ:Z<BB^(i+n+1))(hZ2:Z2<BB^(i+n+1))(hz:Z+BB^i*(D*V)=R+BB^(i+n+1))(hz2:Z2+BB^(i+n+1)*k=Z+BB^i*V):
  D=R/BB^i/V+1∧Z2=R-BB^i*(R/BB^i/V*V):=by
 obtain⟨s1,s2⟩:=h.step;have hD:D=R/BB^i/V+1:=by
  rcases Nat.lt_or_ge (R/BB^i/V) D with h1|h1
  ·omega
  have:D=R/BB^i/V:=by omega
  subst this;omega
 refine⟨hD,?_⟩;subst hD;rw[Nat.add_mul,Nat.one_mul,Nat.mul_add]at hz;have hV:V*BB^i<BB^(i+n+1):=by
  have h2:V*BB^i<BB^n*BB^i:=Nat.mul_lt_mul_of_pos_right h.cH.lt (Nat.pow_pos (by decide));have h3:BB^(i+n+1)=BB^n*BB^i*BB:=by rw[O4,Nat.pow_add,O6 (BB^i)]
  have h4:BB^n*BB^i*1≤BB^n*BB^i*BB:=O9 _ (by decide);omega
 rcases Nat.lt_or_ge k 1 with hk|hk
 ·have:k=0:=by omega
  subst this;rw[Nat.mul_zero]at hz2;omega
 rcases Nat.lt_or_ge k 2 with TZ|TZ
 ·have:k=1:=by omega
  subst this;rw[Nat.mul_one]at hz2;omega
 have:BB^(i+n+1)*2≤BB^(i+n+1)*k:=O9 _ TZ
 omega
end Go.Eng
namespace Go.Proofs.YtehahgjkjfoebaaGreat
open Go.Proofs.Tryz
open Go Go.Eng
theorem zx (n:Nat):ij (nl n) n=ak n:=by
 have h:=xI (bO.ak n);rw[gE]at h;exact h
theorem j0 (xs:List Int)(hx:xs.length<2^44):Pr prog 218 [.one (.ints .u32 xs)] (.one (.ints .u32 xs)):=by
 refine pw func218 ⟨[0,2,4],[]⟩ ?_;simp only[Tryz.f218,ntmps218,iz,seval];simp only[vx,T,seval];intro b hb;refine Lg ?_;simp only[vx,T,seval];refine⟨fun h=>Lg ?_,fun h=>Lg ?_⟩
 ·simp only[vx,T,seval];have h0:xs=[]:=by
   cases xs with
   |nil=>rfl
   |cons x xs=>simp at hb;rw[hb]at h;cases h
  refine Va ?_;simp only[cY,a5,ry,seval,h0]
 simp only[vx,T,seval];exact⟨⟨by omega,by omega⟩,fR.refl _⟩
theorem pE {s x:Nat}(hs:s<BB)(hx:x<BB):fm .or .u64 ((s:Int)*4294967296) (x:Int)=((s*BB+x:Nat):Int):=by
 rw[show ((s:Int)*4294967296)=((s*4294967296:Nat):Int) by omega];unfold BB at*
 have e:=Nat.two_pow_add_eq_or_of_lt (i:=32) (b:=x) (by omega) s;rw[rh (by omega) (by omega)];have e2:s*4294967296=2^32*s:=O6 _ _;rw[e2,←e]
theorem xy (n k:Nat):n/BB^(k+1)*BB+n/BB^k%BB=n/BB^k:=by
 rw[O4,←Nat.div_div_eq_div_mul,O6,Nat.div_add_mod]
theorem rT (n:Nat)(hn:n<2^64):Pr prog 191 [.one (.ints .u32 (ak n))] (.one (.int .u64 n)):=by
 have h2:nl n≤2:=aE (by unfold BB;omega);refine pw func191 ⟨[0,2,3,4,9],[]⟩ ?_;simp only[Tryz.f191,ntmps191,iz,seval];simp only[vx,T,seval]
 simp(disch:=omega) only[lG,←X2,←Q2,Q1,Q4,Q5,aD,aK,true_and,and_true]
 refine Lk (fun i:{i:Nat//i≤nl n}=>⟨[(0,.one (.ints .u32 (ak n))),(3,.one (.int .u64 (n/BB^i.1:Nat))),(4,.one (.int .i64 ((i.1:Int)-1)))],[],2,21⟩) (fun i=>i.1) ⟨nl n,O1 _⟩ ?_ (fun⟨i,hi⟩=>?_)
 ·refine Sa ?_;simp only[ry,seval,rz];rw[tD (O1 _)];rfl
 simp only[vx,T,seval];refine⟨fun h=>Lg ?_,fun h=>Lg ?_⟩
 ·simp only[vx,T,seval];obtain⟨k,rfl⟩:∃k,i=k+1:=⟨i-1,by omega⟩;have e1:((k+1:Nat):Int)-1=k:=by omega
  have h3:=bd (n/BB^k);have h4:n/BB^(k+1)<4294967296:=by
   rw[Nat.div_lt_iff_lt_mul (Nat.pow_pos (by decide)),O4]
   have:BB^1≤BB^k*BB:=by rw[←O4];exact O3 (by decide) (by omega)
   have h5:4294967296*BB^1≤4294967296*(BB^k*BB):=O9 _ this;unfold BB at h5⊢;omega
  have h5:=pE h4 h3;rw[xy]at h5;have e6:IntKind.u64.wrap (((n/BB^(k+1):Nat):Int)*4294967296)=((n/BB^(k+1):Nat):Int)*4294967296:=by
   generalize n/BB^(k+1)=q at h4⊢
   exact Q5 _ (by omega)
  simp(disch:=omega) only[lG,←X2,←Q2,Q1,Q4,Q5,aD,aK,true_and,and_true,e1,e6,h5]
  refine⟨by omega,Lq ⟨k,by omega⟩ ?_ ?_⟩
  ·refine Sa ?_;simp only[ry,seval,rz]
  simp only;omega
 simp only[vx,T,seval];have Xu:i=0:=by omega
 subst Xu;refine Va ?_;simp only[cY,a5,ry,seval,Nat.pow_zero,Nat.div_one]
theorem px (b:Nat)(h0:0<b)(hb:nl b<2^44):Pr prog 193 [.one (.ints .u32 (ak b))] (.one (.int .i64 (32*(nl b-1)+bl (fy b):Nat))):=by
 have hn:=eL.2 h0;have ht:=kU h0;obtain⟨t1,t2⟩:=gP h0;have VO:bl (fy b)≤32:=zu (by unfold BB at t2;omega);refine pw func193 ⟨[0,2,3,4,7,15],[]⟩ ?_;simp only[Tryz.f193,ntmps193,iz,seval];simp only[vx,T,seval];refine⟨fun h1=>absurd h1 (by omega),fun h1=>Lg ?_⟩;simp only[vx,T,seval];have e1:IntKind.i64.wrap ((nl b:Int)-1)=((nl b-1:Nat):Int):=by rw[Q4 _ (by omega)];omega
 simp(disch:=omega) only[lG,←X2,←Q2,Q1,Q4,Q5,aD,aK,true_and,and_true,e1,ht]
 refine⟨by omega,Lk (fun x:{x:Nat×Nat//x.1+bl x.2=bl (fy b)∧x.2<BB}=>⟨[(0,.one (.ints .u32 (ak b))),(3,.one (.int .i64 x.1.1)),(4,.one (.int .u32 x.1.2))],[],2,26⟩) (fun x=>x.1.2) ⟨(0,fy b),by simp,t2⟩ ?_ (fun⟨⟨c,x⟩,Xa,Xb⟩=>?_)⟩
 ·refine Sa ?_;simp only[ry,seval,rz]
 simp only at Xa Xb;have hx3:x<4294967296:=Xb;simp only[vx,T,seval];refine⟨fun h=>Lg ?_,fun h=>Lg ?_⟩
 ·simp only[vx,T,seval];have h4:=CL (x:=x) (by omega);have e2:IntKind.u32.wrap ((x:Int).tdiv 2)=((x/2:Nat):Int):=by
   have e3:(x:Int).tdiv 2=((x/2:Nat):Int):=rfl;rw[e3,IntWalk.u32_in _ (by omega)]
  simp(disch:=omega) only[lG,←X2,←Q2,Q1,Q4,Q5,aD,aK,true_and,and_true,e2]
  refine Lq ⟨(c+1,x/2),by simp only;omega,by simp only;omega⟩ ?_ ?_
  ·refine Sa ?_;simp only[ry,seval,rz]
  simp only;omega
 simp only[vx,T,seval];have Wy:x=0:=by omega
 subst Wy;rw[sU]at Xa
 simp(disch:=omega) only[lG,←X2,←Q2,Q1,Q4,Q5,aD,aK,true_and,and_true,e1]
 refine Ve ?_
 congr 2
 omega
end Go.Proofs.YtehahgjkjfoebaaGreat
namespace Go.Eng
structure jv (A V m j:Nat) (us qs:List Int):Prop where
 cH:Hl V (nl V)
 le:nl V+j≤m
 ulen:us.length=m
 uin:bO us
 qlen:m≤qs.length+nl V
 qin:bO qs
 eq:val qs*V+val us=A
 lt:val us<V*BB^j
 dvd:∃Q,val qs=BB^j*Q
theorem jv.at {A V m i:Nat}{us qs:List Int}(h:jv A V m (i+1) us qs):At V (nl V) i (val us):=⟨h.cH,h.lt⟩
theorem jv.init {A V m l:Nat}(hn:Hl V (nl V))(hm:nl V≤m)(hA:2*A<BB^m)(hl:m≤l+nl V):jv A V m (m-nl V) (ij m A) (List.replicate l 0):=by
 have e:BB^m=BB^nl V*BB^(m-nl V):=by rw[←Nat.pow_add];congr 1;omega
 have h1:BB^nl V*BB^(m-nl V)≤2*V*BB^(m-nl V):=O8 _ hn.big;have hv:val (ij m A)=A:=jI (by omega);refine⟨hn,by omega,aP _ _,gn _ _,by simpa using hl,bO.replicate _,by rw[cO,hv];omega,?_,0,by rw[cO];simp⟩;rw[hv];rw[Nat.mul_assoc]at h1;omega
theorem jv.q {A V m i:Nat}{us qs:List Int}(h:jv A V m (i+1) us qs):val us/BB^i/V<BB:=by
 rw[Nat.div_lt_iff_lt_mul h.cH.pos,O6];exact h.at.U.1
theorem jv.step {A V m i:Nat}{us qs us':List Int}(h:jv A V m (i+1) us qs)(hl:us'.length=us.length)(hi:bO us')(hv:val us'=val us-BB^i*(val us/BB^i/V*V)):
  jv A V m i us' (qs.set i ((val us/BB^i/V:Nat):Int)):=by
 obtain⟨s1,s2⟩:=h.at.step;have hq:=h.q;obtain⟨Q,hQ⟩:=h.dvd;have hle:=h.le;have hiq:i<qs.length:=by have:=h.qlen;omega
 have h0:qs.getD i 0=0:=by
  rw[dk h.qin,hQ,O4,Nat.mul_assoc,Nat.mul_div_cancel_left _ (Nat.pow_pos (by decide)),Nat.mul_mod_right];rfl
 have e:=dN (xs:=qs) (i:=i) (x:=((val us/BB^i/V:Nat):Int)) hiq;rw[h0]at e;simp only[Int.toNat_zero,Nat.mul_zero,Nat.add_zero,Q1]at e;have heq:=h.eq
 generalize val us/BB^i/V=q at*
 refine⟨h.cH,by omega,by rw[hl];exact h.ulen,hi,by rw[List.length_set];exact h.qlen,h.qin.set _ ⟨by omega,by unfold BB at hq;omega⟩,?_,by rw[hv];exact s1,BB*Q+q,?_⟩
 ·rw[e,Nat.add_mul,hv,Nat.mul_assoc];omega
 rw[e,hQ,O4,Nat.mul_add,Nat.mul_assoc]
theorem jv.done {a b k m:Nat}{us qs:List Int}(hb:0<b)(h:jv (a*2^k) (b*2^k) m 0 us qs):val qs=a/b∧val us=(a%b)*2^k∧val us<BB^nl (b*2^k):=by
 have h1:=h.eq;have h2:=h.lt;rw[Nat.pow_zero,Nat.mul_one]at h2;have hk:0<2^k:=Nat.pow_pos (by decide);have e1:val qs=a*2^k/(b*2^k):=by
  rw[←h1,O6,Nat.mul_add_div h.cH.pos,Nat.div_eq_of_lt h2,Nat.add_zero]
 have e2:val us=a*2^k% (b*2^k):=by
  rw[←h1,O6,Nat.mul_add_mod,O7 h2]
 rw[Nat.mul_div_mul_right _ _ hk]at e1;rw[Nat.mul_mod_mul_right]at e2;exact⟨e1,e2,Nat.lt_trans h2 h.cH.lt⟩
structure qf (xs:List Int) (off U D m k:Nat) (zs:List Int):Prop where
 le:k≤m
 len:zs.length=xs.length
 inr:bO zs
 up:zs.drop (off+k)=xs.drop (off+k)
 eq:val zs+BB^off*(U%BB^k)=val xs+BB^off*(D%BB^k)
theorem qf.init {xs:List Int}(off U D m:Nat)(h:bO xs):qf xs off U D m 0 xs:=⟨O2 _,rfl,h,rfl,by simp[Nat.mod_one]⟩
theorem qf.put {xs:List Int}{off U D m k:Nat}{zs:List Int}(h:qf xs off U D m k zs)(hk:k<m)(hl:off+m≤xs.length)(hU:xs.getD (off+k) 0=((U/BB^k%BB:Nat):Int)){d:Nat}(hd:D/BB^k%BB=d):
  qf xs off U D m (k+1) (zs.set (off+k) (d:Int)):=by
 have hlz:off+k<zs.length:=by rw[h.len];omega
 have VX:d<BB:=by rw[←hd];exact Nat.mod_lt _ (by decide)
 have hold:zs.getD (off+k) 0=((U/BB^k%BB:Nat):Int):=by
  rw[←hU];have e:(zs.drop (off+k)).getD 0 0=(xs.drop (off+k)).getD 0 0:=by rw[h.up]
  simpa[X7,List.getElem?_drop]using e
 refine⟨hk,by rw[List.length_set];exact h.len,h.inr.set _ ⟨by omega,by unfold BB at VX;omega⟩,?_,?_⟩
 ·rw[←Nat.add_assoc,List.drop_set_of_lt (by omega),←List.drop_drop,h.up,List.drop_drop]
 have e:=dN (xs:=zs) (x:=(d:Int)) hlz;rw[hold]at e;simp only[Q1]at e;have h1:=h.eq;rw[kI,kI,Nat.mul_add,Nat.mul_add,←Nat.mul_assoc,←Nat.mul_assoc,←Nat.pow_add,hd];omega
theorem qf.done {xs:List Int}{off U D m:Nat}{zs:List Int}(h:qf xs off U D m m zs)(hU:U<BB^m)(hD:D<BB^m):val zs+BB^off*U=val xs+BB^off*D:=by
 have:=h.eq
 rw[O7 hU,O7 hD]at this;exact this
theorem ly {zs:List Int}(hi:bO zs){k:Nat}(h:val (zs.drop k)=0):val zs<BB^k:=by
 rw[ie hi]at h
 rcases Nat.lt_or_ge (val zs) (BB^k)with h1|h1
 ·exact h1
 have:=(Nat.div_pos_iff (a:=val zs) (b:=BB^k)).2 ⟨Nat.pow_pos (by decide),h1⟩
 omega
end Go.Eng
namespace Go.Proofs.YtehahgjkjfoebaaGreat
open Go.Proofs.Tryz
open Go Go.Proofs Go.RowKit Go.Shelf Go.Eng
attribute [local go_sem] Oper.semAt_some
def yn (zs:List Int)(m k:Nat):List (Nat×Int):=(List.range k).map fun j=>(m-1-j,zs[m-1-j]?.getD 0)
theorem HB (zs:List Int)(m k:Nat):yn zs m (k+1)=yn zs m k++[(m-1-k,zs[m-1-k]?.getD 0)]:=by simp[yn,List.range_succ]
theorem Bv (zs:List Int)(m k:Nat):(yn zs m k).length=k:=by simp[yn]
def Pk (n₀ Bs:Nat)(sv:Value)(W W':World):Prop:=Below n₀ W W'∧(W.cell? ⟨Bs,0,none⟩=some sv→W'.cell? ⟨Bs,0,none⟩=some sv)
theorem Nf {n₀ Bs:Nat}{sv:Value}{A B C:World}(h:Pk n₀ Bs sv A B)(k:Pk n₀ Bs sv B C):Pk n₀ Bs sv A C:=⟨h.1.trans k.1,fun e=>k.2 (h.2 e)⟩
theorem QD {n₀ Bs:Nat}{sv:Value}{w:World}(hn:n₀≤w.heap.size)(hb:Bs<w.heap.size)(W:World)(l:Nat)(o o':Obj)(hl:w.heap.size≤l)(h:W.heap[l]? =some o)(hc:o.isCells=false)(hw:o.isWalk=false):Pk n₀ Bs sv W (W.putObj l o'):=
 ⟨belowK_b hn W l o o' hl h hc hw,fun e=>((belowK_b (n₀:=w.heap.size) (O1 _) W l o o' hl h hc hw).cell (p:=⟨Bs,0,none⟩) hb).trans e⟩
set_option maxRecDepth 100000 in
theorem Iw (F:Fence)(n:Nat)(h8:F.fn 268)(Wk:F.round=none)(hn:1≤n)(l Bs n₀ b off len cap:Nat)(zs:List Int)(Vj:len*8≤140737488351232)(hb:b<n₀)(J Jx:List (Nat×Int)→World→Prop)
  (hY:∀pre x W,J pre W→pre.length<len→YieldAt F (n-1) prog l #[.int .i64 (x.1:Int),.int .u32 x.2] W fun e W'=>
   (e= .returned (.bool true)∧J (pre++[x]) W'∧Pk n₀ Bs (.slice (some ⟨b,off,none⟩) len cap) W W')∨(e= .returned (.bool false)∧Jx (pre++[x]) W'))
  (W:World) (hBs:W.cell? ⟨Bs,0,none⟩=some (.slice (some ⟨b,off,none⟩) len cap)) (hc:∀j,j<len→W.cell? ⟨b,off+j,none⟩=some (.int .u32 (zs[j]?.getD 0))) (h0:J [] W):
  CallsIn F n prog 268 #[.func (.yield l) #[] #[],.pointer (some ⟨Bs,0,none⟩)] W fun e W'=>(∃v,e= .returned v)∧
   ((∃ys,ys=yn zs len len∧J ys W')∨(∃pre,(∃k,k≤len∧pre=yn zs len k)∧Jx pre W')):=by
 refine callsIn_of_wp func268 rfl h8 ?_ Wk;simp only[ntmps268,List.size_toArray,List.length_cons,List.length_nil,J1,J3,Array.replicate_succ,Array.replicate_zero,List.push_toArray,List.append_toArray,List.nil_append,List.cons_append]
 gi_wp2
 gi_loopw [3] (fun i wr=>∃m k:Nat,m+k=len∧i= .int .i64 ((m:Int)-1)∧J (yn zs len k) wr∧Pk n₀ Bs (.slice (some ⟨b,off,none⟩) len cap) W wr)
  (fun i _=>(intOf i+1).toNat)
 case atStart=>exact⟨len,0,rfl,rfl,h0,Below.refl _ _,id⟩
 case round=>
  obtain⟨m,k,hk,rfl,hJs,TC⟩:=hrel
  rcases m with _|m
  ·obtain rfl:k=len:=by omega
   gi_wp2
   go_end0
   exact⟨⟨_,rfl⟩,.inl ⟨_,rfl,hJs⟩⟩
  have hcx':wr.cell? ⟨b,off+m,none⟩=some (.int .u32 (zs[m]?.getD 0)):=(TC.1.cell (p:=⟨b,off+m,none⟩) hb).trans (hc m (by omega));have hbx:=TC.2 hBs;obtain⟨fn,tmps,assign,body,hy,hR⟩:=hY _ (m,zs[m]?.getD 0) wr hJs (by rw[Bv];omega)
  dsimp only at hy
  have e0:yn zs len (k+1)=yn zs len k++[(m,zs[m]?.getD 0)]:=by rw[HB,show len-1-k=m by omega]
  have hE:=Lib.hid e0;clear e0;obtain⟨i0,Xu⟩:∃i0:Int,i0=m:=⟨_,rfl⟩;have em:((m+1:Nat):Int)-1=m:=by omega
  rw[em];clear em;have YE:m<len:=by omega
  gi_wp2
  refine hR.mono ?_
  rintro e W3 (⟨rfl,hJ3,Vo⟩|⟨rfl,hJx3⟩)
  ·gi_wp2
   go_roundw
   case rel=>exact⟨m,k+1,by omega,by simp,by rw[hE.out];exact hJ3,Nf TC Vo⟩
   case measure=>simp[intOf]
  gi_wp2
  refine bodyPost_ret (results_none rfl _ _ _) rfl ?_;exact⟨⟨_,rfl⟩,.inr ⟨_,⟨k+1,by omega,hE.out.symm⟩,hJx3⟩⟩
def nI (n₀:Nat)(W:World)(sv:Value)(zs:List Int):Prop:=
 ∃a cap,sv= .slice a zs.length cap∧(zs.length=0∨∃b off,a=some ⟨b,off,none⟩∧b<n₀∧∀j,j<zs.length→W.cell? ⟨b,off+j,none⟩=some (.int .u32 (zs[j]?.getD 0)))
theorem nI.below {n₀:Nat}{A B:World}(h:Below n₀ A B){sv:Value}{zs:List Int}:nI n₀ A sv zs→nI n₀ B sv zs
 |⟨a,cap,e,.inl h0⟩=>⟨a,cap,e,.inl h0⟩
 |⟨a,cap,e,.inr ⟨b,off,ha,hb,hc⟩⟩=>⟨a,cap,e,.inr ⟨b,off,ha,hb,fun j hj=>(h.cell (p:=⟨b,off+j,none⟩) hb).trans (hc j hj)⟩⟩
set_option maxRecDepth 100000 in
theorem xO (F:Fence)(n:Nat)(h8:F.fn 268)(Wk:F.round=none)(l Bs cap:Nat)(a:Option Addr)(J:List (Nat×Int)→World→Prop)(W:World)(hBs:W.cell? ⟨Bs,0,none⟩=some (.slice a 0 cap))(h0:J [] W):
  CallsIn F n prog 268 #[.func (.yield l) #[] #[],.pointer (some ⟨Bs,0,none⟩)] W fun e W'=>(∃v,e= .returned v)∧J [] W':=by
 refine callsIn_of_wp func268 rfl h8 ?_ Wk;simp only[ntmps268,List.size_toArray,List.length_cons,List.length_nil,J1,J3,Array.replicate_succ,Array.replicate_zero,List.push_toArray,List.append_toArray,List.nil_append,List.cons_append]
 gi_wp2
 gi_loopw [3] (fun i wr=>i= .int .i64 (-1)∧J [] wr) (fun _ _=>0)
 case atStart=>exact⟨rfl,h0⟩
 case round=>
  obtain⟨rfl,hJs⟩:=hrel
  gi_wp2
  go_end0
  exact⟨⟨_,rfl⟩,hJs⟩
theorem L1 (F:Fence)(n:Nat)(h6:F.fn 263)(Wk:F.round=none)(a:Option Addr)(len cap:Nat)(w:World):
  CallsIn F n prog 263 #[.slice a len cap] w fun e w'=>e= .returned (.func (.func 268) #[] #[.pointer (some ⟨w.heap.size,0,none⟩)])∧w'=w.alloc (.cells #[.slice a len cap] 62):=by
 refine callsIn_of_wp func263 rfl h6 ?_ Wk;simp only[ntmps263,List.size_toArray,List.length_cons,List.length_nil,J1,J3,Array.replicate_succ,Array.replicate_zero,List.push_toArray,List.append_toArray,List.nil_append,List.cons_append]
 gi_wp2
 go_ret
 exact⟨rfl,rfl⟩
theorem CT (F:Fence)(n:Nat)(h8:F.fn 268)(Wk:F.round=none)(hn:1≤n)(Bs n₀:Nat)(sv:Value)(zs:List Int)(Vj:zs.length*8≤140737488351232)(w:World)(hBs:Bs<w.heap.size)(hn₀:n₀≤w.heap.size)
  (hc:w.cell? ⟨Bs,0,none⟩=some sv) (hI:nI n₀ w sv zs):
  SeqStopsK F n prog 268 #[.pointer (some ⟨Bs,0,none⟩)] (fun x:Nat×Int=> #[Value.int .i64 (x.1:Int),Value.int .u32 x.2]) (Pk n₀ Bs sv) (fun ys=>ys=yn zs zs.length zs.length)
   (fun pre=>∃k,k≤zs.length∧pre=yn zs zs.length k) zs.length w:=fun l J Jx W hW _ _ hY h0=>by
 have hc':=(hW.cell (p:=⟨Bs,0,none⟩) hBs).trans hc
 obtain⟨a,cap,rfl,h1|⟨b,off,rfl,hb,Th⟩⟩:=hI.below (hW.mono hn₀)
 ·rw[h1]at hc'⊢;exact(xO F n h8 Wk l Bs cap a J W hc' h0).mono fun e W' ⟨he,hj⟩=>⟨he,.inl ⟨_,by rfl,hj⟩⟩
 exact Iw F n h8 Wk hn l Bs n₀ b off zs.length cap zs Vj hb J Jx hY W hc' Th h0
def lD (s x:Int):Int:=bits .or .u64 (IntKind.u64.wrap (s*4294967296)) (IntKind.u64.wrap x)
def ub:List (Nat×Int)→Int:=List.foldl (fun s p=>lD s p.2) 0
theorem FL (pre:List (Nat×Int))(x:Nat×Int):ub (pre++[x])=lD (ub pre) x.2:=by simp[ub]
set_option maxRecDepth 100000 in
theorem EV (F:Fence)(n:Nat)(h3:F.fn 249)(h5:F.fn 263)(h7:F.fn 268)(Wk:F.round=none)(hn:3≤n)(a:Option Addr)(len cap:Nat)(zs:List Int)(Vj:zs.length*8≤140737488351232)(w:World)(hI:nI w.heap.size w (.slice a len cap) zs):
  CallsIn F n prog 249 #[.slice a len cap] w fun e W'=>e= .returned (.int .u64 (ub (yn zs zs.length zs.length)))∧Below w.heap.size w W':=by
 have h1:1≤n:=by omega
 refine callsIn_of_wp_marks func249 rfl h3 ?_ Wk;simp only[ntmps249,List.size_toArray,List.length_cons,List.length_nil,J1,J3,Array.replicate_succ,Array.replicate_zero,List.push_toArray,List.append_toArray,List.nil_append,List.cons_append]
 gi_wp2_with (gi_at_call 263;refine(L1 F (n-1) h5 Wk _ _ _ _).mono ?_;rintro e w' ⟨rfl,rfl⟩)
 have bS:=Boxed.new w 128 (.int .u64 0);have bN:=Boxed.new (w.alloc (.cells #[.int .u64 0] 128)) 62 (.slice a len cap);rw[World.size_alloc]at bN;have hB0:Below w.heap.size w ((w.alloc (.cells #[.int .u64 0] 128)).alloc (.cells #[.slice a len cap] 62)):=((Below.refl _ w).alloc (O1 _) _).alloc (by simp) _;refine wpIn_rangeFunc_ownG Wk h1 (gf:=268) (lb:= #[.pointer (some ⟨w.heap.size+1,0,none⟩)]) rfl h7 (enters_of func268 (by kernel_rfl) rfl)
  (CT F (n-1) h7 Wk (by omega) (w.heap.size+1) w.heap.size _ zs Vj _ (by simp) (by simp;omega) bN.cell (hI.below hB0)) Nf (QD (by simp;omega) (by simp)) (Below.refl _ _) (fun _=>rfl)
  (fun pre W=>(W.cell? ⟨w.heap.size,0,none⟩=some (.int .u64 (ub pre))∧W.frozen? ⟨w.heap.size,0,none⟩=false)∧Below w.heap.size w W)
  (fun _ _ _=>False)
  (OwnFrom.and (Own.from (fun s A B row hs hg hr=>⟨cell_kept hs.1 hg hr,(frozen_kept hs.1 hg hr).trans hs.2⟩) _) (ownFrom_below (O1 _) (by simp;omega)))
  (fun _ _ _ _ _ hs _ _=>hs)
  ⟨⟨(bS.alloc _).cell,(bS.alloc _).frozen⟩,hB0⟩
  (fun x=>{tmps:= #[.slice a len cap,undef,.int .u64 0,.pointer (some ⟨w.heap.size,0,none⟩),undef,.int .u32 x.2,.slice a len cap,.func (.func 268) #[] #[.pointer (some ⟨w.heap.size+1,0,none⟩)],.int .i64 (x.1:Int),.int .u32 x.2,undef,undef,undef,undef,undef,undef],defers:=[]}) ?assign ?body ?done ?stop
 case assign=>
  intro l x W K hK
  gi_wp2
  exact hK
 case body=>
  rintro l pre x W ⟨⟨hc,hf⟩,hB⟩ _
  gi_wp2
  exact⟨(KeepsOthers.setCell _ _ _).from _,⟨(Below.refl w.heap.size W).setCell (p:=⟨w.heap.size,0,none⟩) (O1 _) _,fun e=>(World.cell?_setCell_other _ _ _ _ (by intro h;simp only[Addr.mk.injEq]at h;omega)).trans e⟩,
   ⟨by rw[FL];exact World.cell?_setCell_same' _ _ _ (by rw[hc];rfl),by rw[World.frozen?_setCell];exact hf⟩,hB.setCell (p:=⟨w.heap.size,0,none⟩) (O1 _) _⟩
 case done=>
  rintro D ys W hD rfl ⟨⟨hc,_⟩,hB⟩ hK
  gi_wp2
  refine⟨by simp,.inl ⟨_,_,rfl,run_takeDeferred hK,?_⟩⟩;exact⟨_,results_tmp rfl _ _ _,rfl,hB.trans (belowK_b (w:=w) (O1 _) W D _ _ (by simp at hD;omega) hK rfl rfl)⟩
 case stop=>
  rintro D c pre W _ _ h _;exact h.elim
theorem tA {s x:Nat}(hs:s<BB)(hx:x<BB):lD (s:Int) (x:Int)=((s*BB+x:Nat):Int):=by
 have h:fm .or .u64 ((s:Int)*4294967296) (x:Int)=((s*BB+x:Nat):Int):=by
  rw[show ((s:Int)*4294967296)=((s*4294967296:Nat):Int) by omega];unfold BB at*
  have e:=Nat.two_pow_add_eq_or_of_lt (i:=32) (b:=x) (by omega) s;rw[rh (by omega) (by omega)];have e2:s*4294967296=2^32*s:=O6 _ _;rw[e2,←e]
 unfold lD;rw[Q5 _ (by unfold BB at*;omega),Q5 _ (by unfold BB at*;omega)];exact h
theorem BR {n:Nat}(hn:n<2^64):ub (yn (ak n) (nl n) (nl n))=n:=by
 have h2:nl n≤2:=aE (by unfold BB;omega);have hr:=bO.ak n;have hv:=gE n;unfold nl at*
 generalize ak n=l at*
 match l,h2 with
 |[],_=>simp[val]at hv;subst hv;rfl
 |[x],_=>
  obtain⟨x0,x1⟩:=hr.head;obtain⟨a,rfl⟩:=Int.eq_ofNat_of_zero_le x0
  simp[val]at hv
  have e:ub (yn [(a:Int)] 1 1)=lD ((0:Nat):Int) a:=rfl;show ub (yn [(a:Int)] 1 1)=_;rw[e,tA (by decide) (by unfold BB;omega)];omega
 |[x,y],_=>
  obtain⟨x0,x1⟩:=hr.head;obtain⟨a,rfl⟩:=Int.eq_ofNat_of_zero_le x0;obtain⟨y0,y1⟩:=hr.tail.head;obtain⟨b,rfl⟩:=Int.eq_ofNat_of_zero_le y0
  simp[val]at hv
  have e:ub (yn [(a:Int),(b:Int)] 2 2)=lD (lD ((0:Nat):Int) b) a:=rfl;show ub (yn [(a:Int),(b:Int)] 2 2)=_;rw[e,tA (by decide) (by unfold BB;omega),Nat.zero_mul,Nat.zero_add,tA (by unfold BB;omega) (by unfold BB;omega)];unfold BB at*
  omega
theorem fB (n:Nat)(hn:n<2^64):Pr prog 249 [.one (.ints .u32 (ak n))] (.one (.int .u64 n)):=by
 refine⟨⟨_,func249,by rfl,by rfl⟩,fun ok w vs Tc hr=>?_⟩;obtain⟨vs⟩:=vs
 match vs,hr with
 |[v],hr=>
  obtain⟨⟨a,cap,rfl,hle,hc⟩,_⟩:=hr;have h2:(ak n).length≤2:=aE (by unfold BB;omega);have hI:nI w.heap.size w (.slice a (ak n).length cap) (ak n):=by
   refine⟨a,cap,rfl,?_⟩
   rcases hc with hc|⟨g,o,ha,hg,hc⟩
   ·exact .inl hc
   exact .inr ⟨g,o,ha,Tc g hg,fun j hj=>by rw[hc j hj,X7]⟩
  refine(callsIn_wide.1 (EV Fence.wide 3 trivial trivial trivial rfl (by omega) a (ak n).length cap (ak n) (by omega) w hI)).mono ?_
  rintro e W' ⟨rfl,hB⟩;refine⟨_,rfl,hB,?_⟩;show Value.int .u64 (ub (yn (ak n) (nl n) (nl n)))= .int .u64 n;rw[BR hn]
open Go Go.Proofs Go.Eng
theorem v9 (x:Nat)(h:x<2^64):Lib.bitLen x=bl x:=by
 induction x using Nat.strongRecOn with
 |_ x ih=>
  by_cases h0:x=0
  ·subst h0;rw[sU];rfl
  rw[Lib.bitLen_half x h0 h,CL (by omega),ih (x/2) (by omega) (by omega)]
theorem Mk (x:Nat)(hx:x<BB):Pr prog 258 [.one (.int .u32 x)] (.one (.int .i64 (32-bl x:Nat))):=by
 refine⟨⟨_,func258,by rfl,by rfl⟩,fun ok w vs Tc hr=>?_⟩;obtain⟨vs⟩:=vs
 match vs,hr with
 |[v],hr=>
  obtain⟨hv,_⟩:=hr;have hv:v= .int .u32 x:=hv;subst hv;have h2:bl x≤32:=zu (by unfold BB at hx;omega)
  refine(Tryz.ox x w (by omega) (by unfold BB at hx;omega)).mono ?_
  rintro e W' ⟨rfl,rfl⟩;refine⟨_,rfl,Go.RowKit.Below.refl _ _,?_⟩;show Value.int .i64 (32-(Lib.bitLen (x:Int).toNat:Int))= .int .i64 ((32-bl x:Nat):Int);rw[Q1,v9 x (by unfold BB at hx;omega)]
  congr 1
  omega
open Go Go.Eng
theorem kN {m n:Nat}(h:fe m n<0):m<n:=by
 unfold fe at h
 split at h
 ·omega
 split at h<;>omega
theorem ji {m n:Nat}(h:¬fe m n<0):n≤m:=by
 rcases Nat.lt_or_ge m n with h1|h1
 ·rw[gQ (by omega)]at h;omega
 exact h1
theorem je (a b:Nat)(h0:0<b)(ha:nl a<2^43)(hb:nl b<2^43):Pr prog 248 [.one (.ints .u32 (ak a)),.one (.ints .u32 (ak b))] (.aB [.one (.ints .u32 (ak (a/b))),.one (.ints .u32 (ak (a%b)))]):=by
 have hnb:=eL.2 h0;refine pw func248 ⟨[0,1,4,5,6,7,8,9,10,11,12,13,14,15,16,17,18,19,26,42,90,134,141,151],[(12,.nil),(17,.nil)]⟩ ?_;simp only[Tryz.f248,ntmps248,iz,seval];simp only[vx,T,seval];refine Cg (gV a b (by omega) (by omega)) ?_;simp only[vx,T,seval];refine⟨fun h1=>Lg ?_,fun h1=>Lg ?_⟩
 ·simp only[vx,T,seval];refine Cg (j0 _ (by rw[eC];omega)) ?_;simp only[vx,T,seval];have SI:a<b:=kN h1;refine Va ?_;simp only[cY,a5,ry,seval,Nat.div_eq_of_lt SI,O7 SI,br]
 have hle:b≤a:=ji h1;simp only[vx,T,seval];refine⟨fun h2=>Lg ?_,fun h2=>Lg ?_⟩
 ·simp only[vx,T,seval];have S9:a<2^64:=by have:=cL.1 (show nl a≤2 by omega);unfold BB at this;omega
  refine Cg (fB a S9) ?_;simp only[vx,T,seval];refine Cg (fB b (by omega)) ?_;simp only[vx,T,seval];refine⟨by omega,?_⟩;have e1:IntKind.u64.wrap ((a:Int).tdiv b)=((a/b:Nat):Int):=by
   have e3:(a:Int).tdiv b=((a/b:Nat):Int):=rfl
   have:=Nat.div_le_self a b
   generalize a/b=q at*
   rw[e3,Q5 _ (by omega)]
  have e2:(a:Int).tmod b=((a%b:Nat):Int):=rfl;simp only[e1,e2];refine Cg (dr (a/b) (Nat.lt_of_le_of_lt (Nat.div_le_self a b) S9)) ?_;simp only[vx,T,seval];refine⟨by omega,?_⟩;simp only[e2];refine Cg (dr (a%b) (Nat.lt_of_le_of_lt (Nat.mod_le a b) S9)) ?_;simp only[vx,T,seval];refine Va ?_;simp only[cY,a5,ry,seval]
 simp only[vx,T,seval];refine⟨fun h3=>Lg ?_,fun h3=>Lg ?_⟩
 ·have Xv:nl b=1:=by omega
  have Vs:b<BB:=by have:=cL.1 (show nl b≤1 by omega);simpa using this
  simp only[vx,T,seval]
  simp(disch:=omega) only[lG,←X2,←Q2,Q1,Q4,Q5,aD,aK,true_and,and_true,Nat.pow_zero,Nat.div_one,O7 Vs]
  refine⟨by omega,Cg (rH a b (by omega) h0 Vs) ?_⟩;simp only[vx,T,seval];refine Va ?_;simp only[cY,a5,ry,seval]
 simp only[vx,T,seval];have e1:IntKind.i64.wrap ((nl b:Int)-1)=((nl b-1:Nat):Int):=by rw[Q4 _ (by omega)];omega
 have ht:=kU h0;obtain⟨t1,t2⟩:=gP h0;obtain⟨s1,s2,s3⟩:=uZ h0;have s4:=Ib h0
 simp(disch:=omega) only[lG,←X2,←Q2,Q1,Q4,Q5,aD,aK,true_and,and_true,e1,ht]
 refine⟨by omega,Cg (Mk (fy b) t2) ?_⟩;have eS:32-bl (fy b)=jY b:=rfl;rw[eS];simp only[vx,T,seval];refine cN.fresh (mm a (jY b) (by omega) s1) ?_;simp only[vx,T,seval];refine cN.fresh (mm b (jY b) (by omega) s1) ?_;simp only[vx,T,seval,aP];have Yo:2*(a*2^jY b)<BB^(nl a+1):=by
  have h5:=cG a;have h6:2^jY b≤2^31:=O3 (by decide) (by omega);have h7:a*2^jY b≤a*2^31:=O9 _ h6;have h8:BB^(nl a+1)=BB^nl a*BB:=O4 _ _;have h9:a*(2*2^31)<BB^nl a*BB:=Nat.mul_lt_mul_of_lt_of_le h5 (by decide) (by decide);omega
 have hV2:val (ij (nl b+1) (b*2^jY b))=b*2^jY b:=jI (Nat.lt_of_lt_of_le s2 (O3 (by decide) (by omega)));rw[List.take_of_length_le (by rw[aP];exact O1 _)];refine Cg (du _ (gn _ _) (by rw[aP];omega)) ?_;rw[hV2];have hN:Hl (b*2^jY b) (nl (b*2^jY b)):=⟨rfl,by omega,by rw[s4];exact s3⟩;obtain⟨A,hA⟩:∃A,A=a*2^jY b:=⟨_,rfl⟩;obtain⟨V,hV⟩:∃V,V=b*2^jY b:=⟨_,rfl⟩;have hmono:nl b≤nl a:=bh hle;rw[←hA]at Yo⊢;rw[←hV]at s4 hN⊢;clear hV2 s2 s3;simp only[vx,T,seval,aP];have e4:IntKind.i64.wrap (((nl a+1:Nat):Int)-(nl V:Nat))=((nl a+1-nl V:Nat):Int):=by rw[Q4 _ (by omega)];omega
 have e5:IntKind.i64.wrap ((nl V:Int)-1)=((nl V-1:Nat):Int):=by rw[Q4 _ (by omega)];omega
 have e6:IntKind.i64.wrap ((nl V:Int)-2)=((nl V-2:Nat):Int):=by rw[Q4 _ (by omega)];omega
 have w1:=hN.high;have w2:V/BB^(nl V-1)%BB=V/BB^(nl V-1):=O7 w1.2.1;have wN:V/BB^(nl V-2)%BB<BB:=bd _;obtain⟨hi,U7⟩:∃hi,hi=V/BB^(nl V-1):=⟨_,rfl⟩;obtain⟨nx,TC⟩:∃nx,nx=V/BB^(nl V-2)%BB:=⟨_,rfl⟩;rw[←U7]at w1 w2;rw[←TC]at w1 wN;obtain⟨w3,w4,_⟩:=w1;have w5:IntKind.u64.wrap (hi:Int)=hi:=Q5 _ (by unfold BB at w4;omega);have w6:IntKind.u64.wrap (nx:Int)=nx:=Q5 _ (by unfold BB at wN;omega)
 simp(disch:=omega) only[lG,←X2,←Q2,Q1,Q4,Q5,aD,aK,true_and,and_true,e4,e5,e6,←U7,←TC,w2,w5,w6]
 refine⟨⟨by omega,by omega,by omega,by omega⟩,⟨by omega,by omega⟩,⟨by omega,by omega⟩,Lk (fun y:{y:Nat×List Int×List Int//jv A V (nl a+1) y.1 y.2.1 y.2.2∧y.2.2.length=nl a+1-nl V}=>⟨[(8,.one (.int .i64 (jY b))),(9,.one (.own 1 1 0 (nl a+1))),(10,.one (.ints .u32 (ak V))),(11,.one (.int .i64 (nl V))),(12,.one (.own 2 1 0 (nl a+1-nl V))),(13,.one (.int .u64 hi)),(14,.one (.int .u64 nx)),(15,.one (.int .i64 ((y.1.1:Int)-1)))],[(1,⟨.ints 161 .u32 y.1.2.1,true⟩),(2,⟨.ints 161 .u32 y.1.2.2,true⟩)],3,177⟩) (fun y=>y.1.1) ⟨(nl a+1-nl V,_,List.replicate (nl a+1-nl V) 0),jv.init hN (by omega) Yo (by omega),by simp⟩ ?_ (fun⟨⟨j,us,qs⟩,hy,Vt⟩=>?_)⟩
 ·refine Sa ?_;simp only[ry,seval,rz];rfl
 simp only at hy Vt;simp only[vx,T,seval];refine⟨fun h6=>Lg ?_,fun h6=>Lg ?_⟩
 ·obtain⟨i,rfl⟩:∃i,j=i+1:=⟨j-1,by omega⟩;have Vk:=hy.at;obtain⟨d0,d1,d2,d3⟩:=Vk.words;have hul:=hy.ulen;have Vl:val us<BB^(i+nl V+1):=by
   refine Nat.lt_of_lt_of_le Vk.lt ?_
   have:=O8 (BB^(i+1)) (Nat.le_of_lt Vk.cH.lt)
   rw[←Nat.pow_add,show nl V+(i+1)=i+nl V+1 by omega]at this;exact this
  have Tj:=hy.le;have g0:us.getD (i+nl V-2) 0=((q3 (nl V) i (val us)%BB:Nat):Int):=by rw[dk hy.uin,d0]
  have g1:us.getD (i+nl V-1) 0=((q3 (nl V) i (val us)/BB%BB:Nat):Int):=by rw[dk hy.uin,d1]
  have g2:us.getD (i+nl V) 0=((q3 (nl V) i (val us)/BB/BB:Nat):Int):=by rw[dk hy.uin,d2]
  have dg0:=Dg.init Vk;obtain⟨tp,Xc⟩:∃tp,tp=q3 (nl V) i (val us)/BB:=⟨_,rfl⟩;rw[←Xc]at g1 g2 d1 d2 d3 dg0;have d4:tp/BB<BB:=by rw[Nat.div_lt_iff_lt_mul (by decide)];exact d3
  have d5:=pE d4 (bd tp);rw[show tp/BB*BB+tp%BB=tp by rw[O6];exact Nat.div_add_mod tp BB]at d5;have d6:IntKind.u64.wrap (((tp/BB:Nat):Int)*4294967296)=((tp/BB:Nat):Int)*4294967296:=by
   generalize tp/BB=q at d4⊢
   exact Q5 _ (by unfold BB at d4;omega)
  have d7:IntKind.u64.wrap ((tp:Int).tdiv hi)=((tp/hi:Nat):Int):=by
   have e3:(tp:Int).tdiv hi=((tp/hi:Nat):Int):=rfl
   have:=Nat.div_le_self tp hi
   generalize tp/hi=q at*
   rw[e3,Q5 _ (by unfold BB at d3;omega)]
  have d8:(tp:Int).tmod hi=((tp%hi:Nat):Int):=rfl;have d9:IntKind.u64.wrap ((tp/BB:Nat):Int)=((tp/BB:Nat):Int):=by
   generalize tp/BB=q at d4⊢
   exact Q5 _ (by unfold BB at d4;omega)
  have d10:IntKind.u64.wrap ((tp%BB:Nat):Int)=((tp%BB:Nat):Int):=by
   have:=bd tp
   generalize tp%BB=q at this⊢
   exact Q5 _ (by omega)
  have x0:((i+1:Nat):Int)-1=(i:Int):=by omega
  have x1:IntKind.i64.wrap (((i+nl V:Nat):Int)-1)=((i+nl V-1:Nat):Int):=by rw[Q4 _ (by omega)];omega
  have x2:IntKind.i64.wrap (((i+nl V:Nat):Int)-2)=((i+nl V-2:Nat):Int):=by rw[Q4 _ (by omega)];omega
  have x3:IntKind.i64.wrap ((i:Int)+(nl V:Nat))=((i+nl V:Nat):Int):=by rw[←X2,Q4 _ (by omega)]
  have x4:¬(hi:Int)=0:=by unfold BB at w3;omega
  rw[x0];simp only[vx,T,seval]
  simp(disch:=omega) only[lG,←X2,←Q2,Q1,Q4,Q5,aD,aK,true_and,and_true,x1,x2,x3,g0,g1,g2,d9,d10,d5,d6,d7,d8]
  refine⟨⟨by omega,by omega⟩,⟨by omega,by omega⟩,x4,x4,Lk (fun y:{y:Nat×Nat//Dg V (nl V) i (val us) y.1 y.2}=>⟨[(8,.one (.int .i64 (jY b))),(9,.one (.own 1 1 0 (nl a+1))),(10,.one (.ints .u32 (ak V))),(11,.one (.int .i64 (nl V))),(12,.one (.own 2 1 0 (nl a+1-nl V))),(13,.one (.int .u64 hi)),(14,.one (.int .u64 nx)),(15,.one (.int .i64 i)),(17,.one (.int .u64 y.1.1)),(18,.one (.int .u64 y.1.2))],[(1,⟨.ints 161 .u32 us,true⟩),(2,⟨.ints 161 .u32 qs,true⟩)],3,177⟩) (fun y=>y.1.1) ⟨(tp/hi,tp%hi),by rw[U7];exact dg0⟩ ?_ (fun⟨⟨D,rest⟩,hD⟩=>?_)⟩
  ·refine Sa ?_;simp only[ry,seval,rz]
  simp only at hD;have hDl:=hD.lt;have hDr:=hD.rest;have hDt:=hD.top;rw[←Xc,←U7]at hDt;have Us:=bd (q3 (nl V) i (val us));simp only[vx,T,seval];refine⟨fun c1=>Lg ?_,fun c1=>Lg ?_⟩
  ·have c2:BB≤D:=by unfold BB;omega
   obtain⟨n1,n2,n3⟩:=hD.next Vk (.inl c2);rw[←Xc,←U7]at n2;simp only[vx,T,seval];have m1:IntKind.u64.wrap ((D:Int)-1)=((D-1:Nat):Int):=by rw[Q5 _ (by unfold BB at hDl;omega)];omega
   have m2:IntKind.u64.wrap ((rest+hi:Nat):Int)=((rest+hi:Nat):Int):=Q5 _ (by unfold BB at hDr w4;omega)
   simp(disch:=omega) only[lG,←X2,←Q2,Q1,Q4,Q5,aD,aK,true_and,and_true,m1,m2]
   refine⟨fun c4=>Lg ?_,fun c4=>Lg ?_⟩
   ·obtain⟨f1,f2,f3⟩:=Dg.fin (D:=D-1) (rest:=rest+hi) Vk (by rw[←Xc,←U7];exact n2) n3 (.inr (by unfold BB;omega))
    generalize D-1=E at f1 f2 f3⊢
    simp only[vx,T,seval];have p1:IntKind.i64.wrap (((i+nl V:Nat):Int)+1)=((i+nl V+1:Nat):Int):=by rw[Q4 _ (by omega)];omega
    have p2:(((i+nl V+1:Nat):Int)-(i:Int)).toNat=nl V+1:=by omega
    simp(disch:=omega) only[lG,←X2,←Q2,Q1,Q4,Q5,aD,aK,true_and,and_true,x3,p1,p2]
    refine⟨⟨by omega,by omega,by omega⟩,Cm 1 rfl trivial (jP us i V E hy.uin (by omega) (by omega) f1) ?_⟩;rintro r B' ⟨t,zs,rfl,rfl,TW,Xd,Yq,Vu⟩ _;have XU:val zs<BB^(i+nl V+1):=ly Xd (by rw[Yq,ie hy.uin,Nat.div_eq_of_lt Vl]);simp only[vx,T,seval];refine⟨fun ht=>Lg ?_,fun ht=>Lg ?_⟩
    ·subst ht;have m1:IntKind.u64.wrap ((E:Int)-1)=((E-1:Nat):Int):=by
      have:0<E:=by
       rcases Nat.eq_zero_or_pos E with Xe|Xe
       ·subst Xe;simp only[Nat.zero_mul,Nat.mul_zero,Nat.add_zero,if_true,Nat.mul_one]at Vu;omega
       exact Xe
      rw[Q5 _ (by unfold BB at f1;omega)];omega
     simp only[vx,T,seval]
     simp(disch:=omega) only[lG,←X2,←Q2,Q1,Q4,Q5,aD,aK,true_and,and_true,x3,p1,p2,m1]
     refine⟨⟨by omega,by omega,by omega⟩,Cm 1 rfl trivial (kz zs i V Xd (by omega) (by omega)) ?_⟩;rintro r B' ⟨rfl,zs2,k,rfl,SJ,VM,TU,UP⟩ _;simp only[if_true,Nat.mul_one]at Vu;obtain⟨k1,k2⟩:=Vk.yW f3 f2 XU (ly VM (by rw[TU,Yq,ie hy.uin,Nat.div_eq_of_lt Vl])) Vu UP;have k3:E-1=val us/BB^i/V:=by rw[k1];rfl
     have k4:IntKind.u32.wrap ((E-1:Nat):Int)=((val us/BB^i/V:Nat):Int):=by
      rw[k3]
      have:=hy.q
      generalize val us/BB^i/V=q at this⊢
      exact IntWalk.u32_in _ (by unfold BB at this;omega)
     simp only[vx,T,seval]
     simp(disch:=omega) only[lG,←X2,←Q2,Q1,Q4,Q5,aD,aK,true_and,and_true,k4]
     refine⟨by omega,Lq ⟨(i,zs2,_),hy.step (by rw[SJ,TW]) VM k2,by simp only[List.length_set];exact Vt⟩ ?_ ?_⟩
     ·refine Sa ?_;simp only[ry,seval,rz]
     simp only;omega
    subst ht;simp only[Bool.false_eq_true,if_false,Nat.mul_zero,Nat.add_zero]at Vu;obtain⟨k1,k2⟩:=Vk.B8 f2 Vu;have k4:IntKind.u32.wrap (E:Int)=((val us/BB^i/V:Nat):Int):=by
     rw[←k1];exact IntWalk.u32_in _ (by unfold BB at f1;omega)
    simp only[vx,T,seval]
    simp(disch:=omega) only[lG,←X2,←Q2,Q1,Q4,Q5,aD,aK,true_and,and_true,k4]
    refine⟨by omega,Lq ⟨(i,zs,_),hy.step TW Xd k2,by simp only[List.length_set];exact Vt⟩ ?_ ?_⟩
    ·refine Sa ?_;simp only[ry,seval,rz]
    simp only;omega
   simp only[vx,T,seval];refine Lq ⟨(D-1,rest+hi),⟨by rw[←Xc,←U7];exact n2,n3,by simp only;unfold BB;omega,by simp only;omega⟩⟩ ?_ ?_
   ·refine Sa ?_;simp only[ry,seval,rz]
   simp only;omega
  have c2:D<BB:=by unfold BB;omega
  simp only[vx,T,seval];have z1:IntKind.u64.wrap ((D*nx:Nat):Int)=((D*nx:Nat):Int):=by
   have:D*nx≤4294967295*4294967295:=Nat.mul_le_mul (by unfold BB at c2;omega) (by unfold BB at wN;omega)
   exact Q5 _ (by omega)
  have z2:IntKind.u64.wrap ((rest:Int)*4294967296)=(rest:Int)*4294967296:=Q5 _ (by unfold BB at hDr;omega);have z3:=pE hDr Us;have z4:IntKind.u64.wrap ((q3 (nl V) i (val us)%BB:Nat):Int)=((q3 (nl V) i (val us)%BB:Nat):Int):=by
   generalize q3 (nl V) i (val us)%BB=q at Us⊢
   exact Q5 _ (by omega)
  simp(disch:=omega) only[lG,←X2,←Q2,Q1,Q4,Q5,aD,aK,true_and,and_true,x1,x2,x3,g0,z1,z2,z4,z3]
  refine⟨⟨by omega,by omega⟩,?_⟩;refine⟨fun c3=>Lg ?_,fun c3=>Lg ?_⟩
  ·obtain⟨n1,n2,n3⟩:=hD.next Vk (.inr (by rw[←TC];omega));rw[←Xc,←U7]at n2;simp only[vx,T,seval];have m1:IntKind.u64.wrap ((D:Int)-1)=((D-1:Nat):Int):=by rw[Q5 _ (by unfold BB at hDl;omega)];omega
   have m2:IntKind.u64.wrap ((rest+hi:Nat):Int)=((rest+hi:Nat):Int):=Q5 _ (by unfold BB at hDr w4;omega)
   simp(disch:=omega) only[lG,←X2,←Q2,Q1,Q4,Q5,aD,aK,true_and,and_true,m1,m2]
   refine⟨fun c4=>Lg ?_,fun c4=>Lg ?_⟩
   ·obtain⟨f1,f2,f3⟩:=Dg.fin (D:=D-1) (rest:=rest+hi) Vk (by rw[←Xc,←U7];exact n2) n3 (.inr (by unfold BB;omega))
    generalize D-1=E at f1 f2 f3⊢
    simp only[vx,T,seval];have p1:IntKind.i64.wrap (((i+nl V:Nat):Int)+1)=((i+nl V+1:Nat):Int):=by rw[Q4 _ (by omega)];omega
    have p2:(((i+nl V+1:Nat):Int)-(i:Int)).toNat=nl V+1:=by omega
    simp(disch:=omega) only[lG,←X2,←Q2,Q1,Q4,Q5,aD,aK,true_and,and_true,x3,p1,p2]
    refine⟨⟨by omega,by omega,by omega⟩,Cm 1 rfl trivial (jP us i V E hy.uin (by omega) (by omega) f1) ?_⟩;rintro r B' ⟨t,zs,rfl,rfl,TW,Xd,Yq,Vu⟩ _;have XU:val zs<BB^(i+nl V+1):=ly Xd (by rw[Yq,ie hy.uin,Nat.div_eq_of_lt Vl]);simp only[vx,T,seval];refine⟨fun ht=>Lg ?_,fun ht=>Lg ?_⟩
    ·subst ht;have m1:IntKind.u64.wrap ((E:Int)-1)=((E-1:Nat):Int):=by
      have:0<E:=by
       rcases Nat.eq_zero_or_pos E with Xe|Xe
       ·subst Xe;simp only[Nat.zero_mul,Nat.mul_zero,Nat.add_zero,if_true,Nat.mul_one]at Vu;omega
       exact Xe
      rw[Q5 _ (by unfold BB at f1;omega)];omega
     simp only[vx,T,seval]
     simp(disch:=omega) only[lG,←X2,←Q2,Q1,Q4,Q5,aD,aK,true_and,and_true,x3,p1,p2,m1]
     refine⟨⟨by omega,by omega,by omega⟩,Cm 1 rfl trivial (kz zs i V Xd (by omega) (by omega)) ?_⟩;rintro r B' ⟨rfl,zs2,k,rfl,SJ,VM,TU,UP⟩ _;simp only[if_true,Nat.mul_one]at Vu;obtain⟨k1,k2⟩:=Vk.yW f3 f2 XU (ly VM (by rw[TU,Yq,ie hy.uin,Nat.div_eq_of_lt Vl])) Vu UP;have k3:E-1=val us/BB^i/V:=by rw[k1];rfl
     have k4:IntKind.u32.wrap ((E-1:Nat):Int)=((val us/BB^i/V:Nat):Int):=by
      rw[k3]
      have:=hy.q
      generalize val us/BB^i/V=q at this⊢
      exact IntWalk.u32_in _ (by unfold BB at this;omega)
     simp only[vx,T,seval]
     simp(disch:=omega) only[lG,←X2,←Q2,Q1,Q4,Q5,aD,aK,true_and,and_true,k4]
     refine⟨by omega,Lq ⟨(i,zs2,_),hy.step (by rw[SJ,TW]) VM k2,by simp only[List.length_set];exact Vt⟩ ?_ ?_⟩
     ·refine Sa ?_;simp only[ry,seval,rz]
     simp only;omega
    subst ht;simp only[Bool.false_eq_true,if_false,Nat.mul_zero,Nat.add_zero]at Vu;obtain⟨k1,k2⟩:=Vk.B8 f2 Vu;have k4:IntKind.u32.wrap (E:Int)=((val us/BB^i/V:Nat):Int):=by
     rw[←k1];exact IntWalk.u32_in _ (by unfold BB at f1;omega)
    simp only[vx,T,seval]
    simp(disch:=omega) only[lG,←X2,←Q2,Q1,Q4,Q5,aD,aK,true_and,and_true,k4]
    refine⟨by omega,Lq ⟨(i,zs,_),hy.step TW Xd k2,by simp only[List.length_set];exact Vt⟩ ?_ ?_⟩
    ·refine Sa ?_;simp only[ry,seval,rz]
    simp only;omega
   simp only[vx,T,seval];refine Lq ⟨(D-1,rest+hi),⟨by rw[←Xc,←U7];exact n2,n3,by simp only;unfold BB;omega,by simp only;omega⟩⟩ ?_ ?_
   ·refine Sa ?_;simp only[ry,seval,rz]
   simp only;omega
  obtain⟨f1,f2,f3⟩:=Dg.fin Vk hD.top hD.ge (.inl ⟨c2,by rw[←TC];omega⟩);obtain⟨E,hE⟩:∃E,E=D:=⟨D,rfl⟩;rw[←hE]at f1 f2 f3⊢;simp only[vx,T,seval];have p1:IntKind.i64.wrap (((i+nl V:Nat):Int)+1)=((i+nl V+1:Nat):Int):=by rw[Q4 _ (by omega)];omega
  have p2:(((i+nl V+1:Nat):Int)-(i:Int)).toNat=nl V+1:=by omega
  simp(disch:=omega) only[lG,←X2,←Q2,Q1,Q4,Q5,aD,aK,true_and,and_true,x3,p1,p2]
  refine⟨⟨by omega,by omega,by omega⟩,Cm 1 rfl trivial (jP us i V E hy.uin (by omega) (by omega) f1) ?_⟩;rintro r B' ⟨t,zs,rfl,rfl,TW,Xd,Yq,Vu⟩ _;have XU:val zs<BB^(i+nl V+1):=ly Xd (by rw[Yq,ie hy.uin,Nat.div_eq_of_lt Vl]);simp only[vx,T,seval];refine⟨fun ht=>Lg ?_,fun ht=>Lg ?_⟩
  ·subst ht;have m1:IntKind.u64.wrap ((E:Int)-1)=((E-1:Nat):Int):=by
    have:0<E:=by
     rcases Nat.eq_zero_or_pos E with Xe|Xe
     ·subst Xe;simp only[Nat.zero_mul,Nat.mul_zero,Nat.add_zero,if_true,Nat.mul_one]at Vu;omega
     exact Xe
    rw[Q5 _ (by unfold BB at f1;omega)];omega
   simp only[vx,T,seval]
   simp(disch:=omega) only[lG,←X2,←Q2,Q1,Q4,Q5,aD,aK,true_and,and_true,x3,p1,p2,m1]
   refine⟨⟨by omega,by omega,by omega⟩,Cm 1 rfl trivial (kz zs i V Xd (by omega) (by omega)) ?_⟩;rintro r B' ⟨rfl,zs2,k,rfl,SJ,VM,TU,UP⟩ _;simp only[if_true,Nat.mul_one]at Vu;obtain⟨k1,k2⟩:=Vk.yW f3 f2 XU (ly VM (by rw[TU,Yq,ie hy.uin,Nat.div_eq_of_lt Vl])) Vu UP;have k3:E-1=val us/BB^i/V:=by rw[k1];rfl
   have k4:IntKind.u32.wrap ((E-1:Nat):Int)=((val us/BB^i/V:Nat):Int):=by
    rw[k3]
    have:=hy.q
    generalize val us/BB^i/V=q at this⊢
    exact IntWalk.u32_in _ (by unfold BB at this;omega)
   simp only[vx,T,seval]
   simp(disch:=omega) only[lG,←X2,←Q2,Q1,Q4,Q5,aD,aK,true_and,and_true,k4]
   refine⟨by omega,Lq ⟨(i,zs2,_),hy.step (by rw[SJ,TW]) VM k2,by simp only[List.length_set];exact Vt⟩ ?_ ?_⟩
   ·refine Sa ?_;simp only[ry,seval,rz]
   simp only;omega
  subst ht;simp only[Bool.false_eq_true,if_false,Nat.mul_zero,Nat.add_zero]at Vu;obtain⟨k1,k2⟩:=Vk.B8 f2 Vu;have k4:IntKind.u32.wrap (E:Int)=((val us/BB^i/V:Nat):Int):=by
   rw[←k1];exact IntWalk.u32_in _ (by unfold BB at f1;omega)
  simp only[vx,T,seval]
  simp(disch:=omega) only[lG,←X2,←Q2,Q1,Q4,Q5,aD,aK,true_and,and_true,k4]
  refine⟨by omega,Lq ⟨(i,zs,_),hy.step TW Xd k2,by simp only[List.length_set];exact Vt⟩ ?_ ?_⟩
  ·refine Sa ?_;simp only[ry,seval,rz]
  simp only;omega
 have YU:j=0:=by omega
 subst YU;rw[hA,hV]at hy;obtain⟨r1,r2,r3⟩:=hy.done h0;rw[←hV]at r3;have hul:=hy.ulen;have hqi:=hy.qin;have Wz:=hy.uin;have Tj:=hy.le;simp only[←hV]at Tj;clear hy;simp only[vx,T,seval];rw[List.take_of_length_le (by omega)];refine Cg (du qs hqi (by omega)) ?_;rw[r1];simp only[vx,T,seval];have r4:val (us.take (nl V))=val us:=by rw[u5 Wz,O7 r3]
 have r5:nl (val us)<2^44:=Nat.lt_of_le_of_lt (aE r3) (by omega);refine⟨by omega,Cg (du _ (Wz.take _) (by rw[X5];omega)) ?_⟩;rw[r4];simp only[vx,T,seval];refine Cg (kJ (val us) (jY b) r5 s1).ints ?_;simp only[vx,T,seval];have r6:val (ij (nl (val us)) (val us/2^jY b))=a%b:=by
  rw[jI (Nat.lt_of_le_of_lt (Nat.div_le_self _ _) (cG _)),r2,Nat.mul_div_cancel _ (Nat.pow_pos (by decide))]
 refine Cg (du _ (gn _ _) (by rw[aP];omega)) ?_;rw[r6];simp only[vx,T,seval];refine Va ?_;simp only[cY,a5,ry,seval]
open Go Go.Eng
theorem yp {b lb:Nat}(h:b<BB^lb)(i:Nat):(ij lb b).getD i 0=((b/BB^i%BB:Nat):Int):=by
 rw[dk (gn _ _),jV,O7 h]
theorem dB (lb b:Nat):(ij lb b).take lb=ij lb b:=List.take_of_length_le (by rw[aP];exact O1 _)
structure iU (a b lb i:Nat) (os:List Int):Prop where
 le:i≤nl a
 len:os.length=nl a+lb
 inr:bO os
 zero:∀j,i+lb≤j→os.getD j 0=0
 eq:val os=(a%BB^i)*b
structure mM (a b lb i k:Nat) (os:List Int) (c:Nat):Prop where
 le:k≤lb
 len:os.length=nl a+lb
 inr:bO os
 zero:∀j,i+lb≤j→os.getD j 0=0
 eq:val os+BB^(i+k)*c=(a%BB^i)*b+BB^i*((a/BB^i%BB)*(b%BB^k))
 c:c<BB
theorem iU.init (a b lb:Nat):iU a b lb 0 (List.replicate (nl a+lb) 0):=
 ⟨O2 _,by simp,bO.replicate _,fun j _=>by simp[X7,List.getElem?_replicate];split<;>rfl,by rw[cO];simp[Nat.mod_one]⟩
theorem iU.start {a b lb i:Nat}{os:List Int}(h:iU a b lb i os):mM a b lb i 0 os 0:=
 ⟨O2 _,h.len,h.inr,h.zero,by rw[h.eq];simp[Nat.mod_one],by decide⟩
theorem mM.put {a b lb i k:Nat}{os:List Int}{c o s:Nat}(h:mM a b lb i k os c)(hi:i<nl a)(hk:k<lb)(ho:os.getD (i+k) 0=(o:Int))(hs:s=(a/BB^i%BB)*(b/BB^k%BB)+o+c):
  mM a b lb i (k+1) (os.set (i+k) ((s%BB:Nat):Int)) (s/BB):=by
 have hl:i+k<os.length:=by rw[h.len];omega
 have hx:=bd (a/BB^i);have hy:=bd (b/BB^k);have UQ:o<BB:=by have:=h.inr.getD (i+k);rw[ho]at this;unfold BB;omega
 refine⟨hk,by rw[List.length_set];exact h.len,h.inr.set _ ⟨by omega,by have:=bd s;omega⟩,fun j hj=>?_,?_,?_⟩
 ·rw[getD_set_ne (by omega)];exact h.zero j hj
 ·have e:=dN (xs:=os) (x:=((s%BB:Nat):Int)) hl;rw[ho]at e;simp only[Q1]at e;have h1:=h.eq;have e2:BB^(i+(k+1))*(s/BB)+BB^(i+k)*(s%BB)=BB^(i+k)*s:=by
   rw[←Nat.add_assoc,O4,Nat.mul_assoc,←Nat.mul_add,Nat.div_add_mod]
  have e3:BB^(i+k)*s=BB^i*((a/BB^i%BB)*(BB^k*(b/BB^k%BB)))+BB^(i+k)*o+BB^(i+k)*c:=by
   rw[hs,Nat.mul_add,Nat.mul_add,Nat.pow_add]
   congr 2
   simp only[O6,Nat.mul_left_comm]
  rw[fg b k,Nat.mul_add,Nat.mul_add];omega
 have hp:(a/BB^i%BB)*(b/BB^k%BB)≤4294967295*4294967295:=Nat.mul_le_mul (by omega) (by omega);have h3:=h.c;rw[Nat.div_lt_iff_lt_mul (by decide)];unfold BB at*
 omega
theorem mM.next {a b lb i:Nat}{os:List Int}{c:Nat}(Tq:b<BB^lb)(h:mM a b lb i (lb) os c)(hi:i<nl a):iU a b lb (i+1) (os.set (i+lb) ((c%BB:Nat):Int)):=by
 have hl:i+lb<os.length:=by rw[h.len];omega
 have hc:c%BB=c:=O7 h.c;refine⟨hi,by rw[List.length_set];exact h.len,h.inr.set _ ⟨by omega,by have:=bd c;omega⟩,fun j hj=>?_,?_⟩
 ·rw[getD_set_ne (by omega)];exact h.zero j (by omega)
 have e:=dN (xs:=os) (x:=((c%BB:Nat):Int)) hl;rw[h.zero _ (O1 _),hc]at e;simp only[Q1,Int.toNat_zero,Nat.mul_zero,Nat.add_zero]at e;rw[hc,e,h.eq,O7 Tq,fg a,Nat.add_mul,Nat.mul_assoc]
theorem iU.done {a b lb:Nat}{os:List Int}(h:iU a b lb (nl a) os):val os=a*b:=by
 rw[h.eq,gS (O1 _)]
theorem pS (a b lb:Nat)(ha:nl a<2^44)(hb:lb<2^44)(Tq:b<BB^lb):Pr prog 188 [.one (.ints .u32 (ak a)),.one (.ints .u32 (ij lb b))] (.one (.ints .u32 (ak (a*b)))):=by
 refine pw func188 ⟨[0,1,4,5,6,7,8,18,24],[]⟩ ?_;simp only[Tryz.f188,ntmps188,iz,seval];simp only[vx,T,seval,aP,dB]
 simp(disch:=omega) only[lG,←X2,←Q2,Q1,Q4,Q5,aD,aK,true_and,and_true,yp Tq]
 refine⟨⟨by omega,by omega,by omega,by omega⟩,Lk (fun i:{i:Nat×List Int//iU a b lb i.1 i.2}=>⟨[(0,.one (.ints .u32 (ak a))),(1,.one (.ints .u32 (ij lb b))),(5,.one (.own 1 1 0 (nl a+lb))),(6,.one (.int .i64 i.1.1))],[(1,⟨.ints 161 .u32 i.1.2,true⟩)],3,67⟩) (fun i=>nl a-i.1.1) ⟨(0,List.replicate (nl a+lb) 0),iU.init a b lb⟩ ?_ (fun⟨⟨i,os⟩,hi⟩=>?_)⟩
 ·refine Sa ?_;simp only[ry,seval,rz,dB]
 have h1:=hi.le;have h2:=hi.len;simp only at h1 h2;simp only[vx,T,seval,aP,dB];refine⟨fun h=>Lg ?_,fun h=>Lg ?_⟩
 ·simp only[vx,T,seval,aP,dB];have hx:=bd (a/BB^i);refine Lk (fun k:{k:Nat×List Int×Nat//mM a b lb i k.1 k.2.1 k.2.2}=>⟨[(0,.one (.ints .u32 (ak a))),(1,.one (.ints .u32 (ij lb b))),(5,.one (.own 1 1 0 (nl a+lb))),(6,.one (.int .i64 i)),(7,.one (.int .u64 k.1.2.2)),(8,.one (.int .i64 k.1.1))],[(1,⟨.ints 161 .u32 k.1.2.1,true⟩)],3,67⟩) (fun k=>lb-k.1.1) ⟨(0,os,0),hi.start⟩ ?_ (fun⟨⟨k,os',c⟩,hk⟩=>?_)
  ·refine Sa ?_;simp only[ry,seval,rz,lG,dB]
  have h3:=hk.le;have h4:=hk.len;have h5:=hk.c;have h5:c<4294967296:=h5;have hz:=hk.inr.getD (i+k);simp only at h3 h4 hz;obtain⟨o,ho⟩:=Int.eq_ofNat_of_zero_le hz.1;rw[ho]at hz;simp only[vx,T,seval,aP,dB];refine⟨fun h'=>Lg ?_,fun h'=>Lg ?_⟩
  ·simp only[vx,T,seval,aP,dB];have hy:=bd (b/BB^k);have hp:(a/BB^i%BB)*(b/BB^k%BB)≤4294967295*4294967295:=Nat.mul_le_mul (by omega) (by omega)
   simp(disch:=omega) only[lG,←X2,←Q2,Q1,Q4,Q5,aD,aK,true_and,and_true,ho,yp Tq]
   refine⟨by omega,by omega,by omega,by omega,Lq ⟨(k+1,_,_),hk.put (s:=c+o+(a/BB^i%BB)*(b/BB^k%BB)) (by omega) (by omega) ho (by simp only;omega)⟩ ?_ ?_⟩
   ·refine Sa ?_;simp only[ry,seval,rz,dB]
   simp only;omega
  simp only[vx,T,seval,aP,dB];have YT:k=lb:=by omega
  subst YT
  simp(disch:=omega) only[lG,←X2,←Q2,Q1,Q4,Q5,aD,aK,true_and,and_true,yp Tq]
  refine⟨by omega,Lq ⟨(i+1,_),mM.next Tq hk (by omega)⟩ ?_ ?_⟩
  ·refine Sa ?_;simp only[ry,seval,rz,dB]
  simp only;omega
 simp only[vx,T,seval,aP,dB];have Uq:i=nl a:=by omega
 subst Uq;have hr:=hi.inr;have hv:=hi.done;simp only at hr hv;rw[List.take_of_length_le (by omega)];refine Cg (bL _ hr (by omega)) ?_;rw[hv];simp only[vx,T,seval,aP,dB];refine Va ?_;simp only[cY,a5,ry,seval]
open Go Go.Eng
theorem kV {xs:List Int}(h:bO xs)(off l:Nat):bO ((xs.drop off).take l):=(h.drop off).take l
theorem kH {xs:List Int}{off l i:Nat}(h:i<l):((xs.drop off).take l).getD i 0=xs.getD (off+i) 0:=by
 rw[X7,X7,List.getElem?_take,if_pos h,List.getElem?_drop]
theorem ig {xs:List Int}{off l:Nat}(h:off+l≤xs.length):((xs.drop off).take l).length=l:=by
 rw[X5,List.length_drop];omega
theorem xf {xs:List Int}{off l k:Nat}(h:k≤l):((xs.drop off).take l).take k=(xs.drop off).take k:=by
 rw[List.take_take,Nat.min_eq_left h]
theorem oP {xs:List Int}{off l:Nat}(hx:bO xs)(h:off+l≤xs.length):nl (val ((xs.drop off).take l))≤l∧(xs.drop off).take (nl (val ((xs.drop off).take l)))=ak (val ((xs.drop off).take l)):=by
 have hr:=kV hx off l;have hl:=ig h;have h1:nl (val ((xs.drop off).take l))≤l:=by
  refine aE ?_
  have:=kC hr
  rw[hl]at this;exact this
 refine⟨h1,?_⟩;have h2:=u5 hr (nl (val ((xs.drop off).take l)));rw[xf h1,O7 (cG _)]at h2;have h3:=qJ (kV hx off (nl (val ((xs.drop off).take l)))) (ig (by omega)) h2;rw[zx]at h3;exact h3
theorem nk (xs:List Int)(off len:Nat)(hx:bO xs)(hl:off+len≤xs.length)(hlen:xs.length<2^45):Mc prog 151 [.one (.own 0 1 off len)] (.ints 161 .u32 xs) (fun r B'=>r= .one (.own 0 1 off (nl (val ((xs.drop off).take len))))∧B'= .ints 161 .u32 xs):=by
 refine mw func151 ⟨[0,2,14],[]⟩ ?_;simp only[Tryz.f151,ntmps151,iz,seval];simp only[vx,T,seval];refine Lk (fun l:{l:Nat//l≤len∧val ((xs.drop off).take l)=val ((xs.drop off).take len)}=>⟨[(0,.one (.own 0 1 off l.1))],[(0,⟨.ints 161 .u32 xs,true⟩)],3,21⟩) (fun l=>l.1) ⟨len,O1 _,rfl⟩ ?_ (fun⟨l,Uh,SJ⟩=>?_)
 ·refine Sa ?_;simp only[ry,seval,rz]
 have hv:=oP (l:=len) hx hl;have aad:(l=0∨xs.getD (off+(l-1)) 0≠0)→nl (val ((xs.drop off).take len))=l:=by
  intro hc;rw[←SJ];have h1:ak (val ((xs.drop off).take l))=(xs.drop off).take l:=by
   refine cC (kV hx off l) ?_
   rcases hc with hc|hc
   ·subst hc;exact .inl (List.take_zero)
   rcases Nat.eq_zero_or_pos l with h0|h0
   ·subst h0;exact .inl (List.take_zero)
   refine .inr ?_;rw[ig (by omega),kH (by omega)];exact hc
  unfold nl;rw[h1,ig (by omega)]
 simp only[vx,T,seval];refine⟨fun h=>Lg ?_,fun h=>Lg ?_⟩
 ·simp only[vx,T,seval];have e1:IntKind.i64.wrap ((l:Int)-1)=((l-1:Nat):Int):=by rw[Q4 _ (by omega)];omega
  simp(disch:=omega) only[lG,←X2,←Q2,Q1,Q4,Q5,aD,aK,true_and,and_true,e1]
  refine⟨by omega,?_⟩;refine⟨fun h0=>Lg ?_,fun h0=>Lg ?_⟩
  ·simp only[vx,T,seval]
   simp(disch:=omega) only[lG,←X2,←Q2,Q1,Q4,Q5,aD,aK,true_and,and_true,e1]
   refine⟨by omega,Lq ⟨l-1,by omega,?_⟩ ?_ ?_⟩
   ·have e2:=uQ (ys:=(xs.drop off).take l) (kV hx off l) (by rw[ig (by omega)];omega) (by rw[ig (by omega),kH (by omega)];exact h0);rw[ig (by omega),xf (by omega)]at e2;rw[e2,SJ]
   ·refine Sa ?_;simp only[ry,seval,rz]
   simp only;omega
  simp only[vx,T,seval];rw[aad (.inr h0)]
 simp only[vx,T,seval];rw[aad (.inl (by omega))]
open Go Go.Eng
theorem yJ (xs:List Int)(off a b:Nat)(hx:bO xs)(hl:off+nl a≤xs.length)(hlen:xs.length<2^45)(hv:(xs.drop off).take (nl a)=ak a)(UD:b≤a)(ha:nl a<2^44):
  Mc prog 196 [.one (.own 0 1 off (nl a)),.one (.ints .u32 (ak b))] (.ints 161 .u32 xs) (fun r B'=>r= .one (.ints .u32 (ak (a-b)))∧B'= .ints 161 .u32 xs):=by
 have hba:=bh UD;have hg:∀i,i<nl a→xs.getD (off+i) 0=((a/BB^i%BB:Nat):Int):=fun i hi=>by rw[←lG,←hv,kH hi]
 refine mw func196 ⟨[0,1,4,5,6,7,8,9,16,22],[]⟩ ?_;simp only[Tryz.f196,ntmps196,iz,seval];simp only[vx,T,seval];refine⟨⟨by omega,by omega,by omega,by omega⟩,Lk (fun i:{i:Nat×List Int×Nat//g8 a b i.1 i.2.1 i.2.2}=>⟨[(0,.one (.own 0 1 off (nl a))),(1,.one (.ints .u32 (ak b))),(5,.one (.own 1 1 0 (nl a))),(6,.one (.int .u64 i.1.2.2)),(7,.one (.int .i64 i.1.1))],[(0,⟨.ints 161 .u32 xs,true⟩),(1,⟨.ints 161 .u32 i.1.2.1,true⟩)],3,48⟩) (fun i=>nl a-i.1.1) ⟨(0,List.replicate (nl a) 0,0),O2 _,bO.nil,by simp,by simp[val,Nat.mod_one],O2 _⟩ ?_ (fun⟨⟨i,os,c⟩,hi⟩=>?_)⟩
 ·refine Sa ?_;simp only[ry,seval,rz]
 have h1:=hi.le;have h2:=hi.len;have h3:=hi.c;simp only at h1 h2 h3;simp only[vx,T,seval];refine⟨fun h=>Lg ?_,fun h=>Lg ?_⟩
 ·simp only[vx,T,seval];have Xa:=bd (a/BB^i);have hy:=bd (b/BB^i);have e1:=Q5 (a/BB^i%BB:Nat) (by omega);have e2:=Q5 (b/BB^i%BB:Nat) (by omega);have UR:=hg i (by omega);refine⟨fun h'=>Lg ?_,fun h'=>Lg ?_⟩
  ·simp only[vx,T,seval];have hp:=hi.put (by omega);simp only[lG,UR,e1,e2,Aw Xa hy h3,An Xa hy h3,Q4 _ (show-9223372036854775808≤(i:Int)+1∧(i:Int)+1≤9223372036854775807 by omega)];refine⟨⟨by omega,by omega⟩,⟨by omega,by omega⟩,⟨by omega,by omega⟩,Lq ⟨(i+1,_,_),hp⟩ ?_ ?_⟩
   ·refine Sa ?_;simp only[ry,seval,rz]
   simp only;omega
  simp only[vx,T,seval];have XS:=jn (x:=b) (k:=i) (by omega);have hp:=hi.put (by omega);rw[XS]at hp;simp only[lG,UR,e1,e2,vL Xa h3,vQ Xa h3,Q4 _ (show-9223372036854775808≤(i:Int)+1∧(i:Int)+1≤9223372036854775807 by omega)];refine⟨⟨by omega,by omega⟩,⟨by omega,by omega⟩,Lq ⟨(i+1,_,_),hp⟩ ?_ ?_⟩
  ·refine Sa ?_;simp only[ry,seval,rz]
  simp only;omega
 simp only[vx,T,seval];have Uq:i=nl a:=by omega
 subst Uq;obtain⟨UP,hr⟩:=hi.last UD;simp only at UP hr;rw[List.take_of_length_le (by omega)];refine Cg (bL _ hr (by omega)) ?_;rw[UP];simp only[vx,T,seval]
theorem JF {U V n:Nat}(hn:nl V=n)(h0:0<V):U/V≤U/BB^(n-1)/(V/BB^(n-1)):=by
 have hp:0<BB^(n-1):=Nat.pow_pos (by decide);have hv:0<V/BB^(n-1):=Nat.div_pos (by rw[←hn];exact uz h0) hp;rw[Nat.le_div_iff_mul_le hv,Nat.le_div_iff_mul_le hp,Nat.mul_assoc];refine O0 (O9 _ ?_) (Nat.div_mul_le_self U V);rw[O6];exact Nat.mul_div_le _ _
theorem zy (xs:List Int)(off V:Nat)(hx:bO xs)(hV:0<V)(hl:off+(nl V+1)≤xs.length)(hlen:xs.length<2^43)(hU:val ((xs.drop off).take (nl V+1))<V*BB):
  Mc prog 195 [.one (.own 0 1 off (nl V+1)),.one (.ints .u32 (ak V))] (.ints 161 .u32 xs)
   (fun r B'=>r= .aB [.one (.int .u32 (val ((xs.drop off).take (nl V+1))/V:Nat)),.one (.ints .u32 (ak (V*(val ((xs.drop off).take (nl V+1))/V))))]∧B'= .ints 161 .u32 xs):=by
 obtain⟨U,XV⟩:∃U,U=val ((xs.drop off).take (nl V+1)):=⟨_,rfl⟩;have hnV:=eL.2 hV;have Vz:=nk xs off (nl V+1) hx hl (by omega);have U9:=oP (l:=nl V+1) hx hl;have hr:=kV hx off (nl V+1);have g1:xs.getD (off+nl V) 0=((U/BB^nl V%BB:Nat):Int):=by rw[XV,←dk hr,kH (by omega)]
 have g2:xs.getD (off+(nl V-1)) 0=((U/BB^(nl V-1)%BB:Nat):Int):=by rw[XV,←dk hr,kH (by omega)]
 have Zs:=kC hr;rw[ig hl]at Zs;rw[←XV]at Vz U9 hU Zs⊢;have XT:=kU hV;obtain⟨t1,t2⟩:=gP hV;have ed:U/BB^nl V*BB+U/BB^(nl V-1)%BB=U/BB^(nl V-1):=by
  have:=xy U (nl V-1)
  rw[show nl V-1+1=nl V by omega]at this;exact this
 have d1:U/BB^nl V<BB:=by
  rw[Nat.div_lt_iff_lt_mul (Nat.pow_pos (by decide)),O6,←O4];exact Zs
 have d2:U/BB^nl V%BB=U/BB^nl V:=O7 d1;have d3:=pE d1 (bd (U/BB^(nl V-1)));rw[ed]at d3;have hq0:=JF (U:=U) rfl hV;have hq1:U/V<BB:=by rw[Nat.div_lt_iff_lt_mul hV,O6];exact hU
 have Xc:U/BB^(nl V-1)<BB*BB:=by
  rw[←ed]
  have:=bd (U/BB^(nl V-1))
  generalize U/BB^nl V=p at*
  generalize U/BB^(nl V-1)%BB=q at*
  unfold BB at*
  omega
 obtain⟨tp,aae⟩:∃tp,tp=U/BB^(nl V-1):=⟨_,rfl⟩;obtain⟨hi,U7⟩:∃hi,hi=fy V:=⟨_,rfl⟩;have aaf:U/V≤tp/hi:=by rw[aae,U7];exact hq0
 rw[←aae]at d3 Xc g2;rw[←U7]at XT t1 t2;obtain⟨u1,XB⟩:∃u1,u1=U/BB^nl V:=⟨_,rfl⟩;rw[d2]at g1;rw[←XB]at g1 d1 d3;obtain⟨u0,hu0⟩:∃u0,u0=tp%BB:=⟨_,rfl⟩;have hu0l:u0<BB:=by rw[hu0];exact bd tp
 rw[←hu0]at g2 d3;have d4:IntKind.u64.wrap (u1:Int)=u1:=Q5 _ (by unfold BB at d1;omega);have d5:IntKind.u64.wrap (u0:Int)=u0:=Q5 _ (by unfold BB at hu0l;omega);have d6:IntKind.u64.wrap ((u1:Int)*4294967296)=(u1:Int)*4294967296:=Q5 _ (by unfold BB at d1;omega);have d7:IntKind.u64.wrap (hi:Int)=hi:=Q5 _ (by unfold BB at t2;omega);have d8:IntKind.u64.wrap ((tp:Int).tdiv hi)=((tp/hi:Nat):Int):=by
  have e3:(tp:Int).tdiv hi=((tp/hi:Nat):Int):=rfl
  have:=Nat.div_le_self tp hi
  generalize tp/hi=q at*
  rw[e3,Q5 _ (by unfold BB at Xc;omega)]
 have x1:IntKind.i64.wrap ((nl V:Int)-1)=((nl V-1:Nat):Int):=by rw[Q4 _ (by omega)];omega
 refine mw func195 ⟨[0,1,4,5,6,7,8,32,42],[]⟩ ?_;simp only[Tryz.f195,ntmps195,iz,seval];simp only[vx,T,seval]
 simp(disch:=omega) only[lG,←X2,←Q2,Q1,Q4,Q5,aD,aK,true_and,and_true,x1,g1,g2,XT,d4,d5,d6,d3,d7,d8]
 refine⟨⟨by omega,by omega⟩,⟨by omega,by omega⟩,⟨by omega,by omega⟩,by omega,?_⟩;refine⟨fun hq=>Lg ?_,fun hq=>Lg ?_⟩
 ·obtain⟨Q,hQ⟩:∃Q:Nat,(4294967295:Int)=Q:=⟨4294967295,rfl⟩;have hQ1:U/V≤Q:=by unfold BB at hq1;generalize U/V=q at*;omega
  have hQ2:Q<BB:=by unfold BB;omega
  simp only[vx,T,seval];simp only[hQ];simp only[aD];refine Cg (pS V Q 1 (by omega) (by decide) (by rw[Nat.pow_one];exact hQ2)) ?_;simp only[vx,T,seval];refine Lk (fun q:{q:Nat//U/V≤q∧q<BB}=>⟨[(0,.one (.own 0 1 off (nl V+1))),(1,.one (.ints .u32 (ak V))),(7,.one (.int .u64 q.1)),(8,.one (.ints .u32 (ak (V*q.1))))],[(0,⟨.ints 161 .u32 xs,true⟩)],3,51⟩) (fun q=>q.1) ⟨Q,hQ1,hQ2⟩ ?_ (fun⟨q,Vm,Us⟩=>?_)
  ·refine Sa ?_;simp only[ry,seval,rz]
  have Zu:nl (V*q)≤nl V+1:=by
   have h1:=jG V q;have h2:nl q≤1:=aE (by rw[Nat.pow_one];exact Us);omega
  simp only[vx,T,seval];refine Cm 0 rfl trivial Vz ?_;rintro r B' ⟨rfl,rfl⟩ _;simp only[vx,T,seval];rw[U9.2];refine Cg (fN U (V*q) (by omega) (by omega)) ?_;simp only[vx,T,seval];refine⟨fun hc=>Lg ?_,fun hc=>Lg ?_⟩
  ·have V7:=kN hc;have Xf:U/V<q:=by rw[Nat.div_lt_iff_lt_mul hV,O6];exact V7
   have XQ:V*(q-1)=V*q-V:=by rw[Nat.mul_sub,Nat.mul_one]
   have hc5:0<q:=Nat.lt_of_le_of_lt (O2 _) Xf;have hc6:V≤V*q:=Nat.le_mul_of_pos_right _ hc5;have hc7:=Nat.le_sub_one_of_lt Xf;have m1:IntKind.u64.wrap ((q:Int)-1)=((q-1:Nat):Int):=by rw[Q5 _ (by unfold BB at Us;omega)];omega
   simp only[vx,T,seval];simp only[m1];refine Cg (j5 (V*q) V hc6 (by omega)) ?_;rw[←XQ];simp only[vx,T,seval];refine Lq ⟨q-1,hc7,by omega⟩ ?_ ?_
   ·refine Sa ?_;simp only[ry,seval,rz]
   simp only;omega
  have V7:=ji hc;have Xf:q=U/V:=Nat.le_antisymm ((Nat.le_div_iff_mul_le hV).2 (by rw[O6];exact V7)) Vm;simp only[vx,T,seval];have m2:IntKind.u32.wrap (q:Int)=q:=IntWalk.u32_in _ (by unfold BB at Us;omega);rw[m2,Xf]
 obtain⟨Q,hQ⟩:∃Q:Nat,Q=tp/hi:=⟨_,rfl⟩;rw[←hQ]at hq aaf⊢;have hQ1:U/V≤Q:=aaf;have hQ2:Q<BB:=by unfold BB;omega
 simp only[vx,T,seval];simp only[aD];refine Cg (pS V Q 1 (by omega) (by decide) (by rw[Nat.pow_one];exact hQ2)) ?_;simp only[vx,T,seval];refine Lk (fun q:{q:Nat//U/V≤q∧q<BB}=>⟨[(0,.one (.own 0 1 off (nl V+1))),(1,.one (.ints .u32 (ak V))),(7,.one (.int .u64 q.1)),(8,.one (.ints .u32 (ak (V*q.1))))],[(0,⟨.ints 161 .u32 xs,true⟩)],3,51⟩) (fun q=>q.1) ⟨Q,hQ1,hQ2⟩ ?_ (fun⟨q,Vm,Us⟩=>?_)
 ·refine Sa ?_;simp only[ry,seval,rz]
 have Zu:nl (V*q)≤nl V+1:=by
  have h1:=jG V q;have h2:nl q≤1:=aE (by rw[Nat.pow_one];exact Us);omega
 simp only[vx,T,seval];refine Cm 0 rfl trivial Vz ?_;rintro r B' ⟨rfl,rfl⟩ _;simp only[vx,T,seval];rw[U9.2];refine Cg (fN U (V*q) (by omega) (by omega)) ?_;simp only[vx,T,seval];refine⟨fun hc=>Lg ?_,fun hc=>Lg ?_⟩
 ·have V7:=kN hc;have Xf:U/V<q:=by rw[Nat.div_lt_iff_lt_mul hV,O6];exact V7
  have XQ:V*(q-1)=V*q-V:=by rw[Nat.mul_sub,Nat.mul_one]
  have hc5:0<q:=Nat.lt_of_le_of_lt (O2 _) Xf;have hc6:V≤V*q:=Nat.le_mul_of_pos_right _ hc5;have hc7:=Nat.le_sub_one_of_lt Xf;have m1:IntKind.u64.wrap ((q:Int)-1)=((q-1:Nat):Int):=by rw[Q5 _ (by unfold BB at Us;omega)];omega
  simp only[vx,T,seval];simp only[m1];refine Cg (j5 (V*q) V hc6 (by omega)) ?_;rw[←XQ];simp only[vx,T,seval];refine Lq ⟨q-1,hc7,by omega⟩ ?_ ?_
  ·refine Sa ?_;simp only[ry,seval,rz]
  simp only;omega
 have V7:=ji hc;have Xf:q=U/V:=Nat.le_antisymm ((Nat.le_div_iff_mul_le hV).2 (by rw[O6];exact V7)) Vm;simp only[vx,T,seval];have m2:IntKind.u32.wrap (q:Int)=q:=IntWalk.u32_in _ (by unfold BB at Us;omega);rw[m2,Xf]
open Go Go.Eng
theorem pF (a b:Nat)(h0:0<b)(ha:nl a<2^42)(hb:nl b<2^42):Pr prog 152 [.one (.ints .u32 (ak a)),.one (.ints .u32 (ak b))] (.aB [.one (.ints .u32 (ak (a/b))),.one (.ints .u32 (ak (a%b)))]):=by
 have hnb:=eL.2 h0;refine pw func152 ⟨[0,1,4,5,6,7,8,9,10,11,12,13,14,15,16,17,18,19,23,27,42,77,105,114],[]⟩ ?_;simp only[Tryz.f152,ntmps152,iz,seval];simp only[vx,T,seval];refine Cg (fN a b (by omega) (by omega)) ?_;simp only[vx,T,seval];refine⟨fun h1=>Lg ?_,fun h1=>Lg ?_⟩
 ·simp only[vx,T,seval];have SI:a<b:=kN h1;refine Va ?_;simp only[cY,a5,ry,seval,Nat.div_eq_of_lt SI,O7 SI,br]
 have hle:b≤a:=ji h1;simp only[vx,T,seval];refine⟨fun h2=>Lg ?_,fun h2=>Lg ?_⟩
 ·simp only[vx,T,seval];have S9:a<2^64:=by have:=cL.1 (show nl a≤2 by omega);unfold BB at this;omega
  refine Cg (rT a S9) ?_;simp only[vx,T,seval];refine Cg (rT b (by omega)) ?_;simp only[vx,T,seval];refine⟨by omega,?_⟩;have e1:IntKind.u64.wrap ((a:Int).tdiv b)=((a/b:Nat):Int):=by
   have e3:(a:Int).tdiv b=((a/b:Nat):Int):=rfl
   have:=Nat.div_le_self a b
   generalize a/b=q at*
   rw[e3,Q5 _ (by omega)]
  have e2:(a:Int).tmod b=((a%b:Nat):Int):=rfl;simp only[e1,e2];refine Cg (ik (a/b) (Nat.lt_of_le_of_lt (Nat.div_le_self a b) S9)) ?_;simp only[vx,T,seval];refine⟨by omega,?_⟩;simp only[e2];refine Cg (ik (a%b) (Nat.lt_of_le_of_lt (Nat.mod_le a b) S9)) ?_;simp only[vx,T,seval];refine Va ?_;simp only[cY,a5,ry,seval]
 simp only[vx,T,seval];refine⟨fun h3=>Lg ?_,fun h3=>Lg ?_⟩
 ·have Xv:nl b=1:=by omega
  have Vs:b<BB:=by have:=cL.1 (show nl b≤1 by omega);simpa using this
  have hm1:=Nat.mod_lt a h0;have YP:IntKind.u64.wrap ((a%b:Nat):Int)=((a%b:Nat):Int):=by
   generalize a%b=m at*
   exact Q5 _ (by unfold BB at Vs;omega)
  simp only[vx,T,seval]
  simp(disch:=omega) only[lG,←X2,←Q2,Q1,Q4,Q5,aD,aK,true_and,and_true,Nat.pow_zero,Nat.div_one,O7 Vs]
  refine⟨by omega,Cg (HO a b (by omega) h0 Vs) ?_⟩;simp only[vx,T,seval];simp only[YP];refine Cg (ik (a%b) (by unfold BB at Vs;omega)) ?_;simp only[vx,T,seval];refine Va ?_;simp only[cY,a5,ry,seval]
 simp only[vx,T,seval];have ht:=kU h0;obtain⟨t1,t2⟩:=gP h0;obtain⟨s1,s2,s3⟩:=uZ h0;have s4:=Ib h0;refine Cg (px b h0 (by omega)) ?_;simp only[vx,T,seval];have VO:bl (fy b)≤32:=zu (by unfold BB at t2;omega);have e0:IntKind.i64.wrap (IntKind.i64.wrap (32*(nl b:Nat))-((32*(nl b-1)+bl (fy b):Nat):Int))=((jY b:Nat):Int):=by
  have e1:IntKind.i64.wrap (32*(nl b:Nat))=32*(nl b:Nat):=Q4 _ (by omega);rw[e1,Q4 _ (by omega)];unfold jY;omega
 simp only[e0];refine cN.fresh (oA a (jY b) (by omega) s1) ?_;simp only[vx,T,seval];refine cN.fresh (oA b (jY b) (by omega) s1) ?_;simp only[vx,T,seval,aP];have Yo:2*(a*2^jY b)<BB^(nl a+1):=by
  have h5:=cG a;have h6:2^jY b≤2^31:=O3 (by decide) (by omega);have h7:a*2^jY b≤a*2^31:=O9 _ h6;have h8:BB^(nl a+1)=BB^nl a*BB:=O4 _ _;have h9:a*(2*2^31)<BB^nl a*BB:=Nat.mul_lt_mul_of_lt_of_le h5 (by decide) (by decide);omega
 have hV2:val (ij (nl b+1) (b*2^jY b))=b*2^jY b:=jI (Nat.lt_of_lt_of_le s2 (O3 (by decide) (by omega)));rw[List.take_of_length_le (by rw[aP];exact O1 _)];refine Cg (bL _ (gn _ _) (by rw[aP];omega)) ?_;rw[hV2];have hN:Hl (b*2^jY b) (nl (b*2^jY b)):=⟨rfl,by omega,by rw[s4];exact s3⟩;obtain⟨A,hA⟩:∃A,A=a*2^jY b:=⟨_,rfl⟩;obtain⟨V,hV⟩:∃V,V=b*2^jY b:=⟨_,rfl⟩;have hmono:nl b≤nl a:=bh hle;rw[←hA]at Yo⊢;rw[←hV]at s4 hN⊢;have hVp:=hN.pos;clear hV2 s2 s3;simp only[vx,T,seval,aP];have e4:IntKind.i64.wrap ((nl a:Int)-(nl V:Nat))=((nl a+1-nl V:Nat):Int)-1:=by rw[Q4 _ (by omega)];omega
 simp(disch:=omega) only[lG,←X2,←Q2,Q1,Q4,Q5,aD,aK,true_and,and_true,e4]
 refine⟨⟨by omega,by omega,by omega,by omega⟩,Lk (fun y:{y:Nat×List Int×List Int//jv A V (nl a+1) y.1 y.2.1 y.2.2∧y.2.2.length=nl a}=>⟨[(10,.one (.int .i64 (jY b))),(11,.one (.own 1 1 0 (nl a+1))),(12,.one (.ints .u32 (ak V))),(13,.one (.own 2 1 0 (nl a))),(14,.one (.int .i64 ((y.1.1:Int)-1)))],[(1,⟨.ints 161 .u32 y.1.2.1,true⟩),(2,⟨.ints 161 .u32 y.1.2.2,true⟩)],3,128⟩) (fun y=>y.1.1) ⟨(nl a+1-nl V,_,List.replicate (nl a) 0),jv.init hN (by omega) Yo (by omega),by simp⟩ ?_ (fun⟨⟨j,us,qs⟩,hy,Vt⟩=>?_)⟩
 ·refine Sa ?_;simp only[ry,seval,rz];rfl
 simp only at hy Vt;have hul:=hy.ulen;have Tj:=hy.le;have Wz:=hy.uin;simp only[vx,T,seval];refine⟨fun h6=>Lg ?_,fun h6=>Lg ?_⟩
 ·obtain⟨i,rfl⟩:∃i,j=i+1:=⟨j-1,by omega⟩;have Vk:=hy.at;have Vl:val us<BB^(i+nl V+1):=by
   refine Nat.lt_of_lt_of_le Vk.lt ?_
   have:=O8 (BB^(i+1)) (Nat.le_of_lt Vk.cH.lt)
   rw[←Nat.pow_add,show nl V+(i+1)=i+nl V+1 by omega]at this;exact this
  have hUv:val ((us.drop i).take (nl V+1))=val us/BB^i:=by
   rw[u5 (Wz.drop i),ie Wz,O7];rw[Nat.div_lt_iff_lt_mul (Nat.pow_pos (by decide)),O6,←Nat.pow_add,←Nat.add_assoc];exact Vl
  have Zs:val us/BB^i<BB^(nl V+1):=by
   rw[Nat.div_lt_iff_lt_mul (Nat.pow_pos (by decide)),O6,←Nat.pow_add,←Nat.add_assoc];exact Vl
  have hdg:=zy us i V Wz hVp (by omega) (by omega) (by rw[hUv];exact Vk.U.1);have Vz:=nk us i (nl V+1) Wz (by omega) (by omega);have U9:=oP (off:=i) (l:=nl V+1) Wz (by omega);rw[hUv]at hdg Vz U9;have hq:=hy.q;have x0:((i+1:Nat):Int)-1=(i:Int):=by omega
  have x3:IntKind.i64.wrap ((i:Int)+(nl V:Nat))=((i+nl V:Nat):Int):=by rw[←X2,Q4 _ (by omega)]
  have p1:IntKind.i64.wrap (((i+nl V:Nat):Int)+1)=((i+nl V+1:Nat):Int):=by rw[Q4 _ (by omega)];omega
  have p2:(((i+nl V+1:Nat):Int)-(i:Int)).toNat=nl V+1:=by omega
  obtain⟨U,XV⟩:∃U,U=val us/BB^i:=⟨_,rfl⟩;rw[←XV]at hdg Vz U9 Zs hq;obtain⟨q,Xw⟩:∃q,q=U/V:=⟨_,rfl⟩;rw[←Xw]at hdg hq;rw[x0];simp only[vx,T,seval]
  simp(disch:=omega) only[lG,←X2,←Q2,Q1,Q4,Q5,aD,aK,true_and,and_true,x3,p1,p2]
  refine⟨⟨by omega,by omega,by omega⟩,Cm 1 rfl trivial hdg ?_⟩;rintro r B' ⟨rfl,rfl⟩ _;simp only[vx,T,seval];refine⟨by omega,Cm 1 rfl trivial Vz ?_⟩;rintro r B' ⟨rfl,rfl⟩ _;simp only[vx,T,seval];have hqV:V*q≤U:=by rw[Xw,O6];exact Nat.div_mul_le_self U V
  refine Cm 1 rfl trivial (yJ us i U (V*q) Wz (by omega) (by omega) U9.2 hqV (by omega)) ?_;rintro r B' ⟨rfl,rfl⟩ _;simp only[vx,T,seval];obtain⟨D,hD⟩:∃D,D=U-V*q:=⟨_,rfl⟩;rw[←hD];have hDl:D<BB^(nl V+1):=by omega
  have hDn:nl D≤nl V+1:=aE hDl;have hUg:∀k,k<nl V+1→us.getD (i+k) 0=((U/BB^k%BB:Nat):Int):=fun k hk=>by
   rw[XV,←hUv,←dk (kV Wz i (nl V+1)),kH hk]
  refine Lk (fun z:{z:Nat×List Int//qf us i U D (nl V+1) z.1 z.2}=>⟨[(10,.one (.int .i64 (jY b))),(11,.one (.own 1 1 0 (nl a+1))),(12,.one (.ints .u32 (ak V))),(13,.one (.own 2 1 0 (nl a))),(14,.one (.int .i64 i)),(15,.one (.own 1 1 i (nl V+1))),(18,.one (.ints .u32 (ak D))),(19,.one (.int .i64 z.1.1))],[(1,⟨.ints 161 .u32 z.1.2,true⟩),(2,⟨.ints 161 .u32 (qs.set i (q:Int)),true⟩)],3,128⟩) (fun z=>nl V+1-z.1.1) ⟨(0,us),qf.init i U D (nl V+1) Wz⟩ ?_ (fun⟨⟨k,zs⟩,hz⟩=>?_)
  ·refine Sa ?_;simp only[ry,seval,rz]
  simp only at hz;have TW:=hz.len;have hzk:=hz.le;simp only[vx,T,seval];refine⟨fun hk=>Lg ?_,fun hk=>Lg ?_⟩
  ·simp only[vx,T,seval];have Zv:k<nl V+1:=by omega
   have hdk:=bd (D/BB^k);have k1:=wI k (by omega);refine⟨⟨by omega,by omega⟩,fun h'=>Lg ?_,fun h'=>Lg ?_⟩
   ·simp only[vx,T,seval];simp only[List.set_set,k1,lG];refine⟨⟨by omega,by omega⟩,by omega,Lq ⟨(k+1,zs.set (i+k) ((D/BB^k%BB:Nat):Int)),hz.put Zv (by omega) (hUg k Zv) rfl⟩ ?_ ?_⟩
    ·refine Sa ?_;simp only[ry,seval,rz]
    simp only;omega
   simp only[vx,T,seval];simp only[k1];refine Lq ⟨(k+1,zs.set (i+k) 0),hz.put Zv (by omega) (hUg k Zv) (jn (x:=D) (k:=k) (by omega))⟩ ?_ ?_
   ·refine Sa ?_;simp only[ry,seval,rz]
   simp only;omega
  have Zv:k=nl V+1:=by omega
  subst Zv;have Vu:=hz.done Zs hDl;have i1:IntKind.i64.wrap ((i:Int)-1)=(i:Int)-1:=by rw[Q4 _ (by omega)]
  have hUle:BB^i*U≤val us:=by rw[XV];exact Nat.mul_div_le _ _
  have S1:val zs=val us-BB^i*(val us/BB^i/V*V):=by
   rw[←XV,←Xw,O6 q V];have h1:BB^i*U=BB^i*D+BB^i*(V*q):=by rw[←Nat.mul_add];congr 1;omega
   omega
  have aag:=hy.step TW hz.inr S1;rw[←XV,←Xw]at aag;simp only[vx,T,seval];simp only[i1];refine Lq ⟨(i,zs,_),aag,by simp only[List.length_set];exact Vt⟩ ?_ ?_
  ·refine Sa ?_;simp only[ry,seval,rz]
  simp only;omega
 have YU:j=0:=by omega
 subst YU;subst hA hV;obtain⟨q1,q2,q3⟩:=hy.done h0;have hqi:=hy.qin;clear hy;simp only[vx,T,seval];rw[List.take_of_length_le (by omega)];refine Cg (bL qs hqi (by omega)) ?_;rw[q1];simp only[vx,T,seval];rw[List.take_of_length_le (by omega)];refine Cg (bL us Wz (by omega)) ?_;rw[q2];have q4:nl (a%b*2^jY b)≤nl b:=by rw[←q2,←s4];exact aE q3
 simp only[vx,T,seval];refine Cg (Br (a%b*2^jY b) (jY b) (by omega) s1) ?_;rw[Nat.mul_div_cancel _ (Nat.pow_pos (by decide))];simp only[vx,T,seval];refine Va ?_;simp only[cY,a5,ry,seval]
end Go.Proofs.YtehahgjkjfoebaaGreat
namespace Go.Eng
def zs (z:Int):Bool:=decide (z<0)
def zm (z:Int):List Int:=ak z.natAbs
def zn (z:Int):Nat:=nl z.natAbs
def fL (s:Bool)(n:Nat):Int:=if s then-(n:Int)else n
theorem CI (s:Bool)(n:Nat):zs (fL s n)=(s&&decide (0<n)):=by
 unfold zs fL
 cases s
 ·simp
 simp only[if_true,Bool.true_and];congr 1;simp only[eq_iff_iff];omega
theorem jE (s:Bool)(n:Nat):(fL s n).natAbs=n:=by unfold fL;split<;>omega
theorem C4 (s:Bool)(n:Nat):zm (fL s n)=ak n:=by unfold zm;rw[jE]
theorem cB (z:Int):fL (zs z) z.natAbs=z:=by unfold fL zs;simp only[decide_eq_true_eq];split<;>omega
theorem lH (z:Int):val (zm z)=z.natAbs:=gE _
theorem qP (z:Int):bO (zm z):=bO.ak _
theorem aX (z:Int):(zm z).length=zn z:=rfl
theorem dY {z:Int}:zn z=0↔z=0:=by unfold zn;rw[fW];omega
theorem KL:zm 0=[]:=br
theorem lR {z:Int}:zs z=true↔z<0:=by unfold zs;simp
theorem dE {z:Int}:zs z=false↔0≤z:=by unfold zs;simp
theorem add_same {a b:Int}(h:zs a=zs b):fL (zs a) (a.natAbs+b.natAbs)=a+b:=by
 unfold fL zs at*
 have h:a<0↔b<0:=by simpa using h
 simp only[decide_eq_true_eq]
 split<;>omega
theorem A0 {a b:Int}(h:zs a≠zs b)(hl:a.natAbs≤b.natAbs):fL (zs b) (b.natAbs-a.natAbs)=a+b:=by
 unfold fL zs at*
 have h:¬(a<0↔b<0):=by simpa using h
 simp only[decide_eq_true_eq]
 split<;>omega
theorem Av {a b:Int}(h:zs a≠zs b)(hl:b.natAbs≤a.natAbs):fL (zs a) (a.natAbs-b.natAbs)=a+b:=by
 unfold fL zs at*
 have h:¬(a<0↔b<0):=by simpa using h
 simp only[decide_eq_true_eq]
 split<;>omega
theorem EB (s t:Bool)(m n:Nat):fL (s !=t) (m*n)=fL s m*fL t n:=by
 cases s<;>cases t<;>simp [fL,Int.neg_mul,Int.mul_neg]
theorem zF (a b:Int):fL (zs a !=zs b) (a.natAbs*b.natAbs)=a*b:=by
 rw[EB,cB,cB]
theorem zk (a:Int):fL (!zs a) a.natAbs= -a:=by
 unfold fL zs;simp only[Bool.not_eq_true',decide_eq_false_iff_not]
 split<;>omega
theorem kg {a b q r:Int}(h:a=b*q+r)(hr:(0≤r∧r<b)∨(b<r∧r≤0)):a.fdiv b=q∧a.fmod b=r:=by
 have hb:b≠0:=by omega
 have e:b*(a.fdiv b)+a.fmod b=a:=Int.mul_fdiv_add_fmod a b;have hm:(0<b→0≤a.fmod b∧a.fmod b<b)∧(b<0→b<a.fmod b∧a.fmod b≤0):=by
  refine⟨fun hp=>⟨Int.fmod_nonneg_of_pos a hp,Int.fmod_lt_of_pos a hp⟩,fun hn=>?_⟩;have h1:a.fmod b= -((-a).fmod (-b)):=by rw[Int.neg_fmod_neg];omega
  have h2:=Int.fmod_nonneg_of_pos (-a) (show 0< -b by omega);have h3:=Int.fmod_lt_of_pos (-a) (show 0< -b by omega);omega
 have hq:a.fdiv b=q:=by
  generalize a.fdiv b=q' at*
  generalize a.fmod b=r' at*
  have e2:b*(q-q')=r'-r:=by rw[Int.mul_sub];omega
  rcases Int.lt_or_lt_of_ne hb with Vs|Vs
  ·have:=hm.2 Vs
   rcases Int.lt_trichotomy (q-q') 0 with h3|h3|h3
   ·have:b*(q-q')≥b*(-1):=Int.mul_le_mul_of_nonpos_left (by omega) (by omega)
    omega
   ·omega
   have:b*(q-q')≤b*1:=Int.mul_le_mul_of_nonpos_left (by omega) (by omega)
   omega
  have:=hm.1 Vs
  rcases Int.lt_trichotomy (q-q') 0 with h3|h3|h3
  ·have:b*(q-q')≤b*(-1):=Int.mul_le_mul_of_nonneg_left (by omega) (by omega)
   omega
  ·omega
  have:b*1≤b*(q-q'):=Int.mul_le_mul_of_nonneg_left (by omega) (by omega)
  omega
 exact⟨hq,by rw[hq]at e;omega⟩
theorem pX {a b:Int}(hb:b≠0)(h:zs a=zs b∨a.natAbs%b.natAbs=0):fL (zs a !=zs b) (a.natAbs/b.natAbs)=a.fdiv b∧fL (zs b) (a.natAbs%b.natAbs)=a.fmod b:=by
 have e:=Nat.div_add_mod a.natAbs b.natAbs;have l:=Nat.mod_lt a.natAbs (show 0<b.natAbs by omega);have ha:=cB a;have Tq:=cB b;have key:=kg (a:=a) (b:=b) (q:=fL (zs a !=zs b) (a.natAbs/b.natAbs)) (r:=fL (zs b) (a.natAbs%b.natAbs)) ?_ ?_
 ·exact⟨key.1.symm,key.2.symm⟩
 ·have e':(a.natAbs:Int)=b.natAbs*(a.natAbs/b.natAbs:Nat)+(a.natAbs%b.natAbs:Nat):=by rw[←Q2,←X2,e]
  have Ui:zs a≠zs b→((a.natAbs%b.natAbs:Nat):Int)=0:=fun SW=>by rcases h with h|h;exact absurd h SW;simp[h]
  have e2:b*fL (zs a !=zs b) (a.natAbs/b.natAbs)=fL (zs b) b.natAbs*fL (zs a !=zs b) (a.natAbs/b.natAbs):=by rw[Tq]
  rw[e2];refine ha.symm.trans ?_
  generalize a.natAbs/b.natAbs=q at*
  generalize a.natAbs%b.natAbs=r at*
  generalize a.natAbs=m at*
  generalize b.natAbs=n at*
  generalize zs a=sa at*
  generalize zs b=sb at*
  cases sa<;>cases sb<;>simp [fL]at Ui⊢
  ·omega
  ·subst Ui;rw[Int.neg_mul_neg];simp at e'⊢;omega
  ·subst Ui;simp at e'⊢;rw[Int.mul_neg];omega
  rw[Int.neg_mul];omega
 cases hsb:zs b
 ·left
  have:=dE.1 hsb
  simp only[fL,Bool.false_eq_true,if_false];omega
 right
 have:=lR.1 hsb
 simp only[fL,if_true];omega
theorem FG {a b:Int}(hb:b≠0)(h:zs a≠zs b)(hr:0<a.natAbs%b.natAbs):fL (zs a !=zs b) (a.natAbs/b.natAbs+1)=a.fdiv b∧fL (zs b) (b.natAbs-a.natAbs%b.natAbs)=a.fmod b:=by
 have e:=Nat.div_add_mod a.natAbs b.natAbs;have l:=Nat.mod_lt a.natAbs (show 0<b.natAbs by omega);have ha:=cB a;have Tq:=cB b;have key:=kg (a:=a) (b:=b) (q:=fL (zs a !=zs b) (a.natAbs/b.natAbs+1)) (r:=fL (zs b) (b.natAbs-a.natAbs%b.natAbs)) ?_ ?_
 ·exact⟨key.1.symm,key.2.symm⟩
 ·have e':(a.natAbs:Int)=b.natAbs*(a.natAbs/b.natAbs:Nat)+(a.natAbs%b.natAbs:Nat):=by rw[←Q2,←X2,e]
  have e3:b*fL (zs a !=zs b) (a.natAbs/b.natAbs+1)=fL (zs b) b.natAbs*fL (zs a !=zs b) (a.natAbs/b.natAbs+1):=by rw[Tq]
  have e2:((b.natAbs-a.natAbs%b.natAbs:Nat):Int)=b.natAbs-(a.natAbs%b.natAbs:Nat):=by omega
  rw[e3];refine ha.symm.trans ?_
  generalize a.natAbs/b.natAbs=q at*
  generalize a.natAbs%b.natAbs=r at*
  generalize a.natAbs=m at*
  generalize b.natAbs=n at*
  generalize zs a=sa at*
  generalize zs b=sb at*
  cases sa<;>cases sb<;>simp [fL]at h⊢
  ·rw[e2,Int.neg_add,Int.mul_add,Int.neg_mul_neg];omega
  rw[e2,Int.neg_add,Int.mul_add,Int.mul_neg];omega
 cases hsb:zs b
 ·left
  have:=dE.1 hsb
  simp only[fL,Bool.false_eq_true,if_false];omega
 right
 have:=lR.1 hsb
 simp only[fL,if_true];omega
end Go.Eng
namespace Go.Eng
def bQ (z:Int):Int:=if z=0 then 0 else if z<0 then-1 else 1
theorem cZ (a b:Int):zn (a*b)≤zn a+zn b:=by unfold zn;rw[Int.natAbs_mul];exact jG _ _
theorem Im (a:Int):zn (-a)=zn a:=by unfold zn;rw[Int.natAbs_neg]
theorem pa (a b:Int):zn (a+b)≤max (zn a) (zn b)+1:=
 O0 (bh (Int.natAbs_add_le a b)) (uc _ _)
theorem BH (s:Bool)(n:Nat):zn (fL s n)=nl n:=by unfold zn;rw[jE]
theorem sh {a b:Int}(h:a.natAbs≤b.natAbs):zn a≤zn b:=bh h
theorem vA (x y:Int): -1≤bQ x*bQ y∧bQ x*bQ y≤1:=by
 unfold bQ
 (repeat' split)<;>simp
theorem zU {x y:Int}:bQ x*bQ y<0↔(x<0∧0<y)∨(0<x∧y<0):=by
 unfold bQ
 (repeat' split)<;>simp<;>omega
theorem Ez (a b:Int):a-fL (zs a !=zs b) (a.natAbs/b.natAbs)*b=fL (zs a) (a.natAbs%b.natAbs):=by
 have e1:fL (zs a !=zs b) (a.natAbs/b.natAbs)*b=fL (zs a) (a.natAbs/b.natAbs*b.natAbs):=by
  have:=EB (zs a !=zs b) (zs b) (a.natAbs/b.natAbs) b.natAbs
  rw[cB b]at this;rw[←this]
  congr 1
  cases zs a<;>cases zs b<;>rfl
 rw[e1];have h:=Nat.div_add_mod a.natAbs b.natAbs;rw[O6]at h
 generalize a.natAbs/b.natAbs*b.natAbs=p at h⊢
 generalize a.natAbs%b.natAbs=r at h⊢
 unfold fL zs;simp only[decide_eq_true_eq]
 split<;>omega
theorem Cz {a b q r:Int}(h0:b≠0)(hq:q=fL (zs a !=zs b) (a.natAbs/b.natAbs))(hr:r=a-q*b):
  (bQ r*bQ b<0→q-1=a.fdiv b∧r+b=a.fmod b)∧(¬bQ r*bQ b<0→q=a.fdiv b∧r=a.fmod b):=by
 have hl:r.natAbs<b.natAbs:=by
  rw[hr,hq,Ez,jE];exact Nat.mod_lt _ (by omega)
 rw[zU];refine⟨fun h=>?_,fun h=>?_⟩
 ·have:=kg (a:=a) (b:=b) (q:=q-1) (r:=r+b) (by rw[Int.mul_sub,hr,Int.mul_comm b q];omega) (by omega)
  exact⟨this.1.symm,this.2.symm⟩
 have:=kg (a:=a) (b:=b) (q:=q) (r:=r) (by rw[hr,Int.mul_comm b q];omega) (by omega)
 exact⟨this.1.symm,this.2.symm⟩
end Go.Eng
namespace Go.Proofs.YtehahgjkjfoebaaGreat
open Go.Proofs.Tryz
open Go Go.Eng
def ZV (z:Int):V:=.agg [.bool (zs z),.ints .u32 (zm z)]
theorem b5 (b:Bool)(n:Nat)(hn:nl n<2^60):Pr prog 205 [.one (.bool b),.one (.ints .u32 (ak n))] (ZV (fL b n)):=by
 have h:=yE b (ak n) (bO.ak n) (by rw[eC];omega);rw[gE]at h;unfold ZV;rw[CI,C4];exact h
theorem fX (z:Int)(hz:zn z<2^60):Pr prog 204 [.one (.ints .u32 (zm z))] (.one (.ints .u32 (ak z.natAbs))):=by
 have h:=du (zm z) (qP z) (by rw[aX];omega);rw[lH]at h;exact h
theorem yr (n:Nat)(hn:nl n<2^44):Pr prog 218 [.one (.ints .u32 (ak n))] (.one (.ints .u32 (ak n))):=j0 _ (by rw[eC];exact hn)
theorem gO (z:Int)(h1: -9223372036854775808≤z)(h2:z≤9223372036854775807):Pr prog 170 [.one (.int .i64 z)] (ZV z):=by
 have hu:z.natAbs<2^64:=by omega
 have e0:fL (decide (z<0)) z.natAbs=z:=cB z;have hn:=aE (n:=z.natAbs) (k:=2) (by unfold BB;omega);refine pw func170 ⟨[0,2,3,7],[]⟩ ?_;simp only[Tryz.f170,ntmps170,iz,seval];simp only[vx,T,seval,ZV];refine⟨fun h=>Lg ?_,fun h=>Lg ?_⟩
 ·have e1:IntKind.u64.wrap (0-IntKind.u64.wrap z)=(z.natAbs:Int):=by rw[aV,aV];omega
  simp only[vx,T,seval,ZV];simp only[e1];refine Cg (dr z.natAbs hu) ?_;simp only[vx,T,seval,ZV];refine Cg (b5 _ z.natAbs (by omega)) ?_;rw[e0];simp only[vx,T,seval,ZV];refine Va ?_;simp only[cY,a5,ry,seval,ZV]
 have e1:IntKind.u64.wrap z=(z.natAbs:Int):=by rw[aV];omega
 simp only[vx,T,seval,ZV];simp only[e1];refine Cg (dr z.natAbs hu) ?_;simp only[vx,T,seval,ZV];refine Cg (b5 _ z.natAbs (by omega)) ?_;rw[e0];simp only[vx,T,seval,ZV];refine Va ?_;simp only[cY,a5,ry,seval,ZV]
theorem wP (a:Int)(ha:zn a<2^42):Pr prog 224 [ZV a] (ZV (-a)):=by
 refine pw func224 ⟨[0,1,2],[]⟩ ?_;simp only[Tryz.f224,ntmps224,iz,seval];simp only[vx,T,seval,ZV];refine Cg (fX a (by omega)) ?_;simp only[vx,T,seval,ZV];refine Cg (yr a.natAbs (by unfold zn at ha;omega)) ?_;simp only[vx,T,seval,ZV];refine Cg (b5 _ a.natAbs (by unfold zn at ha;omega)) ?_;rw[zk];simp only[vx,T,seval,ZV];refine Va ?_;simp only[cY,a5,ry,seval,ZV]
theorem bT (a b:Int)(ha:zn a<2^42)(hb:zn b<2^42):Pr prog 164 [ZV a,ZV b] (ZV (a*b)):=by
 have hm:=jG a.natAbs b.natAbs;unfold zn at ha hb;refine pw func164 ⟨[0,1,2,3,4],[]⟩ ?_;simp only[Tryz.f164,ntmps164,iz,seval];simp only[vx,T,seval,ZV];refine Cg (fX a (by unfold zn;omega)) ?_;simp only[vx,T,seval,ZV];refine Cg (fX b (by unfold zn;omega)) ?_;simp only[vx,T,seval,ZV];refine Cg (Ag a.natAbs b.natAbs (by omega) (by omega)) ?_;simp only[vx,T,seval,ZV];refine Cg (b5 _ (a.natAbs*b.natAbs) (by omega)) ?_;rw[zF];simp only[vx,T,seval,ZV];refine Va ?_;simp only[cY,a5,ry,seval,ZV]
theorem qZ (a b:Int)(ha:zn a<2^42)(hb:zn b<2^42):Pr prog 237 [ZV a,ZV b] (ZV (a+b)):=by
 have hm:=uc a.natAbs b.natAbs;unfold zn at ha hb;refine pw func237 ⟨[0,1,2,3,4,5,6,17,27],[]⟩ ?_;simp only[Tryz.f237,ntmps237,iz,seval];simp only[vx,T,seval,ZV];refine Cg (fX a (by unfold zn;omega)) ?_;simp only[vx,T,seval,ZV];refine Cg (fX b (by unfold zn;omega)) ?_;simp only[vx,T,seval,ZV,beq_iff_eq];refine⟨fun h=>Lg ?_,fun h=>Lg ?_⟩
 ·simp only[vx,T,seval,ZV];refine Cg (pb a.natAbs b.natAbs (by omega) (by omega)) ?_;simp only[vx,T,seval,ZV];refine Cg (b5 _ (a.natAbs+b.natAbs) (by omega)) ?_;rw[add_same h];simp only[vx,T,seval,ZV];refine Va ?_;simp only[cY,a5,ry,seval,ZV]
 have h:=beq_eq_false_iff_ne.1 h;simp only[vx,T,seval,ZV];refine Cg (gV a.natAbs b.natAbs (by omega) (by omega)) ?_;simp only[vx,T,seval,ZV];refine⟨fun h2=>Lg ?_,fun h2=>Lg ?_⟩
 ·have h3:=kN h2;simp only[vx,T,seval,ZV];refine Cg (nm b.natAbs a.natAbs (by omega) (by omega)) ?_;simp only[vx,T,seval,ZV];refine Cg (b5 _ (b.natAbs-a.natAbs) (Nat.lt_of_le_of_lt (bh (Nat.sub_le _ _)) (by omega))) ?_;rw[A0 h (by omega)];simp only[vx,T,seval,ZV];refine Va ?_;simp only[cY,a5,ry,seval,ZV]
 have h3:=ji h2;simp only[vx,T,seval,ZV];refine Cg (nm a.natAbs b.natAbs (by omega) (by omega)) ?_;simp only[vx,T,seval,ZV];refine Cg (b5 _ (a.natAbs-b.natAbs) (Nat.lt_of_le_of_lt (bh (Nat.sub_le _ _)) (by omega))) ?_;rw[Av h h3];simp only[vx,T,seval,ZV];refine Va ?_;simp only[cY,a5,ry,seval,ZV]
theorem fZ (a:Int)(ha:zn a<2^42):Pr prog 201 [ZV a] (.one (.int .i64 (bQ a))):=by
 refine pw func201 ⟨[0,1,2,3,9],[]⟩ ?_;simp only[Tryz.f201,ntmps201,iz,seval];simp only[vx,T,seval,ZV];refine Cg (fX a (by omega)) ?_;simp only[vx,T,seval,ZV];refine⟨fun h=>Lg ?_,fun h=>Lg ?_⟩
 ·have h0:a=0:=by have:=fW (n:=a.natAbs);omega
  simp only[vx,T,seval,ZV];subst h0;exact Ve rfl
 have h0:a≠0:=by rintro rfl;exact h (by simp[jf])
 simp only[vx,T,seval,ZV];refine⟨fun h2=>Lg ?_,fun h2=>Lg ?_⟩
 ·simp only[vx,T,seval,ZV];refine Ve ?_;unfold bQ;rw[if_neg h0,if_pos (lR.1 h2)]
 simp only[vx,T,seval,ZV];refine Ve ?_
 have:=dE.1 h2
 unfold bQ;rw[if_neg h0,if_neg (by omega)]
open Go Go.Eng
theorem nL {a b:Nat}(hb:0<b):nl (a%b)≤nl b:=bh (Nat.le_of_lt (Nat.mod_lt a hb))
theorem rP (a b:Int)(ha:zn a<2^42)(hb:zn b<2^42):Pr prog 232 [ZV a,ZV b] (ZV (Int.gcd a b)):=by
 have hg:Int.gcd a b=Nat.gcd a.natAbs b.natAbs:=rfl;unfold zn at ha hb;refine pw func232 ⟨[0,1,2,3,4,5,6,8,9,10,29,40,49],[(9,(.cons 4 [2,3] (.cons 5 [] .nil .nil) .nil))]⟩ ?_;simp only[Tryz.f232,ntmps232,iz,seval];simp only[vx,T,seval,ZV];refine Cg (fX a (by unfold zn;omega)) ?_;simp only[vx,T,seval,ZV];refine Cg (fX b (by unfold zn;omega)) ?_;simp only[vx,T,seval,ZV];refine Lk (fun y:{y:Nat×Nat//Nat.gcd y.1 y.2=Nat.gcd a.natAbs b.natAbs∧nl y.1<2^42∧nl y.2<2^42}=>⟨[(4,.one (.ptr 3 0)),(5,.one (.ints .u32 (ak y.1.1))),(6,.one (.ints .u32 (ak y.1.2)))],[(3,⟨.var [.bool false,.nil],true⟩)],4,57⟩) (fun y=>y.1.2) ⟨(a.natAbs,b.natAbs),rfl,ha,hb⟩ ?_ (fun⟨⟨u,v⟩,e,hu,hv⟩=>?_)
 ·refine Sa ?_;simp only[ry,seval,rz]
 simp only at e hu hv;simp only[vx,T,seval,ZV];refine⟨fun h1=>Lg ?_,fun h1=>Lg ?_⟩
 ·simp only[vx,T,seval,ZV];have TK:0<v:=by
   rcases Nat.eq_zero_or_pos v with h|h
   ·subst h;rw[jf]at*
    omega
   exact h
  refine Cg (je u v TK (by omega) (by omega)) ?_;simp only[vx,T,seval,ZV];refine Lq ⟨(v,u%v),by rw[←e,Nat.gcd_comm u v,Nat.gcd_rec v u,Nat.gcd_comm],hv,Nat.lt_of_le_of_lt (nL TK) hv⟩ ?_ ?_
  ·refine Sa ?_;simp only[ry,seval,rz,ZV]
  exact Nat.mod_lt _ TK
 simp only[vx,T,seval,ZV];refine⟨fun h2=>Lg ?_,fun h2=>Lg ?_⟩
 ·simp only[vx,T,seval,ZV];refine⟨fun h3=>Lg ?_,fun h3=>Lg ?_⟩
  ·simp only[vx,T,seval,ZV];have TK:0<v:=by
    rcases Nat.eq_zero_or_pos v with h|h
    ·subst h;rw[jf]at*
     omega
    exact h
   refine Cg (je u v TK (by omega) (by omega)) ?_;simp only[vx,T,seval,ZV];refine Lq ⟨(v,u%v),by rw[←e,Nat.gcd_comm u v,Nat.gcd_rec v u,Nat.gcd_comm],hv,Nat.lt_of_le_of_lt (nL TK) hv⟩ ?_ ?_
   ·refine Sa ?_;simp only[ry,seval,rz,ZV]
   exact Nat.mod_lt _ TK
  simp only[vx,T,seval,ZV];refine⟨fun h0=>Lg ?_,fun h0=>Lg ?_⟩
  ·have TK:v=0:=fW.1 (by omega);subst TK;rw[Nat.gcd_zero_right]at e;simp only[vx,T,seval,ZV];refine Cg (yr u (by omega)) ?_;simp only[vx,T,seval,ZV];refine Cg (b5 false u (by omega)) ?_;have e2:fL false u=((Int.gcd a b:Nat):Int):=by rw[hg,←e];rfl
   rw[e2];simp only[vx,T,seval,ZV];refine Va ?_;simp only[cY,a5,ry,seval,ZV]
  have TU:u<2^64:=by have:=cL.1 (show nl u≤2 by omega);unfold BB at this;omega
  have UP:v<2^64:=by have:=cL.1 (show nl v≤2 by omega);unfold BB at this;omega
  simp only[vx,T,seval,ZV];refine Cg (fB u TU) ?_;simp only[vx,T,seval,ZV];refine Cg (fB v UP) ?_;simp only[vx,T,seval,ZV];refine Lk (fun y:{y:Nat×Nat//Nat.gcd y.1 y.2=Nat.gcd a.natAbs b.natAbs∧y.1<2^64∧y.2<2^64}=>⟨[(4,.one (.ptr 3 0)),(9,.one (.int .u64 y.1.1)),(10,.one (.int .u64 y.1.2))],[(3,⟨.var [.bool false,.nil],true⟩)],4,57⟩) (fun y=>y.1.2) ⟨(u,v),e,TU,UP⟩ ?_ (fun⟨⟨u,v⟩,e,hu,hv⟩=>?_)
  ·refine Sa ?_;simp only[ry,seval,rz]
  simp only at e hu hv;simp only[vx,T,seval,ZV];refine⟨fun h5=>Lg ?_,fun h5=>Lg ?_⟩
  ·simp only[vx,T,seval,ZV];have e2:(u:Int).tmod v=((u%v:Nat):Int):=rfl;simp only[e2];refine⟨by omega,by omega,Lq ⟨(v,u%v),by rw[←e,Nat.gcd_comm u v,Nat.gcd_rec v u,Nat.gcd_comm],hv,Nat.lt_trans (Nat.mod_lt u (by omega)) hv⟩ ?_ ?_⟩
   ·refine Sa ?_;simp only[ry,seval,rz,ZV]
   exact Nat.mod_lt _ (by omega)
  have TK:v=0:=by omega
  subst TK;rw[Nat.gcd_zero_right]at e;have hn:=aE (n:=u) (k:=2) (by unfold BB;omega);simp only[vx,T,seval,ZV];refine Cg (dr u (by omega)) ?_;simp only[vx,T,seval,ZV];refine Cg (b5 false u (by omega)) ?_;have e2:fL false u=((Int.gcd a b:Nat):Int):=by rw[hg,←e];rfl
  rw[e2];simp only[vx,T,seval,ZV];refine Va ?_;simp only[cY,a5,ry,seval,ZV]
 simp only[vx,T,seval,ZV];refine⟨fun h0=>Lg ?_,fun h0=>Lg ?_⟩
 ·have TK:v=0:=fW.1 (by omega);subst TK;rw[Nat.gcd_zero_right]at e;simp only[vx,T,seval,ZV];refine Cg (yr u (by omega)) ?_;simp only[vx,T,seval,ZV];refine Cg (b5 false u (by omega)) ?_;have e2:fL false u=((Int.gcd a b:Nat):Int):=by rw[hg,←e];rfl
  rw[e2];simp only[vx,T,seval,ZV];refine Va ?_;simp only[cY,a5,ry,seval,ZV]
 have TU:u<2^64:=by have:=cL.1 (show nl u≤2 by omega);unfold BB at this;omega
 have UP:v<2^64:=by have:=cL.1 (show nl v≤2 by omega);unfold BB at this;omega
 simp only[vx,T,seval,ZV];refine Cg (fB u TU) ?_;simp only[vx,T,seval,ZV];refine Cg (fB v UP) ?_;simp only[vx,T,seval,ZV];refine Lk (fun y:{y:Nat×Nat//Nat.gcd y.1 y.2=Nat.gcd a.natAbs b.natAbs∧y.1<2^64∧y.2<2^64}=>⟨[(4,.one (.ptr 3 0)),(9,.one (.int .u64 y.1.1)),(10,.one (.int .u64 y.1.2))],[(3,⟨.var [.bool false,.nil],true⟩)],4,57⟩) (fun y=>y.1.2) ⟨(u,v),e,TU,UP⟩ ?_ (fun⟨⟨u,v⟩,e,hu,hv⟩=>?_)
 ·refine Sa ?_;simp only[ry,seval,rz]
 simp only at e hu hv;simp only[vx,T,seval,ZV];refine⟨fun h5=>Lg ?_,fun h5=>Lg ?_⟩
 ·simp only[vx,T,seval,ZV];have e2:(u:Int).tmod v=((u%v:Nat):Int):=rfl;simp only[e2];refine⟨by omega,by omega,Lq ⟨(v,u%v),by rw[←e,Nat.gcd_comm u v,Nat.gcd_rec v u,Nat.gcd_comm],hv,Nat.lt_trans (Nat.mod_lt u (by omega)) hv⟩ ?_ ?_⟩
  ·refine Sa ?_;simp only[ry,seval,rz,ZV]
  exact Nat.mod_lt _ (by omega)
 have TK:v=0:=by omega
 subst TK;rw[Nat.gcd_zero_right]at e;have hn:=aE (n:=u) (k:=2) (by unfold BB;omega);simp only[vx,T,seval,ZV];refine Cg (dr u (by omega)) ?_;simp only[vx,T,seval,ZV];refine Cg (b5 false u (by omega)) ?_;have e2:fL false u=((Int.gcd a b:Nat):Int):=by rw[hg,←e];rfl
 rw[e2];simp only[vx,T,seval,ZV];refine Va ?_;simp only[cY,a5,ry,seval,ZV]
open Go Go.Eng
def Bg (b:Bool)(xs:List Int):Bool:=decide (ak (val xs)=xs∧(b=true→xs≠[]))
theorem xF {b:Bool}{xs:List Int}(h:Bg b xs=true):∃z:Int,b=zs z∧xs=zm z:=by
 unfold Bg at h;simp only[decide_eq_true_eq]at h;refine⟨fL b (val xs),?_,by rw[C4,h.1]⟩;rw[CI]
 cases b
 ·rfl
 have:=h.2 rfl
 have h0:val xs≠0:=fun e=>this (by rw[←h.1,e,br])
 simp;omega
theorem Ng (z:Int):Bg (zs z) (zm z)=true:=by
 unfold Bg;simp only[decide_eq_true_eq];refine⟨by rw[lH];rfl,fun h e=>?_⟩
 have:zn z=0:=by rw[←aX,e];rfl
 have:=dY.1 this
 subst this
 cases h
theorem CH {n:Nat}(h:0<n):(ak n).getD (nl n-1) 0≠0:=by
 rw[lG,kU h]
 have:=(gP h).1
 omega
theorem DN (b:Bool):Bg b []=!b:=by
 have:ak (val [])=[]:=br
 unfold Bg
 cases b<;>simp [this]
theorem GR {b:Bool}{xs:List Int}(hx:bO xs)(h0:xs≠[]):Bg b xs=decide (xs.getD (xs.length-1) 0≠0):=by
 unfold Bg;simp only[h0,ne_eq,not_false_eq_true,implies_true,and_true]
 congr 1
 simp only[eq_iff_iff]
 constructor
 ·intro h e;rw[←h,eC]at e;have hp:0<val xs:=by
   rcases Nat.eq_zero_or_pos (val xs)with h1|h1
   ·rw[h1,br]at h;exact absurd h.symm h0
   exact h1
  exact CH hp e
 intro h;exact cC hx (.inr h)
theorem r7 (b:Bool)(xs:List Int)(hx:bO xs)(hl:xs.length<2^44):Pr prog 230 [.agg [.bool b,.ints .u32 xs]] (.one (.bool (Bg b xs))):=by
 refine pw func230 ⟨[0,1,2,3],[]⟩ ?_;simp only[Tryz.f230,ntmps230,iz,seval];simp only[vx,T,seval];refine⟨fun h1=>Lg ?_,fun h1=>Lg ?_⟩
 ·have Wy:xs=[]:=List.length_eq_zero_iff.1 (by omega);subst Wy;simp only[vx,T,seval]
  cases b
  ·refine⟨fun h2=>Lg ?_,fun h2=>Lg ?_⟩
   ·simp only[vx,T,seval];refine Ve ?_;rw[DN];rfl
   cases h2
  refine⟨fun h2=>absurd h2 (by decide),fun h2=>Lg ?_⟩;simp only[vx,T,seval];refine Ve ?_;rw[DN];rfl
 have Wy:xs≠[]:=by rintro rfl;exact h1 rfl
 simp only[vx,T,seval];have i1:IntKind.i64.wrap ((xs.length:Int)-1)=((xs.length-1:Nat):Int):=by rw[Q4 _ (by omega)];omega
 refine⟨fun h2=>Lg ?_,fun h2=>absurd h2 (by omega)⟩;simp only[vx,T,seval]
 simp(disch:=omega) only[lG,←X2,←Q2,Q1,Q4,Q5,aD,aK,true_and,and_true,i1]
 refine⟨by omega,?_⟩;refine Ve ?_;rw[GR hx Wy]
theorem yq (a b:Int)(ha:zn a<2^42)(hb:zn b<2^42)(h0:b≠0):Pr prog 264 [ZV a,ZV b] (.aB [ZV (a.fdiv b),ZV (a.fmod b),.one (.int .i64 0)]):=by
 unfold zn at ha hb;have Yr:0<b.natAbs:=by omega
 have hbn:=eL.2 Yr;refine pw func264 ⟨[0,1,2,3,4,5,6,7,8,9,15,35],[]⟩ ?_;simp only[Tryz.f264,ntmps264,iz,seval];simp only[vx,T,seval,ZV];refine Cg (fX b (by unfold zn;omega)) ?_;simp only[vx,T,seval,ZV];refine⟨fun h=>Lg ?_,fun h=>Lg ?_⟩
 ·omega
 simp only[vx,T,seval,ZV];refine Cg (fX a (by unfold zn;omega)) ?_;simp only[vx,T,seval,ZV];refine Cg (je a.natAbs b.natAbs Yr (by omega) (by omega)) ?_;have hr:=nL (a:=a.natAbs) Yr;have hq:nl (a.natAbs/b.natAbs)≤nl a.natAbs:=bh (Nat.div_le_self _ _);simp only[vx,T,seval,ZV];refine⟨fun h1=>Lg ?_,fun h1=>Lg ?_⟩
 ·simp only[vx,T,seval,ZV];refine⟨fun h2=>Lg ?_,fun h2=>Lg ?_⟩
  ·simp only[vx,T,seval,ZV];have l1:ak 1=[1]:=by rw[jm (by decide),show (1:Nat)/BB=0 by decide,br];rfl
   rw[←l1];have hp:=uc (a.natAbs/b.natAbs) 1;have n1:nl 1=1:=by unfold nl;rw[l1];rfl
   refine Cg (pb (a.natAbs/b.natAbs) 1 (by omega) (by omega)) ?_;simp only[vx,T,seval,ZV];refine Cg (nm b.natAbs (a.natAbs%b.natAbs) (Nat.le_of_lt (Nat.mod_lt _ Yr)) (by omega)) ?_;have key:=FG (a:=a) (b:=b) h0 h1 (eL.1 (by omega));simp only[vx,T,seval,ZV];refine Cg (b5 _ (a.natAbs/b.natAbs+1) (by omega)) ?_;rw[key.1];simp only[vx,T,seval,ZV];refine Cg (b5 _ (b.natAbs-a.natAbs%b.natAbs) (Nat.lt_of_le_of_lt (bh (Nat.sub_le _ _)) (by omega))) ?_;rw[key.2];simp only[vx,T,seval,ZV];refine Va ?_;simp only[cY,a5,ry,seval,ZV]
  simp only[vx,T,seval,ZV];have key:=pX (a:=a) (b:=b) h0 (.inr (fW.1 (by omega)));refine Cg (b5 _ (a.natAbs/b.natAbs) (by omega)) ?_;rw[key.1];simp only[vx,T,seval,ZV];refine Cg (b5 _ (a.natAbs%b.natAbs) (by omega)) ?_;rw[key.2];simp only[vx,T,seval,ZV];refine Va ?_;simp only[cY,a5,ry,seval,ZV]
 simp only[vx,T,seval,ZV];have key:=pX (a:=a) (b:=b) h0 (.inl (by simpa using h1));refine Cg (b5 _ (a.natAbs/b.natAbs) (by omega)) ?_;rw[key.1];simp only[vx,T,seval,ZV];refine Cg (b5 _ (a.natAbs%b.natAbs) (by omega)) ?_;rw[key.2];simp only[vx,T,seval,ZV];refine Va ?_;simp only[cY,a5,ry,seval,ZV]
open Go Go.Eng
theorem fJ (b:Bool)(n:Nat)(hn:nl n<2^60):Pr prog 105 [.one (.bool b),.one (.ints .u32 (ak n))] (ZV (fL b n)):=by
 have h:=qq b (ak n) (bO.ak n) (by rw[eC];omega);rw[gE]at h;unfold ZV;rw[CI,C4];exact h
theorem CG (z:Int)(hz:zn z<2^60):Pr prog 151 [.one (.ints .u32 (zm z))] (.one (.ints .u32 (ak z.natAbs))):=by
 have h:=bL (zm z) (qP z) (by rw[aX];omega);rw[lH]at h;exact h
theorem kX (z:Int):zm z=ak z.natAbs:=rfl
theorem fP (z:Int)(h1: -9223372036854775808≤z)(h2:z≤9223372036854775807):Pr prog 56 [.one (.int .i64 z)] (ZV z):=by
 have hu:z.natAbs<2^64:=by omega
 have e0:fL (decide (z<0)) z.natAbs=z:=cB z;have hn:=aE (n:=z.natAbs) (k:=2) (by unfold BB;omega);refine pw func56 ⟨[0,2,4],[]⟩ ?_;simp only[Tryz.f56,ntmps56,iz,seval];simp only[vx,T,seval,ZV];refine⟨fun h=>Lg ?_,fun h=>Lg ?_⟩
 ·have e1:IntKind.u64.wrap (0-IntKind.u64.wrap z)=(z.natAbs:Int):=by rw[aV,aV];omega
  simp only[vx,T,seval,ZV];simp only[e1];refine Cg (ik z.natAbs hu) ?_;simp only[vx,T,seval,ZV];have e2:fL true z.natAbs=z:=by rw[←e0,jE];simp[h]
  refine Cg (fJ _ z.natAbs (by omega)) ?_;rw[e2];simp only[vx,T,seval,ZV];refine Va ?_;simp only[cY,a5,ry,seval,ZV]
 have e1:IntKind.u64.wrap z=(z.natAbs:Int):=by rw[aV];omega
 simp only[vx,T,seval,ZV];simp only[e1];refine Cg (ik z.natAbs hu) ?_;simp only[vx,T,seval,ZV];have e2:fL false z.natAbs=z:=by rw[←e0,jE];simp[h]
 refine Cg (fJ _ z.natAbs (by omega)) ?_;rw[e2];simp only[vx,T,seval,ZV];refine Va ?_;simp only[cY,a5,ry,seval,ZV]
theorem fb (a:Int)(ha:zn a<2^59):Pr prog 153 [ZV a] (ZV a):=by
 refine pw func153 ⟨[0,1,2],[]⟩ ?_;simp only[Tryz.f153,ntmps153,iz,seval];simp only[vx,T,seval,ZV];simp only[kX];refine Cg (fJ (zs a) a.natAbs (by unfold zn at ha;omega)) ?_;rw[cB];simp only[vx,T,seval,ZV];refine Va ?_;simp only[cY,a5,ry,seval,ZV,kX]
theorem gL (a:Int)(ha:zn a<2^59):Pr prog 102 [ZV a] (.one (.int .i64 (bQ a))):=by
 refine pw func102 ⟨[0,1,2,8,10],[]⟩ ?_;simp only[Tryz.f102,ntmps102,iz,seval];simp only[vx,T,seval,ZV];refine Cg (fb a ha) ?_;simp only[vx,T,seval,ZV];refine⟨fun h=>Lg ?_,fun h=>Lg ?_⟩
 ·have h0:a=0:=dY.1 (by rw[aX]at h;omega);simp only[vx,T,seval,ZV];subst h0;exact Ve rfl
 have h0:a≠0:=by rintro rfl;exact h (by rw[KL];rfl)
 simp only[vx,T,seval,ZV];refine⟨fun h2=>Lg ?_,fun h2=>Lg ?_⟩
 ·simp only[vx,T,seval,ZV];refine Ve ?_;unfold bQ;rw[if_neg h0,if_pos (lR.1 h2)]
 simp only[vx,T,seval,ZV];refine Ve ?_
 have:=dE.1 h2
 unfold bQ;rw[if_neg h0,if_neg (by omega)]
theorem oi (a:Int)(ha:zn a<2^59):Pr prog 103 [ZV a] (ZV (-a)):=by
 refine pw func103 ⟨[0,1,2],[]⟩ ?_;simp only[Tryz.f103,ntmps103,iz,seval];simp only[vx,T,seval,ZV];simp only[kX];refine Cg (fJ _ a.natAbs (by unfold zn at ha;omega)) ?_;rw[zk];simp only[vx,T,seval,ZV];refine Va ?_;simp only[cY,a5,ry,seval,ZV,kX]
theorem bq (a b:Int)(ha:zn a<2^42)(hb:zn b<2^42):Pr prog 149 [ZV a,ZV b] (ZV (a*b)):=by
 have hm:=jG a.natAbs b.natAbs;unfold zn at ha hb;refine pw func149 ⟨[0,1,2,3,4],[]⟩ ?_;simp only[Tryz.f149,ntmps149,iz,seval];simp only[vx,T,seval,ZV];refine Cg (fb a (by unfold zn;omega)) ?_;simp only[vx,T,seval,ZV];refine Cg (fb b (by unfold zn;omega)) ?_;simp only[vx,T,seval,ZV];simp only[kX];refine Cg (AZ a.natAbs b.natAbs (by omega) (by omega)) ?_;simp only[vx,T,seval,ZV];refine Cg (fJ _ (a.natAbs*b.natAbs) (by omega)) ?_;rw[zF];simp only[vx,T,seval,ZV];refine Va ?_;simp only[cY,a5,ry,seval,ZV,kX]
theorem gC (a b:Int)(ha:zn a<2^43)(hb:zn b<2^43):Pr prog 189 [ZV a,ZV b] (ZV (a+b)):=by
 have hm:=uc a.natAbs b.natAbs;unfold zn at ha hb;refine pw func189 ⟨[0,1,2,3,4,13,27],[]⟩ ?_;simp only[Tryz.f189,ntmps189,iz,seval];simp only[vx,T,seval,ZV];refine Cg (fb a (by unfold zn;omega)) ?_;simp only[vx,T,seval,ZV];refine Cg (fb b (by unfold zn;omega)) ?_;simp only[vx,T,seval,ZV,beq_iff_eq];refine⟨fun h=>Lg ?_,fun h=>Lg ?_⟩
 ·simp only[vx,T,seval,ZV];simp only[kX];refine Cg (BA a.natAbs b.natAbs (by omega) (by omega)) ?_;simp only[vx,T,seval,ZV];refine Cg (fJ _ (a.natAbs+b.natAbs) (by omega)) ?_;rw[add_same h];simp only[vx,T,seval,ZV];refine Va ?_;simp only[cY,a5,ry,seval,ZV,kX]
 have h:=beq_eq_false_iff_ne.1 h;simp only[vx,T,seval,ZV];simp only[kX];refine Cg (fN a.natAbs b.natAbs (by omega) (by omega)) ?_;simp only[vx,T,seval,ZV];refine⟨fun h2=>Lg ?_,fun h2=>Lg ?_⟩
 ·have h3:b.natAbs≤a.natAbs:=ji (by omega);simp only[vx,T,seval,ZV];refine Cg (j5 a.natAbs b.natAbs (by omega) (by omega)) ?_;simp only[vx,T,seval,ZV];refine Cg (fJ _ (a.natAbs-b.natAbs) (Nat.lt_of_le_of_lt (bh (Nat.sub_le _ _)) (by omega))) ?_;rw[Av h h3];simp only[vx,T,seval,ZV];refine Va ?_;simp only[cY,a5,ry,seval,ZV,kX]
 have h3:a.natAbs<b.natAbs:=kN (by omega);simp only[vx,T,seval,ZV];refine Cg (j5 b.natAbs a.natAbs (by omega) (by omega)) ?_;simp only[vx,T,seval,ZV];refine Cg (fJ _ (b.natAbs-a.natAbs) (Nat.lt_of_le_of_lt (bh (Nat.sub_le _ _)) (by omega))) ?_;rw[A0 h (by omega)];simp only[vx,T,seval,ZV];refine Va ?_;simp only[cY,a5,ry,seval,ZV,kX]
theorem rf (a b:Int)(ha:zn a<2^43)(hb:zn b<2^43):Pr prog 198 [ZV a,ZV b] (ZV (a-b)):=by
 refine pw func198 ⟨[0,1,2,3,4],[]⟩ ?_;simp only[Tryz.f198,ntmps198,iz,seval];simp only[vx,T,seval,ZV];refine Cg (oi b (by omega)) ?_;simp only[vx,T,seval,ZV];refine Cg (gC a (-b) (by omega) (by rw[Im];omega)) ?_;rw[←Int.sub_eq_add_neg];simp only[vx,T,seval,ZV];refine Va ?_;simp only[cY,a5,ry,seval,ZV]
theorem eH (a b:Int)(ha:zn a<2^42)(hb:zn b<2^42):Pr prog 101 [ZV a,ZV b] (ZV (Int.gcd a b)):=by
 have hg:Int.gcd a b=Nat.gcd a.natAbs b.natAbs:=rfl;unfold zn at ha hb;refine pw func101 ⟨[0,1,2,3,4,5,6,8,17],[]⟩ ?_;simp only[Tryz.f101,ntmps101,iz,seval];simp only[vx,T,seval,ZV];refine Cg (CG a (by unfold zn;omega)) ?_;simp only[vx,T,seval,ZV];refine Cg (CG b (by unfold zn;omega)) ?_;simp only[vx,T,seval,ZV];refine Lk (fun y:{y:Nat×Nat//Nat.gcd y.1 y.2=Nat.gcd a.natAbs b.natAbs∧nl y.1<2^42∧nl y.2<2^42}=>⟨[(4,.one (.ptr 3 0)),(5,.one (.ints .u32 (ak y.1.1))),(6,.one (.ints .u32 (ak y.1.2)))],[(3,⟨.var [.bool false,.nil],true⟩)],4,28⟩) (fun y=>y.1.2) ⟨(a.natAbs,b.natAbs),rfl,ha,hb⟩ ?_ (fun⟨⟨u,v⟩,e,hu,hv⟩=>?_)
 ·refine Sa ?_;simp only[ry,seval,rz]
 simp only at e hu hv;simp only[vx,T,seval,ZV];refine⟨fun h1=>Lg ?_,fun h1=>Lg ?_⟩
 ·have TK:0<v:=eL.1 (by omega);simp only[vx,T,seval,ZV];refine Cg (pF u v TK (by omega) (by omega)) ?_;simp only[vx,T,seval,ZV];refine Lq ⟨(v,u%v),by rw[←e,Nat.gcd_comm u v,Nat.gcd_rec v u,Nat.gcd_comm],hv,Nat.lt_of_le_of_lt (nL TK) hv⟩ ?_ ?_
  ·refine Sa ?_;simp only[ry,seval,rz,ZV]
  exact Nat.mod_lt _ TK
 have TK:v=0:=fW.1 (by omega);subst TK;rw[Nat.gcd_zero_right]at e;simp only[vx,T,seval,ZV];refine Cg (fJ false u (by omega)) ?_;have e2:fL false u=((Int.gcd a b:Nat):Int):=by rw[hg,←e];rfl
 rw[e2];simp only[vx,T,seval,ZV];refine Va ?_;simp only[cY,a5,ry,seval,ZV]
theorem wE {xs:List Int}(hx:bO xs):ak (val xs)=xs↔nl (val xs)=xs.length:=by
 refine⟨fun h=>by unfold nl;rw[h],fun h=>?_⟩;have h3:=qJ hx h.symm rfl;rw[zx]at h3;exact h3.symm
theorem Kf {b:Bool}{xs:List Int}(hx:bO xs)(h:nl (val xs)≠xs.length):Bg b xs=false:=by
 unfold Bg
 simp[wE hx,h]
theorem Ii {b:Bool}{xs:List Int}(hx:bO xs)(h:nl (val xs)=xs.length):Bg b xs=(!b||decide (0<xs.length)):=by
 unfold Bg
 cases b<;>simp [wE hx,h]
 cases xs<;>simp
theorem Ie {z:Int}(h:z.natAbs<18446744073709551616):zn z≤2:=aE (by unfold BB;omega)
theorem rU (b:Bool)(xs:List Int)(hx:bO xs)(hl:xs.length<2^44):Pr prog 219 [.agg [.bool b,.ints .u32 xs]] (.one (.bool (Bg b xs))):=by
 refine pw func219 ⟨[0,1,2],[]⟩ ?_;simp only[Tryz.f219,ntmps219,iz,seval];simp only[vx,T,seval];refine Cg (bL xs hx (by omega)) ?_;simp only[vx,T,seval];refine⟨fun h1=>Lg ?_,fun h1=>Lg ?_⟩
 ·simp only[vx,T,seval];have hg:=Ii (b:=b) hx (by omega);refine⟨fun h2=>Lg ?_,fun h2=>Lg ?_⟩
  ·simp only[vx,T,seval];refine Ve ?_;rw[hg,h2];rfl
  simp only[vx,T,seval];refine Ve ?_;rw[hg,h2]
  congr 2
  simp
 simp only[vx,T,seval];refine Ve ?_;rw[Kf hx (by omega)]
theorem yY (a b:Int)(ha:zn a<2^40)(hb:zn b<2^40)(h0:b≠0):Pr prog 154 [ZV a,ZV b] (.aB [ZV (a.fdiv b),ZV (a.fmod b),.one (.int .i64 0)]):=by
 have Yr:0<b.natAbs:=by omega
 have hbn:=eL.2 Yr;obtain⟨q,Xw⟩:∃q,q=fL (zs a !=zs b) (a.natAbs/b.natAbs):=⟨_,rfl⟩;have hqn:zn q≤zn a:=by rw[Xw,BH];exact bh (Nat.div_le_self _ _)
 have Us:=cZ q b;obtain⟨r,hrd⟩:∃r,r=a-q*b:=⟨_,rfl⟩;have hrn:zn r≤zn b:=by
  rw[hrd,Xw,Ez,BH];exact bh (Nat.le_of_lt (Nat.mod_lt _ Yr))
 obtain⟨key1,XW⟩:=Cz h0 Xw hrd;refine pw func154 ⟨[0,1,2,3,4,5,6,7,9,10,18,46],[(10,(.cons 2 [1] (.cons 3 [] (.cons 4 [] .nil .nil) .nil) .nil))]⟩ ?_;simp only[Tryz.f154,ntmps154,iz,seval];simp only[vx,T,seval,ZV];refine Cg (fb a (by omega)) ?_;simp only[vx,T,seval,ZV];refine Cg (fb b (by omega)) ?_;simp only[vx,T,seval,ZV];refine⟨fun h=>Lg ?_,fun h=>Lg ?_⟩
 ·rw[aX]at h;exact absurd (dY.1 (by omega)) h0
 simp only[vx,T,seval,ZV];simp only[kX];refine Cg (pF a.natAbs b.natAbs Yr (by unfold zn at ha;omega) (by unfold zn at hb;omega)) ?_;simp only[vx,T,seval,ZV];refine Cg (fJ (zs a !=zs b) (a.natAbs/b.natAbs) (by rw[←BH (zs a !=zs b),←Xw];omega)) ?_;rw[←Xw];simp only[vx,T,seval,ZV,←kX];refine Cg (bq q b (by omega) (by omega)) ?_;simp only[vx,T,seval,ZV];refine Cg (rf a (q*b) (by omega) (by omega)) ?_;rw[←hrd];simp only[vx,T,seval,ZV];refine Cg (gL r (by omega)) ?_;simp only[vx,T,seval,ZV];refine Cg (gL b (by omega)) ?_;have hw:IntKind.i64.wrap (bQ r*bQ b)=bQ r*bQ b:=by
  have:=vA r b
  exact Q4 _ (by omega)
 simp only[vx,T,seval,ZV,hw];refine⟨fun h3=>Lg ?_,fun h3=>Lg ?_⟩
 ·obtain⟨k1,k2⟩:=key1 h3;simp only[vx,T,seval,ZV];refine Cg (fP 1 (by omega) (by omega)) ?_;simp only[vx,T,seval,ZV];have z1:zn 1≤2:=Ie (by decide);refine Cg (rf q 1 (by omega) (by omega)) ?_;rw[k1];simp only[vx,T,seval,ZV];refine Cg (gC r b (by omega) (by omega)) ?_;rw[k2];simp only[vx,T,seval,ZV];refine Va ?_;simp only[cY,a5,ry,seval,ZV]
 obtain⟨k1,k2⟩:=XW h3;simp only[vx,T,seval,ZV];rw[←k1,←k2];refine Va ?_;simp only[cY,a5,ry,seval,ZV]
end Go.Proofs.YtehahgjkjfoebaaGreat
