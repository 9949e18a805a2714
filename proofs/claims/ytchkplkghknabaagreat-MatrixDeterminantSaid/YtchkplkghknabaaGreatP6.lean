/-
  MatrixDeterminant: for every input the law returns true, and each argument reads afterwards as it read before. No condition beyond the given row's own cells.
  (Text 6 of 9; made by a program out of smaller texts.)
-/
import Derived.WalkKit
import Derived.Lib.AppendZerosOnto
import Derived.Lib.Walk
import Derived.Test.YtchkplkghknabaaGreatP5
set_option linter.unusedSimpArgs false
set_option linter.unusedVariables false
set_option maxHeartbeats 16000000
set_option maxRecDepth 10000
open Nat renaming reduceAdd→J1,reduceMul→J2,reduceSub→J3,reduceEqDiff→J4,reduceLT→J5,reduceLeDiff→J6,reduceBEq→J7,reduceDiv→J8,reduceMod→J9,reducePow→J0
open Int renaming reduceToNat→K1,reduceLE→K2,reduceLT→K3,reduceEq→K4,reducePow→K5,reduceSub→K6,reduceNeg→K7,natCast_add→X2,natCast_one→X3,natCast_zero→X4
open List renaming getD_cons_zero→X0,getD_cons_succ→X1,length_take→X5,length_append→X6,getD_eq_getElem?_getD→X7,getElem?_eq_getElem→X8
namespace Go.Proofs.YtchkplkghknabaaGreat
open Go.Proofs.Tryz
open Go Go.Eng
open Go.Tw (El)
def fQ (l:List Rat)(i:Nat):Nat→C:=qC (l.getD i default)
theorem GN (l:List Rat):ae l= .rows 4 l.length (fQ l):=rfl
def Qk (l:List Rat):Prop:=∀x∈l,qm x<2^38
theorem Qk.of {l:List Rat}{B:Nat}(h:Tw.QB B l)(hB:B<2^38):Qk l:=fun x hx=>Nat.lt_of_le_of_lt (h x hx) hB
theorem Qk.get {l:List Rat}(h:Qk l)(i:Nat):qm (l.getD i default)<2^38:=by
 rw[X7]
 cases e:l[i]? with
 |none=>exact Nat.lt_of_le_of_lt (show qm (default:Rat)≤1 by decide+kernel) (by decide)
 |some x=>exact h x (List.mem_of_getElem? e)
theorem wy (q:Rat)(hq:qm q<2^40):Pr prog 190 [QV q] (.one (.bool true)):=by
 have h:=x7 (zs q.num) (zs (q.den:Int)) (zm q.num) (zm (q.den:Int)) (qE _) (qE _) (by unfold qm at hq;rw[aV];omega) (by unfold qm at hq;rw[aV,aF];omega);rw[Md]at h;exact h
theorem Fs (q:Rat)(hq:qm q<2^40):Pr prog 189 [QV q] (.one (.bool false)):=by
 refine pw func189 ⟨[0,1,2],[]⟩ ?_;simp only[Tryz.f189,ntmps189,iz,seval];simp only[vx,T,seval,QV,QC];refine Cg (wy q hq) ?_;simp only[vx,T,seval];exact Ve rfl
theorem vq {z:Int}:b9 z=0↔z=0:=by unfold b9;(repeat' split)<;>omega
theorem Ce (q:Rat)(hq:qm q<2^40):Pr prog 203 [QV q] (.one (.bool (decide (q≠0)))):=by
 refine pw func203 ⟨[0,1,2],[]⟩ ?_;simp only[Tryz.f203,ntmps203,iz,seval];simp only[vx,T,seval,QV,QC];refine Cg (jI q hq) ?_;simp only[vx,T,seval];refine vb ?_
 have:b9 q.num≠0↔q≠0:=by rw[Ne,vq,Rat.num_eq_zero]
 exact decide_eq_decide.2 this
def Ng (p:Rat→Bool)(xs:List Rat):Int:=if xs.findIdx p<xs.length then(xs.findIdx p:Int)else-1
theorem LB (p:Rat→Bool)(xs:List Rat):decide (0≤Ng p xs)=xs.any p:=by
 unfold Ng;rw[Bool.eq_iff_iff,decide_eq_true_eq,List.any_eq_true,←List.findIdx_lt_length]
 split<;>rename_i h
 ·exact⟨fun _=>h,fun _=>by omega⟩
 exact⟨fun k=>by omega,fun k=>absurd k h⟩
theorem eN {xs:List Rat}{i:Nat}(h:i<xs.length):xs.getD i default=xs[i]:=by
 rw[X7,X8 h];rfl
theorem GY (f:FuncId)(p:Rat→Bool)(xs:List Rat)(hl:xs.length<2^38)(hf:∀i,i<xs.length→Pr prog f [QV (xs.getD i default)] (.one (.bool (p (xs.getD i default))))):
  Pr prog 212 [eV xs,.one (.fn f 0 (fun _=>.any))] (.one (.int .i64 (Ng p xs))):=by
 refine pw func212 ⟨[0,1,4,5,7,8,9,16],[]⟩ ?_;simp only[Tryz.f212,ntmps212,iz,seval];simp only[vx,T,seval,eV,ae];refine Lk (fun y:{i:Nat//i≤xs.length∧∀k,k<i→p (xs.getD k default)=false}=>⟨[(0,eV xs),(1,.one (.fn f 0 (fun _=>.any))),(7,.one (.int .i64 xs.length)),(8,.one (.int .i64 y.1))],[],1,19⟩) (fun y=>xs.length-y.1) ⟨0,Nat.zero_le _,fun k h=>absurd h (Nat.not_lt_zero _)⟩ ?_ (fun⟨i,hi,hz⟩=>?_)
 ·refine Sa ?_;simp only[ry,seval,rz,eV,ae]
 have i1:=wI i (by omega);simp only[vx,T,seval,eV,ae];refine⟨fun h1=>Lg ?_,fun h1=>Lg ?_⟩
 ·have Vp:=hf i (by omega);obtain⟨a,ha⟩:∃a,a=xs.getD i default:=⟨_,rfl⟩;rw[←ha]at Vp;simp only[vx,T,seval,eV,ae,←ha,qC];refine⟨by omega,Cg Vp ?_⟩;simp only[vx,T,seval];refine⟨fun h2=>Lg ?_,fun h2=>Lg ?_⟩
  ·have e1:xs.findIdx p=i:=by
    rw[List.findIdx_eq (by omega)];refine⟨by rw[←eN (by omega),←ha];simpa using h2,fun j hj=>?_⟩;rw[←eN (by omega)];exact hz j hj
   have e2:Ng p xs=i:=by unfold Ng;rw[e1,if_pos (by omega)]
   simp only[vx,T,seval,e2];exact Ve rfl
  simp only[vx,T,seval];simp only[i1];refine Lq ⟨i+1,by omega,fun k hk=>?_⟩ ?_ ?_
  ·by_cases h3:k<i
   ·exact hz k h3
   rw[show k=i by omega,←ha];simpa using h2
  ·refine Sa ?_;simp only[ry,seval,rz,eV,ae]
  simp only;omega
 have e1:xs.findIdx p=xs.length:=by
  rw[List.findIdx_eq_length];intro x hx;obtain⟨k,hk,rfl⟩:=List.mem_iff_getElem.1 hx;rw[←eN hk];exact hz k (by omega)
 have e2:Ng p xs= -1:=by unfold Ng;rw[if_neg (by omega)]
 simp only[vx,T,seval,e2];exact Ve rfl
theorem vO (f:FuncId)(p:Rat→Bool)(xs:List Rat)(hl:xs.length<2^38)(hf:∀i,i<xs.length→Pr prog f [QV (xs.getD i default)] (.one (.bool (p (xs.getD i default))))):
  Pr prog 188 [eV xs,.one (.fn f 0 (fun _=>.any))] (.one (.bool (xs.any p))):=by
 refine pw func188 ⟨[0,1,4],[]⟩ ?_;simp only[Tryz.f188,ntmps188,iz,seval];simp only[vx,T,seval,eV,ae];refine Cg (GY f p xs hl hf) ?_;simp only[vx,T,seval];exact vb (LB p xs)
theorem ly (a:El)(n:Nat)(hl:a.length=n)(hn:n<2^38)(hq:Qk a):Pr prog 154 [eV a,.one (.int .i64 n)] (.one (.bool true)):=by
 have hc:=vO 189 (fun _=>false) a (by omega) (fun i hi=>Fs _ (Nat.lt_trans (hq.get i) (by decide)));rw[show a.any (fun _=>false)=false from List.any_eq_false.2 (fun _ _=>by simp)]at hc;subst hl;refine pw func154 ⟨[0,1,4],[]⟩ ?_;simp only[Tryz.f154,ntmps154,iz,seval];simp only[vx,T,seval,eV,ae];refine Cg hc ?_;simp only[vx,T,seval];exact Ve rfl
structure Tk (h:Nat) (t:List El):Prop where
 le8:h≤8
 len:∀i,i<h→(t.getD i []).length=2^i
 q:∀i,i<h→Qk (t.getD i [])
theorem Tk.le {h k:Nat}{t:List El}(T:Tk h t)(hk:k≤h):Tk k t:=⟨by have:=T.le8;omega,fun i hi=>T.len i (by omega),fun i hi=>T.q i (by omega)⟩
theorem dO {h:Nat}(hh:h≤8):IntKind.i64.wrap (1*2^(if h≤64 then h else 64))=((2^h:Nat):Int):=by
 rw[if_pos (by omega),Int.one_mul,IntWalk.i64_in]
 ·rw[Int.natCast_pow];rfl
 have:2^h≤2^8:=Nat.pow_le_pow_right (by decide) hh
 have e:((2:Int)^h)=((2^h:Nat):Int):=by rw[Int.natCast_pow];rfl
 rw[e];generalize 2^h=q at this⊢;constructor<;>omega
theorem aN {h:Nat}(hh:h≤8):2^h<2^38:=Nat.lt_of_le_of_lt (Nat.pow_le_pow_right (by decide) hh) (by decide)
theorem ju {h:Nat}{t:List El}(tk:Tk h t):Pr prog 153 [tV h t] (.one (.bool true)):=by
 have hh:=tk.le8;refine pw func153 ⟨[0,2,3,4,5,6,7,8,16],[]⟩ ?_;simp only[Tryz.f153,ntmps153,iz,seval];simp only[vx,T,seval,tV,tC];refine Lk (fun y:{i:Nat//i≤h}=>⟨[(5,tV h t),(6,.one (.int .i64 h)),(7,.one (.int .i64 y.1))],[],1,18⟩) (fun y=>h-y.1) ⟨0,Nat.zero_le _⟩ ?_ (fun⟨i,hi⟩=>?_)
 ·refine Sa ?_;simp only[ry,seval,rz,tV,tC]
 have i1:=wI i (by omega);simp only[vx,T,seval,tV,tC];refine⟨fun h1=>Lg ?_,fun h1=>Lg ?_⟩
 ·have Zn:i<h:=by omega
  have hs:=dO (h:=i) (by omega);have hp:=aN (h:=i) (by omega);simp only[vx,T,seval,tV,tC,ae,hs];refine⟨by omega,by omega,Cg (ly (t.getD i []) (2^i) (tk.len i Zn) hp (tk.q i Zn)) ?_⟩;simp only[vx,T,seval];simp only[i1];refine Lq ⟨i+1,by omega⟩ ?_ ?_
  ·refine Sa ?_;simp only[ry,seval,rz,tV,tC]
  simp only;omega
 simp only[vx,T,seval];exact Ve rfl
open Go Go.Eng
open Go.Tw (El aE aH zE ai au ar aq aa)
def wQ (l:List Rat)(i k j:Nat):C:=if k<i then fQ l k j else[C.bool false,C.nil,C.bool false,C.nil].getD j .any
theorem sF (l:List Rat)(k j:Nat):[C.bool false,C.nil,C.bool false,C.nil].getD j C.any=wQ l 0 k j:=by
 unfold wQ;rw[if_neg (Nat.not_lt_zero _)]
theorem H4 {l:List Rat}{n k:Nat}(h:k<n)(j:Nat):wQ l n k j=fQ l k j:=if_pos h
theorem dH (q:Rat){l:List Rat}{k:Nat}(e:l.getD k default=q)(j:Nat):[C.bool (zs q.num),C.ints .u32 (zm q.num),C.bool (zs (q.den:Int)),C.ints .u32 (zm (q.den:Int))].getD j C.any=fQ l k j:=by
 subst e
 match j with
 |0|1|2|3=>rfl
 |_+4=>rfl
theorem xY (q:Rat){l:List Rat}{i:Nat}(e:l.getD i default=q)(k j:Nat)(hj:j<4):
  bt (wQ l i) i 0 [C.bool (zs q.num),C.ints .u32 (zm q.num),C.bool (zs (q.den:Int)),C.ints .u32 (zm (q.den:Int))] k j=wQ l (i+1) k j:=by
 unfold bt
 by_cases h:k=i
 ·subst h;rw[if_pos rfl,if_pos (Nat.zero_le _),if_pos (by simpa using hj),Nat.sub_zero,dH q e,H4 (Nat.lt_succ_self _)]
 rw[if_neg h];unfold wQ
 by_cases h2:k<i
 ·rw[if_pos h2,if_pos (by omega)]
 rw[if_neg h2,if_neg (by omega)]
theorem xv {l:List Rat}{n:Nat}(h:l.length=n):Y5 [] 0 (Bk.rows 62 4 n (wQ l n)) (Bk.rows 62 4 l.length (fQ l)):=
 ⟨rfl,h.symm,fun _ j hi _=>H4 hi j⟩
theorem ox (n:Nat)(hn:n<2^38):Fr prog 202 [.one (.int .i64 n)] (.rows 62 4 (zE n).length (fQ (zE n))):=by
 refine fw func202 ⟨[0,2,3,4,8,9,10],[]⟩ ?_;simp only[Tryz.f202,ntmps202,iz,seval];simp only[vx,T,seval];refine⟨by omega,Lk (fun y:{i:Nat//i≤n}=>⟨[(3,.one (.own 1 4 0 n)),(8,.one (.int .i64 n)),(9,.one (.int .i64 y.1))],[(1,⟨.rows 62 4 n (wQ (zE n) y.1),true⟩)],2,18⟩) (fun y=>n-y.1) ⟨0,Nat.zero_le _⟩ ?_ (fun⟨i,hi⟩=>?_)⟩
 ·refine Sa ?_;simp only[ry,seval,rz];exact fun i j _ _=>sF _ i j
 have i1:=wI i (by omega);simp only[vx,T,seval];refine⟨fun h1=>Lg ?_,fun h1=>Lg ?_⟩
 ·have RP:i<n:=by omega
  simp only[vx,T,seval];refine Cg (cO 0 (by decide) (by decide)) ?_;simp only[vx,T,seval,QV,QC];simp only[i1];refine⟨by omega,Lq ⟨i+1,by omega⟩ ?_ ?_⟩
  ·refine Sa ?_;simp only[ry,seval,rz];exact fun k j _ hj=>xY _ (by simp[zE,X7,RP];rfl) k j hj
  simp only;omega
 have RP:i=n:=by omega
 subst RP;simp only[vx,T,seval];exact⟨au.symm,xv au⟩
theorem Bo (q:Rat)(hq:qm q<2^40):Pr prog 155 [QV q] (QV (-q)):=by
 refine pw func155 ⟨[0,1,2],[]⟩ ?_;simp only[Tryz.f155,ntmps155,iz,seval];simp only[vx,T,seval,QV,QC];refine Cg (vh q.num (by unfold qm at hq;omega)) ?_;simp only[vx,T,seval,ZV];exact Ve rfl
theorem mW (a:El)(hl:a.length<2^38)(hq:Qk a):Fr prog 119 [eV a] (.rows 62 4 (aH a).length (fQ (aH a))):=by
 refine fw func119 ⟨[0,2,3,4,5,9,10,11,12],[]⟩ ?_;simp only[Tryz.f119,ntmps119,iz,seval];simp only[vx,T,seval,eV,ae];refine⟨by omega,Lk (fun y:{i:Nat//i≤a.length}=>⟨[(0,eV a),(3,.one (.own 1 4 0 a.length)),(9,eV a),(10,.one (.int .i64 a.length)),(11,.one (.int .i64 y.1))],[(1,⟨.rows 62 4 a.length (wQ (aH a) y.1),true⟩)],2,23⟩) (fun y=>a.length-y.1) ⟨0,Nat.zero_le _⟩ ?_ (fun⟨i,hi⟩=>?_)⟩
 ·refine Sa ?_;simp only[ry,seval,rz,eV,ae];exact fun i j _ _=>sF _ i j
 have i1:=wI i (by omega);simp only[vx,T,seval,eV,ae];refine⟨fun h1=>Lg ?_,fun h1=>Lg ?_⟩
 ·have RP:i<a.length:=by omega
  have UA:=hq.get i;have en:(aH a).getD i default= -(a.getD i default):=by
   unfold aH;rw[X7,List.getElem?_map,X8 RP,X7,X8 RP];rfl
  obtain⟨x,hx⟩:∃x,x=a.getD i default:=⟨_,rfl⟩;rw[←hx]at UA en;simp only[vx,T,seval,eV,ae,←hx,qC];refine⟨by omega,Cg (Bo x (by omega)) ?_⟩;simp only[vx,T,seval,QV,QC];simp only[i1];refine⟨by omega,Lq ⟨i+1,by omega⟩ ?_ ?_⟩
  ·refine Sa ?_;simp only[ry,seval,rz,eV,ae];exact fun k j _ hj=>xY _ en k j hj
  simp only;omega
 have RP:i=a.length:=by omega
 subst RP;simp only[vx,T,seval];exact⟨ar.symm,xv ar⟩
theorem kD (a b:El)(hl:a.length<2^38)(Tp:b.length=a.length)(Ul:Qk a)(Th:Qk b):Fr prog 204 [eV a,eV b] (.rows 62 4 (aE a b).length (fQ (aE a b))):=by
 refine fw func204 ⟨[0,1,4,5,6,11,12,13],[]⟩ ?_;simp only[Tryz.f204,ntmps204,iz,seval];simp only[vx,T,seval,eV,ae];refine⟨by omega,Lk (fun y:{i:Nat//i≤a.length}=>⟨[(0,eV a),(1,eV b),(5,.one (.own 1 4 0 a.length)),(11,.one (.int .i64 a.length)),(12,.one (.int .i64 y.1))],[(1,⟨.rows 62 4 a.length (wQ (aE a b) y.1),true⟩)],2,29⟩) (fun y=>a.length-y.1) ⟨0,Nat.zero_le _⟩ ?_ (fun⟨i,hi⟩=>?_)⟩
 ·refine Sa ?_;simp only[ry,seval,rz,eV,ae];exact fun i j _ _=>sF _ i j
 have i1:=wI i (by omega);simp only[vx,T,seval,eV,ae];refine⟨fun h1=>Lg ?_,fun h1=>Lg ?_⟩
 ·have RP:i<a.length:=by omega
  have UA:=Ul.get i;have V7:=Th.get i;have en:(aE a b).getD i default=a.getD i default+b.getD i default:=by
   unfold aE;rw[X7,List.getElem?_zipWith,X8 RP,X7,X8 RP,X8 (by omega:i<b.length),X7,X8 (by omega:i<b.length)];rfl
  obtain⟨x,hx⟩:∃x,x=a.getD i default:=⟨_,rfl⟩;obtain⟨y,hy⟩:∃y,y=b.getD i default:=⟨_,rfl⟩;rw[←hx]at UA en;rw[←hy]at V7 en;simp only[vx,T,seval,eV,ae,←hx,←hy,qC];refine⟨by omega,by omega,Cg (BQ x y UA V7) ?_⟩;simp only[vx,T,seval,QV,QC];simp only[i1];refine⟨by omega,Lq ⟨i+1,by omega⟩ ?_ ?_⟩
  ·refine Sa ?_;simp only[ry,seval,rz,eV,ae];exact fun k j _ hj=>xY _ en k j hj
  simp only;omega
 have RP:i=a.length:=by omega
 subst RP;simp only[vx,T,seval];exact⟨(aq rfl Tp).symm,xv (aq rfl Tp)⟩
open Go Go.Eng
open Go.Tw (El aE aH zE ai au ar aq aa QB cJ ah ag)
theorem dx (a:El)(hl:a.length<2^38)(hq:Qk a):Pr prog 177 [eV a] (.one (.bool (decide (a=zE a.length)))):=by
 have hc:=vO 203 (fun q=>decide (q≠0)) a hl (fun i hi=>Ce _ (Nat.lt_trans (hq.get i) (by decide)));refine pw func177 ⟨[0,2],[]⟩ ?_;simp only[Tryz.f177,ntmps177,iz,seval];simp only[vx,T,seval,eV,ae];refine Cg hc ?_;simp only[vx,T,seval];refine vb ?_;rw[Bool.eq_iff_iff,Bool.not_eq_true',List.any_eq_false,decide_eq_true_eq]
 constructor
 ·intro h;refine List.eq_replicate_iff.2 ⟨rfl,fun b hb=>?_⟩
  have:=h b hb
  simpa using this
 intro h b hb;rw[h]at hb
 have:=List.eq_of_mem_replicate hb
 simp[this]
theorem dG {h:Nat}{t:List El}(tk:Tk h t)(a:El)(ha:a.length=2^h)(hq:Qk a):Pr prog 118 [tV h t,eV a] (.one (.bool true)):=by
 have hs:=dO tk.le8;have hn:=ly a (2^h) ha (aN tk.le8) hq;have hr:=ju tk;refine pw func118 ⟨[0,1,4],[]⟩ ?_;simp only[Tryz.f118,ntmps118,iz,seval];simp only[vx,T,seval,tV,tC,eV,ae];refine Cg hr ?_;simp only[vx,T,seval,hs];refine⟨Int.natCast_nonneg _,Cg hn ?_⟩;simp only[vx,T,seval];exact Ve rfl
theorem kV {h:Nat}{t:List El}(tk:Tk h t)(a b:El)(ha:a.length=2^h)(hb:b.length=2^h)(hq:Qk a)(Th:Qk b):Pr prog 182 [tV h t,eV a,eV b] (.one (.bool true)):=by
 have hs:=dO tk.le8;have hn:=ly b (2^h) hb (aN tk.le8) Th;have hr:=dG tk a ha hq;refine pw func182 ⟨[0,1,2,6],[]⟩ ?_;simp only[Tryz.f182,ntmps182,iz,seval];simp only[vx,T,seval,tV,tC,eV,ae];refine Cg hr ?_;simp only[vx,T,seval,hs];refine⟨Int.natCast_nonneg _,Cg hn ?_⟩;simp only[vx,T,seval];exact Ve rfl
theorem mg {h:Nat}{t:List El}(hh:h<2^38):Pr prog 207 [tV (h+1) t] (.aB [tV h t,eV (t.getD h [])]):=by
 have w1:IntKind.i64.wrap (((h+1:Nat):Int)-1)=(h:Int):=by rw[IntWalk.i64_in _ (by omega)];omega
 refine pw func207 ⟨[0,2,3],[(1,.nil)]⟩ ?_;simp only[Tryz.f207,ntmps207,iz,seval];simp only[vx,T,seval,tV,tC,ae,w1];exact⟨by omega,by omega,Ve rfl⟩
theorem Dk {a:El}{n i:Nat}(h:i<n)(j:Nat):fQ a i j=fQ (a.take n) i j:=by
 unfold fQ;rw[X7,X7,List.getElem?_take_of_lt h]
theorem DW {a:El}{n:Nat}(i j:Nat):fQ a (n+i) j=fQ (a.drop n) i j:=by
 unfold fQ;rw[X7,X7,List.getElem?_drop]
theorem iG {h:Nat}(hh:h<38){a:El}(ha:a.length=2^(h+1)):Pr prog 208 [eV a] (.aB [eV (a.take (2^h)),eV (a.drop (2^h))]):=by
 have hp:2^h<2^38:=Nat.pow_lt_pow_right (by decide) hh;obtain⟨n,hn⟩:∃n,n=2^h:=⟨_,rfl⟩;have R4:a.length=2*n:=by rw[ha,Nat.pow_succ,hn];omega
 rw[←hn]at hp⊢;have w1:IntKind.i64.wrap (((a.length:Nat):Int).tdiv 2)=(n:Int):=by
  rw[R4,Int.tdiv_eq_ediv_of_nonneg (by omega),IntWalk.i64_in _ (by omega)];omega
 refine pw func208 ⟨[0,2,3],[(1,.nil)]⟩ ?_;simp only[Tryz.f208,ntmps208,iz,seval];simp only[vx,T,seval,eV,ae,w1];refine⟨by omega,by omega,Va ⟨⟨rfl,by rw[X5];omega,fun i j hi _=>Dk hi j⟩,⟨rfl,by rw[List.length_drop];omega,fun i j hi _=>DW i j⟩,trivial⟩⟩
open Go Go.Eng
open Go.Tw (El aE aH zE ai au ar aq aa QB cJ ah ag)
theorem kU (a b:El)(i j:Nat):(if i<a.length then fQ a i j else fQ b (i-a.length) j)=fQ (a++b) i j:=by
 unfold fQ
 by_cases h:i<a.length
 ·rw[if_pos h,X7,X7,List.getElem?_append_left h]
 rw[if_neg h,X7,X7,List.getElem?_append_right (by omega)]
theorem Bn {a b:El}{t:List El}(ha:a.length=2^0)(hb:b.length=2^0)(qa:Qk a)(qb:Qk b):
  Fr prog 183 [tV 0 t,eV a,eV b] (.rows 62 4 (ai 0 t a b).length (fQ (ai 0 t a b))):=by
 have UA:=qa.get 0;have V7:=qb.get 0;have em:ai 0 t a b=[a.getD 0 default*b.getD 0 default]:=rfl;obtain⟨x,hx⟩:∃x,x=a.getD 0 default:=⟨_,rfl⟩;obtain⟨y,hy⟩:∃y,y=b.getD 0 default:=⟨_,rfl⟩;rw[←hx,←hy]at em;rw[←hx]at UA;rw[←hy]at V7;refine fw func183 ⟨[0,1,2,6,7,8,9,10,11,12,13,14,26],[]⟩ ?_;simp only[Tryz.f183,ntmps183,iz,seval];simp only[vx,T,seval,tV,tC,eV,ae,←hx,←hy,qC];refine⟨by omega,by omega,Cg (CD x y UA V7) ?_⟩;simp only[vx,T,seval,QV,QC];rw[em];refine⟨rfl,rfl,rfl,fun i j hi hj=>?_⟩;obtain rfl:i=0:=by omega
 show List.getD _ (0*4+j) _=_;rw[Nat.zero_mul,Nat.zero_add];exact dH (x*y) rfl j
theorem uF {a b:El}{h:Nat}{t:List El}(hh:h+1<38)(ha:a.length=2^(h+1))(hb:b.length=2^(h+1))(qa:Qk a)(qb:Qk b)(hz:a=zE (2^(h+1))∨b=zE (2^(h+1))):
  Fr prog 183 [tV (h+1) t,eV a,eV b] (.rows 62 4 (ai (h+1) t a b).length (fQ (ai (h+1) t a b))):=by
 have hp:2^(h+1)<2^38:=Nat.pow_lt_pow_right (by decide) hh;have em:ai (h+1) t a b=zE a.length:=by
  rw[ha]
  rcases hz with rfl|rfl
  ·exact Go.Tw.bD
  exact Go.Tw.gn
 rw[em];have ca:=dx a (by omega) qa;have cb:=dx b (by omega) qb;have cz:=ox a.length (by omega);obtain⟨za,XK⟩:∃za,za=decide (a=zE a.length):=⟨_,rfl⟩;rw[←XK]at ca;refine fw func183 ⟨[0,1,2,6,7,8,9,10,11,12,13,14,26],[]⟩ ?_;simp only[Tryz.f183,ntmps183,iz,seval];simp only[vx,T,seval,tV,tC,eV,ae];refine⟨fun h=>absurd h (by omega),fun _=>Lg ?_⟩;simp only[vx,T,seval,tV,tC,eV,ae];refine Cg ca ?_
 cases za with
 |true=>
  simp only[vx,T,seval];refine cK.fresh cz ?_;simp only[vx,T,seval];exact⟨rfl,rfl,fun _ _ _ _=>rfl⟩
 |false=>
  have Ym:b=zE b.length:=by
   rcases hz with rfl|rfl
   ·exact absurd XK (by rw[au,decide_eq_true rfl];decide)
   rw[au]
  rw[decide_eq_true Ym]at cb;simp only[vx,T,seval];refine Cg cb ?_;simp only[vx,T,seval];refine cK.fresh cz ?_;simp only[vx,T,seval];exact⟨rfl,rfl,fun _ _ _ _=>rfl⟩
theorem Cl {t:List El}{X:Nat}(hX:X<2^37){h:Nat}(ih:∀{a b:El},a.length=2^h→b.length=2^h→cJ X h t a b→
  Fr prog 183 [tV h t,eV a,eV b] (.rows 62 4 (ai h t a b).length (fQ (ai h t a b)))) {a b:El} (tk:Tk (h+1) t) (ha:a.length=2^(h+1)) (hb:b.length=2^(h+1)) (hm:cJ X (h+1) t a b) (nza:a≠zE (2^(h+1))) (nzb:b≠zE (2^(h+1))):
  Fr prog 183 [tV (h+1) t,eV a,eV b] (.rows 62 4 (ai (h+1) t a b).length (fQ (ai (h+1) t a b))):=by
 have hh:=tk.le8;have hp:2^(h+1)<2^38:=Nat.pow_lt_pow_right (by decide) (by omega);obtain⟨qa,qb,_,k1,k2,k5,k3,k4⟩:=hm;have qka:Qk a:=.of qa (by omega);have qkb:Qk b:=.of qb (by omega);have ca:=dx a (by omega) qka;have cb:=dx b (by omega) qkb;rw[ha,decide_eq_false nza]at ca;rw[hb,decide_eq_false nzb]at cb;have cs:=mg (h:=h) (t:=t) (by omega);have cx:=iG (h:=h) (by omega) ha;have cy:=iG (h:=h) (by omega) hb;have Ss:=ah ha;have So:=ag ha;have Yn:=ah hb;have Xc:=ag hb;have m1:=ih Ss Yn k1;have m2:=ih So Xc k2;have m5:=ih aa (tk.len h (by omega)) k5;have m3:=ih Ss Xc k3;have m4:=ih So Yn k4;have hph:2^h<2^38:=Nat.pow_lt_pow_right (by decide) (by omega);have a1:=kD _ _ (by rw[aa];omega) (by rw[aa,aa]) (Qk.of k1.q.2.2 (by omega)) (Qk.of k5.q.2.2 (by omega));have a2:=kD _ _ (by rw[aa];omega) (by rw[aa,aa]) (Qk.of k3.q.2.2 (by omega)) (Qk.of k4.q.2.2 (by omega));clear k1 k2 k3 k4 k5 ih;obtain⟨x,hx⟩:∃x,x=a.take (2^h):=⟨_,rfl⟩;obtain⟨y,hy⟩:∃y,y=a.drop (2^h):=⟨_,rfl⟩;obtain⟨u,hu⟩:∃u,u=b.take (2^h):=⟨_,rfl⟩;obtain⟨v,hv⟩:∃v,v=b.drop (2^h):=⟨_,rfl⟩;obtain⟨r,hr⟩:∃r,r=t.getD h []:=⟨_,rfl⟩;rw[←hr]at cs m5 a1;rw[←hx,←hy]at cx;rw[←hu,←hv]at cy;rw[←hx,←hu]at m1;rw[←hy,←hv]at m2 m5;rw[←hx,←hv]at m3;rw[←hy,←hu]at m4;rw[←hx,←hu,←hy,←hv]at a1;rw[←hx,←hv,←hy,←hu]at a2;have em:ai (h+1) t a b=aE (ai h t x u) (ai h t (ai h t y v) r)++aE (ai h t x v) (ai h t y u):=by rw[hx,hy,hu,hv,hr,Go.Tw.ai]
 rw[em];obtain⟨p1,Ug⟩:∃p,p=ai h t x u:=⟨_,rfl⟩;obtain⟨p2,TH⟩:∃p,p=ai h t y v:=⟨_,rfl⟩;rw[←TH]at m2 m5 a1⊢;obtain⟨p5,Zo⟩:∃p,p=ai h t p2 r:=⟨_,rfl⟩;obtain⟨p3,UQ⟩:∃p,p=ai h t x v:=⟨_,rfl⟩;obtain⟨p4,XL⟩:∃p,p=ai h t y u:=⟨_,rfl⟩;rw[←Ug]at m1 a1⊢;rw[←Zo]at m5 a1⊢;rw[←UQ]at m3 a2⊢;rw[←XL]at m4 a2⊢;obtain⟨s1,UB⟩:∃p,p=aE p1 p5:=⟨_,rfl⟩;obtain⟨s2,TZ⟩:∃p,p=aE p3 p4:=⟨_,rfl⟩;have l1:s1.length=2^h:=by rw[UB];exact aq (by rw[Ug,aa]) (by rw[Zo,aa])
 have l2:s2.length=2^h:=by rw[TZ];exact aq (by rw[UQ,aa]) (by rw[XL,aa])
 rw[←UB]at a1⊢;rw[←TZ]at a2⊢;refine fw func183 ⟨[0,1,2,6,7,8,9,10,11,12,13,14,26],[]⟩ ?_;simp only[Tryz.f183,ntmps183,iz,seval];simp only[vx,T,seval,tV,tC,eV,ae];refine⟨fun h=>absurd h (by omega),fun _=>Lg ?_⟩;simp only[vx,T,seval,tV,tC,eV,ae];refine Cg ca ?_;simp only[vx,T,seval];refine Cg cb ?_;simp only[vx,T,seval];refine Cg cs ?_;simp only[vx,T,seval,tV,tC,eV,ae];refine Cg cx ?_;simp only[vx,T,seval,tV,tC,eV,ae];refine Cg cy ?_;simp only[vx,T,seval,tV,tC,eV,ae];refine Cg m1.rows ?_;simp only[vx,T,seval,tV,tC,eV,ae];refine Cg m2.rows ?_;simp only[vx,T,seval,tV,tC,eV,ae];refine Cg m5.rows ?_;simp only[vx,T,seval,tV,tC,eV,ae];refine cK.fresh a1 ?_;simp only[vx,T,seval,tV,tC,eV,ae];refine Cg m3.rows ?_;simp only[vx,T,seval,tV,tC,eV,ae];refine Cg m4.rows ?_;simp only[vx,T,seval,tV,tC,eV,ae];refine Cg a2.rows ?_;simp only[vx,T,seval,tV,tC,eV,ae];exact⟨⟨by omega,by omega⟩,List.length_append.symm,rfl,List.length_append.symm,fun i j _ _=>kU s1 s2 i j⟩
theorem iX {t:List El}{X:Nat}(hX:X<2^37):∀{h:Nat} {a b:El},Tk h t→a.length=2^h→b.length=2^h→cJ X h t a b→
  Fr prog 183 [tV h t,eV a,eV b] (.rows 62 4 (ai h t a b).length (fQ (ai h t a b))):=by
 intro h
 induction h with
 |zero=>
  intro a b _ ha hb hm;exact Bn ha hb (.of hm.1 (by omega)) (.of hm.2.1 (by omega))
 |succ h ih=>
  intro a b tk ha hb hm;have hh:=tk.le8
  by_cases za:a=zE (2^(h+1))
  ·exact uF (by omega) ha hb (.of hm.1 (by omega)) (.of hm.2.1 (by omega)) (.inl za)
  by_cases zb:b=zE (2^(h+1))
  ·exact uF (by omega) ha hb (.of hm.1 (by omega)) (.of hm.2.1 (by omega)) (.inr zb)
  exact Cl hX (fun{a b} g1 g2 g3=>ih (tk.le (Nat.le_succ h)) g1 g2 g3) tk ha hb hm za zb
open Go Go.Eng
open Go.Tw (El aE aH zE ai au ar aq aa QB cJ ah ag)
theorem fB.cell {c c':C}(h:dB c c'):fB (.one c) (.one c'):=fun ok w v hr=>aC.bh (h ok w v (aP.dZ hr))
theorem fB.Ps {a a' b b':C}(h1:dB a a')(h2:dB b b'):fB (.agg [a,b]) (.agg [a',b']):=by
 intro ok w v hr;obtain⟨vs,e,hl⟩:=hr;refine⟨vs,e,?_⟩
 generalize vs.toList=l at hl⊢
 match l,hl with
 |[x,y],⟨k1,k2,_⟩=>exact⟨aC.bh (h1 ok w x (aP.dZ k1)),aC.bh (h2 ok w y (aP.dZ k2)),trivial⟩
theorem DT {a b:Int}:eX a b=0↔a=b:=by unfold eX;split;omega;split<;>omega
theorem Hg {a b:Int}(h:¬b9 a=b9 b):eX (b9 a) (b9 b)=eX a b:=by
 unfold b9 eX at*;(repeat' split)<;>(repeat' split at h)<;>first|omega|rfl
theorem MS {a b:Int}(h:b9 a=b9 b):IntKind.i64.wrap (b9 a*eX (a.natAbs:Int) (b.natAbs:Int))=eX a b:=by
 have e:b9 a*eX (a.natAbs:Int) (b.natAbs:Int)=eX a b:=by
  rcases Int.lt_trichotomy a 0 with h0|h0|h0
  ·have e1:b9 a= -1:=by unfold b9;rw[if_neg (by omega),if_pos h0]
   have e2:b<0:=by rw[e1]at h;unfold b9 at h;(repeat' split at h)<;>omega
   rw[e1];unfold eX;(repeat' split)<;>omega
  ·have e1:b9 a=0:=by unfold b9;rw[if_pos h0]
   have e2:b=0:=by rw[e1]at h;unfold b9 at h;(repeat' split at h)<;>omega
   rw[e1];unfold eX;(repeat' split)<;>omega
  have e1:b9 a=1:=by unfold b9;rw[if_neg (by omega),if_neg (by omega)]
  have e2:0<b:=by rw[e1]at h;unfold b9 at h;(repeat' split at h)<;>omega
  rw[e1];unfold eX;(repeat' split)<;>omega
 rw[e];refine IntWalk.i64_in _ ?_
 unfold eX;(repeat' split)<;>omega
theorem qh (a b:Int)(ha:zn a<2^42)(hb:zn b<2^42):Pr prog 217 [ZV a,ZV b] (.one (.int .i64 (eX a b))):=by
 have ca:=fP a ha;have cb:=fP b hb;have ta:=fR a (by omega);have tb:=fR b (by omega);refine pw func217 ⟨[0,1,2,3,4,5,6,13],[]⟩ ?_;simp only[Tryz.f217,ntmps217,iz,seval];simp only[vx,T,seval,ZV];refine Cg ca ?_;simp only[vx,T,seval,ZV];refine Cg cb ?_;simp only[vx,T,seval,ZV];refine⟨fun g=>Lg ?_,fun g=>Lg ?_⟩
 ·simp only[vx,T,seval,ZV];refine Cg (ko _ _) ?_;simp only[vx,T,seval,ZV];exact Ve (by rw[Hg g])
 simp only[vx,T,seval,ZV];refine Cg ta ?_;simp only[vx,T,seval,ZV];refine Cg tb ?_;simp only[vx,T,seval,ZV];refine Cg (gL a.natAbs b.natAbs (by unfold zn at ha;omega) (by unfold zn at hb;omega)) ?_;simp only[vx,T,seval,ZV];exact Ve (by rw[MS g])
theorem pM (q:Rat)(hq:qm q<2^40):Pr prog 105 [QV q] (QV q):=by
 have c1:=jG (zm q.num) (by unfold qm at hq;rw[aV];omega);have c2:=jG (zm (q.den:Int)) (by unfold qm at hq;rw[aV,aF];omega);refine pw func105 ⟨[0,1,2],[]⟩ ?_;simp only[Tryz.f105,ntmps105,iz,seval];simp only[vx,T,seval,QV,QC];refine Cg c1 ?_;simp only[vx,T,seval];refine Cg c2 ?_;simp only[vx,T,seval];exact Ve rfl
theorem n8 (a:El)(hl:a.length<2^38)(hq:Qk a):Fr prog 117 [eV a] (.rows 62 4 a.length (fQ a)):=by
 refine fw func117 ⟨[0,2,3,4,5,9,10,11,12],[]⟩ ?_;simp only[Tryz.f117,ntmps117,iz,seval];simp only[vx,T,seval,eV,ae];refine⟨by omega,Lk (fun y:{i:Nat//i≤a.length}=>⟨[(0,eV a),(3,.one (.own 1 4 0 a.length)),(9,eV a),(10,.one (.int .i64 a.length)),(11,.one (.int .i64 y.1))],[(1,⟨.rows 62 4 a.length (wQ a y.1),true⟩)],2,23⟩) (fun y=>a.length-y.1) ⟨0,Nat.zero_le _⟩ ?_ (fun⟨i,hi⟩=>?_)⟩
 ·refine Sa ?_;simp only[ry,seval,rz,eV,ae];exact fun i j _ _=>sF _ i j
 have i1:=wI i (by omega);simp only[vx,T,seval,eV,ae];refine⟨fun h1=>Lg ?_,fun h1=>Lg ?_⟩
 ·have RP:i<a.length:=by omega
  have UA:=hq.get i;obtain⟨x,hx⟩:∃x,x=a.getD i default:=⟨_,rfl⟩;rw[←hx]at UA;simp only[vx,T,seval,eV,ae,←hx,qC];refine⟨by omega,Cg (pM x (by omega)) ?_⟩;simp only[vx,T,seval,QV,QC];simp only[i1];refine⟨by omega,Lq ⟨i+1,by omega⟩ ?_ ?_⟩
  ·refine Sa ?_;simp only[ry,seval,rz,eV,ae];exact fun k j _ hj=>xY _ hx.symm k j hj
  simp only;omega
 have RP:i=a.length:=by omega
 subst RP;simp only[vx,T,seval];exact xv rfl
theorem rF (a:El)(hl:a.length<2^38):Pr prog 174 [eV a] (eV a):=by
 refine pw func174 ⟨[0,2,4],[]⟩ ?_;simp only[Tryz.f174,ntmps174,iz,seval];simp only[vx,T,seval,eV,ae];intro b hb;refine Lg ?_;simp only[vx,T,seval];refine⟨fun g=>Lg ?_,fun g=>Lg ?_⟩
 ·simp only[vx,T,seval];have h0:a=[]:=by
   cases a with
   |nil=>rfl
   |cons x xs=>have:=hb (by simp);rw[this]at g;cases g
  subst h0;exact fB.cell (.pN _ _)
 simp only[vx,T,seval];exact⟨⟨by omega,by omega⟩,fB.refl _⟩
def nV (h:Nat)(t:List El)(a:El):V:=.agg [tC h t,ae a]
theorem uT (q:Rat)(hq:qm q<2^40)(t:List El):Pr prog 71 [QV q] (nV 0 t [q]):=by
 have c:=pM q hq;refine pw func71 ⟨[0,1,2],[]⟩ ?_;simp only[Tryz.f71,ntmps71,iz,seval];simp only[vx,T,seval,QV,QC];refine Cg c ?_;simp only[vx,T,seval,QV,QC];refine fB.Ps (.pN _ _) (.rows rfl fun i j hi hj=>.of_eq ?_);obtain rfl:i=0:=by omega
 show List.getD _ (0*4+j) _=_;rw[Nat.zero_mul,Nat.zero_add];exact dH q rfl j
open Go Go.Eng
open Go.Tw (El aE aH zE ai au ar aq aa QB cJ ah ag)
def JE (a b:Rat):Int:=eX (a.num*b.den) (b.num*a.den)
theorem kZ {a:Int}{n:Nat}(h:0<n):b9 (a*n)=b9 a:=by
 rcases Int.lt_trichotomy a 0 with h0|h0|h0
 ·have:a*n<0:=Int.mul_neg_of_neg_of_pos h0 (by omega)
  unfold b9;rw[if_neg (by omega),if_pos this,if_neg (by omega),if_pos h0]
 ·subst h0;rw[Int.zero_mul]
 have:0<a*n:=Int.mul_pos h0 (by omega)
 unfold b9;rw[if_neg (by omega),if_neg (by omega),if_neg (by omega),if_neg (by omega)]
theorem D6 {a b:Rat}(h:¬b9 a.num=b9 b.num):eX (b9 a.num) (b9 b.num)=JE a b:=by
 unfold JE;rw[←kZ (a:=a.num) b.den_pos,←kZ (a:=b.num) a.den_pos];rw[←kZ (a:=a.num) b.den_pos,←kZ (a:=b.num) a.den_pos]at h;exact Hg h
theorem A0 (a b:Rat)(ha:qm a<2^38)(hb:qm b<2^38):Pr prog 197 [QV a,QV b] (.one (.int .i64 (JE a b))):=by
 have ca:=jI a (by omega);have cb:=jI b (by omega);have na:zn a.num<2^38∧nl a.den<2^38:=by unfold qm at ha;omega
 have nb:zn b.num<2^38∧nl b.den<2^38:=by unfold qm at hb;omega
 have ma:=bK a.num (b.den:Int) (by omega) (by rw[aF];omega);have mb:=bK b.num (a.den:Int) (by omega) (by rw[aF];omega);have e1:=cY a.num (b.den:Int);have e2:=cY b.num (a.den:Int);rw[aF]at e1 e2;have cc:=qh (a.num*b.den) (b.num*a.den) (by omega) (by omega);refine pw func197 ⟨[0,1,2,3,4,5,6,13,16],[]⟩ ?_;simp only[Tryz.f197,ntmps197,iz,seval];simp only[vx,T,seval,QV,QC];refine Cg ca ?_;simp only[vx,T,seval,QV,QC];refine Cg cb ?_;simp only[vx,T,seval,QV,QC];refine⟨fun g=>Lg ?_,fun g=>Lg ?_⟩
 ·simp only[vx,T,seval,QV,QC];refine⟨fun g2=>Lg ?_,fun g2=>Lg ?_⟩
  ·simp only[vx,T,seval,QV,QC];exact Ve (by rw[←D6 g,gJ g2])
  simp only[vx,T,seval,QV,QC];exact Ve (by rw[←D6 g,iK (by omega)])
 simp only[vx,T,seval,QV,QC];refine Cg ma ?_;simp only[vx,T,seval,ZV];refine Cg mb ?_;simp only[vx,T,seval,ZV];refine Cg cc ?_;simp only[vx,T,seval,ZV];exact Ve rfl
end Go.Proofs.YtchkplkghknabaaGreat
namespace Go.Eng
open Go
end Go.Eng
namespace Go.Eng
open Go
theorem G7 {z:Int}(h:z.natAbs<18446744073709551616):qm (Rat.ofInt z)≤2:=by
 have h1:zn z≤2:=aD (by unfold BB;omega);have h2:nl 1≤1:=aD (by decide);unfold qm;rw[Rat.ofInt_num,Rat.ofInt_den];omega
end Go.Eng
namespace Go.Eng
open Go
theorem nr {n:Nat}{f:Nat→Bool}:(List.range n).all f=true↔∀i,i<n→f i=true:=by
 simp[List.all_eq_true]
theorem rD {n:Nat}{f:Nat→Bool}{i:Nat}(h:i<n)(hf:f i=false):(List.range n).all f=false:=by
 cases hr:(List.range n).all f with
 |false=>rfl
 |true=>have:=nr.1 hr i h;rw[hf]at this;cases this
end Go.Eng
namespace Go.Proofs.YtchkplkghknabaaGreat
open Go.Proofs.Tryz
open Go Go.Eng
open Go.Tw (El aE aH zE ai au ar aq aa QB cJ ah ag)
def IZ (n m:Nat)(p:Nat→Bool):Bool:=decide (n=m)&&(List.range n).all p
theorem HG {n m:Nat}{p:Nat→Bool}(h:¬(n:Int)=m):IZ n m p=false:=by unfold IZ;rw[decide_eq_false (by omega),Bool.false_and]
theorem GR (f:FuncId)(p:Nat→Bool)(xs ys:List Rat)(hl:xs.length<2^38)(hf:∀i,i<xs.length→Pr prog f [QV (xs.getD i default),QV (ys.getD i default)] (.one (.bool (p i)))):
  Pr prog 195 [eV xs,eV ys,.one (.fn f 0 (fun _=>.any))] (.one (.bool (IZ xs.length ys.length p))):=by
 refine pw func195 ⟨[0,1,2,6,7,8,9,14,15,16,17,18,30],[]⟩ ?_;simp only[Tryz.f195,ntmps195,iz,seval];simp only[vx,T,seval,eV,ae];refine⟨fun g=>Lg ?_,fun g=>Lg ?_⟩
 ·simp only[vx,T,seval];exact vb (HG g).symm
 have hxy:xs.length=ys.length:=by omega
 simp only[vx,T,seval,eV,ae];refine Lk (fun y:{i:Nat//i≤xs.length∧∀k,k<i→p k=true}=>⟨[(1,eV ys),(2,.one (.fn f 0 (fun _=>.any))),(15,eV xs),(16,.one (.int .i64 xs.length)),(17,.one (.int .i64 y.1))],[],1,32⟩) (fun y=>xs.length-y.1) ⟨0,Nat.zero_le _,fun k h=>absurd h (Nat.not_lt_zero _)⟩ ?_ (fun⟨i,hi,hz⟩=>?_)
 ·refine Sa ?_;simp only[ry,seval,rz,eV,ae]
 have i1:=wI i (by omega);simp only[vx,T,seval,eV,ae];refine⟨fun h1=>Lg ?_,fun h1=>Lg ?_⟩
 ·have Vp:=hf i (by omega);obtain⟨a,ha⟩:∃a,a=xs.getD i default:=⟨_,rfl⟩;obtain⟨b,hb⟩:∃b,b=ys.getD i default:=⟨_,rfl⟩;rw[←ha,←hb]at Vp;simp only[vx,T,seval,eV,ae,←ha,←hb,qC];refine⟨by omega,by omega,Cg Vp ?_⟩;simp only[vx,T,seval];refine⟨fun h2=>Lg ?_,fun h2=>Lg ?_⟩
  ·simp only[vx,T,seval];have h2:p i=false:=by simpa using h2
   exact vb (by unfold IZ;rw[rD (by omega) h2,Bool.and_false])
  simp only[vx,T,seval];simp only[i1];refine Lq ⟨i+1,by omega,fun k hk=>?_⟩ ?_ ?_
  ·by_cases h3:k<i
   ·exact hz k h3
   rw[show k=i by omega];simpa using h2
  ·refine Sa ?_;simp only[ry,seval,rz,eV,ae]
  simp only;omega
 simp only[vx,T,seval];exact vb (by unfold IZ;rw[decide_eq_true hxy,Bool.true_and];exact(nr.2 fun k hk=>hz k (by omega)).symm)
theorem HB (f:FuncId)(p:Nat→Bool)(t u:List El)(n m:Nat)(hl:n<2^38)(hf:∀i,i<n→i<m→Pr prog f [eV (t.getD i []),eV (u.getD i [])] (.one (.bool (p i)))):
  Pr prog 172 [tV n t,tV m u,.one (.fn f 0 (fun _=>.any))] (.one (.bool (IZ n m p))):=by
 refine pw func172 ⟨[0,1,2,6,7,8,9,14,15,16,17,18,30],[]⟩ ?_;simp only[Tryz.f172,ntmps172,iz,seval];simp only[vx,T,seval,tV,tC,eV,ae];refine⟨fun g=>Lg ?_,fun g=>Lg ?_⟩
 ·simp only[vx,T,seval];exact vb (HG g).symm
 have hxy:n=m:=by omega
 simp only[vx,T,seval,tV,tC,eV,ae];refine Lk (fun y:{i:Nat//i≤n∧∀k,k<i→p k=true}=>⟨[(1,tV m u),(2,.one (.fn f 0 (fun _=>.any))),(15,tV n t),(16,.one (.int .i64 n)),(17,.one (.int .i64 y.1))],[],1,32⟩) (fun y=>n-y.1) ⟨0,Nat.zero_le _,fun k h=>absurd h (Nat.not_lt_zero _)⟩ ?_ (fun⟨i,hi,hz⟩=>?_)
 ·refine Sa ?_;simp only[ry,seval,rz,tV,tC,eV,ae]
 have i1:=wI i (by omega);simp only[vx,T,seval,tV,tC,eV,ae];refine⟨fun h1=>Lg ?_,fun h1=>Lg ?_⟩
 ·have Vp:=hf i (by omega) (by omega);simp only[vx,T,seval,tV,tC,eV,ae];refine⟨by omega,by omega,Cg Vp ?_⟩;simp only[vx,T,seval];refine⟨fun h2=>Lg ?_,fun h2=>Lg ?_⟩
  ·simp only[vx,T,seval];have h2:p i=false:=by simpa using h2
   exact vb (by unfold IZ;rw[rD (by omega) h2,Bool.and_false])
  simp only[vx,T,seval];simp only[i1];refine Lq ⟨i+1,by omega,fun k hk=>?_⟩ ?_ ?_
  ·by_cases h3:k<i
   ·exact hz k h3
   rw[show k=i by omega];simpa using h2
  ·refine Sa ?_;simp only[ry,seval,rz,tV,tC,eV,ae]
  simp only;omega
 simp only[vx,T,seval];exact vb (by unfold IZ;rw[decide_eq_true hxy,Bool.true_and];exact(nr.2 fun k hk=>hz k (by omega)).symm)
open Go Go.Eng
open Go.Tw (El aE aH zE ai au ar aq aa QB cJ ah ag)
theorem nu {h:Nat}{t:List El}(tk:Tk h t)(a b:El)(ha:a.length=2^h)(hb:b.length=2^h)(hq:Qk a)(Th:Qk b):Pr prog 178 [tV h t,eV a,eV b] (eV (aE a b)):=by
 have hp:=aN tk.le8;have c:=kV tk a b ha hb hq Th;have d:=(kD a b (by omega) (by omega) hq Th).rows;refine pw func178 ⟨[0,1,2,6,11],[]⟩ ?_;simp only[Tryz.f178,ntmps178,iz,seval];simp only[vx,T,seval,tV,tC,eV,ae];refine Cg c ?_;simp only[vx,T,seval,tV,tC,eV,ae];refine Cg d ?_;simp only[vx,T,seval,tV,tC,eV,ae];exact Ve rfl
theorem wE {h:Nat}{t:List El}(tk:Tk h t)(a:El)(ha:a.length=2^h)(hq:Qk a):Pr prog 83 [tV h t,eV a] (eV (aH a)):=by
 have hp:=aN tk.le8;have c:=dG tk a ha hq;have d:=(mW a (by omega) hq).rows;refine pw func83 ⟨[0,1,4,8],[]⟩ ?_;simp only[Tryz.f83,ntmps83,iz,seval];simp only[vx,T,seval,tV,tC,eV,ae];refine Cg c ?_;simp only[vx,T,seval,tV,tC,eV,ae];refine Cg d ?_;simp only[vx,T,seval,tV,tC,eV,ae];exact Ve rfl
theorem ft {h X:Nat}{t:List El}(hX:X<2^37)(tk:Tk h t)(a b:El)(ha:a.length=2^h)(hb:b.length=2^h)(hm:cJ X h t a b):Pr prog 144 [tV h t,eV a,eV b] (eV (ai h t a b)):=by
 have c:=kV tk a b ha hb (.of hm.q.1 (by omega)) (.of hm.q.2.1 (by omega));have d:=(iX hX tk ha hb hm).rows;refine pw func144 ⟨[0,1,2,6,11],[]⟩ ?_;simp only[Tryz.f144,ntmps144,iz,seval];simp only[vx,T,seval,tV,tC,eV,ae];refine Cg c ?_;simp only[vx,T,seval,tV,tC,eV,ae];refine Cg d ?_;simp only[vx,T,seval,tV,tC,eV,ae];exact Ve rfl
theorem zF (a b:Rat)(ha:qm a<2^38)(hb:qm b<2^38):Pr prog 196 [QV a,QV b] (.one (.bool (decide (a=b)))):=by
 have c:=A0 a b ha hb;refine pw func196 ⟨[0,1,2,3,4],[]⟩ ?_;simp only[Tryz.f196,ntmps196,iz,seval];simp only[vx,T,seval,QV,QC];refine Cg c ?_;simp only[vx,T,seval,QV,QC];refine vb (decide_eq_decide.2 ?_);unfold JE;rw[DT]
 constructor
 ·intro h;rw[←Rat.mkRat_self a,←Rat.mkRat_self b];exact(Rat.mkRat_eq_iff a.den_nz b.den_nz).2 h
 rintro rfl;rfl
open Go Go.Eng
open Go.Tw (El aE aH zE ai au ar aq aa QB cJ ah ag)
def Hc (a b:El):Bool:=IZ a.length b.length fun i=>decide (a.getD i default=b.getD i default)
theorem EF {a b:El}:Hc a b=true↔a=b:=by
 unfold Hc IZ;rw[Bool.and_eq_true,decide_eq_true_eq,nr]
 constructor
 ·rintro⟨h1,h2⟩;refine List.ext_getElem h1 fun i g1 g2=>?_
  have:=of_decide_eq_true (h2 i g1)
  rwa [eN g1,eN g2]at this
 rintro rfl;exact⟨rfl,fun i _=>decide_eq_true rfl⟩
theorem Fe (a b:El)(hl:a.length<2^38)(ha:Qk a)(hb:Qk b):Pr prog 173 [eV a,eV b] (.one (.bool (decide (a=b)))):=by
 have c:=GR 196 (fun i=>decide (a.getD i default=b.getD i default)) a b hl (fun i _=>zF _ _ (ha.get i) (hb.get i));have e:decide (a=b)=Hc a b:=by rw[Bool.eq_iff_iff,decide_eq_true_eq,EF]
 rw[e];refine pw func173 ⟨[0,1,4],[]⟩ ?_;simp only[Tryz.f173,ntmps173,iz,seval];simp only[vx,T,seval,eV,ae];refine Cg c ?_;simp only[vx,T,seval];exact Ve rfl
def fa (h k:Nat)(t u:List El):Bool:=decide (k≤h)&&(List.range k).all fun i=>decide (t.getD i []=u.getD i [])
theorem mP {h k:Nat}{t u:List El}(tk:Tk h t)(uk:Tk k u):Pr prog 137 [tV h t,tV k u] (.one (.bool (fa h k t u))):=by
 have h8:=tk.le8;have k8:=uk.le8;have c:=HB 173 (fun i=>decide (t.getD i []=u.getD i [])) t u k k (by omega);refine pw func137 ⟨[0,1,4],[]⟩ ?_;simp only[Tryz.f137,ntmps137,iz,seval];simp only[vx,T,seval,tV,tC,eV,ae];refine⟨fun g=>Lg ?_,fun g=>Lg ?_⟩
 ·have hf:∀i,i<k→i<k→Pr prog 173 [eV (t.getD i []),eV (u.getD i [])] (.one (.bool (decide (t.getD i []=u.getD i [])))):=fun i hi _=>
   Fe _ _ (by rw[tk.len i (by omega)];exact aN (by omega)) (tk.q i (by omega)) (uk.q i hi)
  simp only[vx,T,seval,tV,tC,eV,ae];refine⟨by omega,Cg (c hf) ?_⟩;simp only[vx,T,seval];exact vb (by unfold fa IZ;rw[decide_eq_true rfl,decide_eq_true (by omega:k≤h)])
 simp only[vx,T,seval];exact vb (by unfold fa;rw[decide_eq_false (by omega:¬k≤h)];rfl)
end Go.Proofs.YtchkplkghknabaaGreat
namespace Go.Tw
open Go Go.Eng
theorem sB (x:Rat):(if 0<x then 1 else if x<0 then-1 else 0:Int)=Go.Eng.b9 x.num:=by
 have h1:0≤x.num↔0≤x:=Rat.num_nonneg;have h2:x.num=0↔x=0:=Rat.num_eq_zero;unfold Go.Eng.b9
 by_cases h0:x=0
 ·rw[if_pos (h2.2 h0),h0,if_neg (Rat.lt_irrefl),if_neg (Rat.lt_irrefl)]
 rw[if_neg (fun h=>h0 (h2.1 h))]
 by_cases hp:0≤x
 ·rw[if_pos (Rat.lt_of_le_of_ne hp (Ne.symm h0)),if_neg (by have:=h1.2 hp;omega)]
 rw[if_neg (fun h=>hp (Rat.le_of_lt h)),if_pos (Rat.not_le.1 hp),if_pos (by have:=mt h1.1 hp;omega)]
theorem dE {h:Nat}{t:List El}:∀{a:El},-1≤bn h t a∧bn h t a≤1:=by
 induction h with
 |zero=>
  intro a;unfold bn
  split
  ·omega
  split<;>omega
 |succ h ih=>
  intro a;rw[bn]
  split
  ·exact ih
  split
  ·exact ih
  have h1:=@ih (a.take (2^h));have h2:=@ih (aO h t a);have e:∀x y:Int,-1≤x∧x≤1→ -1≤y∧y≤1→ -1≤x*y∧x*y≤1:=fun x y hx hy=>by
   have:x= -1∨x=0∨x=1:=by omega
   rcases this with rfl|rfl|rfl<;>omega
  exact e _ _ h1 h2
theorem nf {h:Nat}{t:List El}(a:El):aE (ai h t (a.take (2^h)) (a.take (2^h))) (aH (ai h t (t.getD h []) (ai h t (a.drop (2^h)) (a.drop (2^h)))))=aO h t a:=by
 unfold aO;rw[kb (t.getD h [])]
end Go.Tw
namespace Go.Proofs.YtchkplkghknabaaGreat
open Go.Proofs.Tryz
open Go Go.Eng
open Go.Tw (El aE aH zE ai au ar aq aa QB cJ ah ag aO aJ xA tB aU ay)
structure TQ (h:Nat) (t:List El):Prop where
 tk:Tk h t
 h6:h≤6
 q:∀i,i<h→QB tB (t.getD i [])
theorem TQ.le {h k:Nat}{t:List El}(W:TQ h t)(hk:k≤h):TQ k t:=⟨W.tk.le hk,by have:=W.h6;omega,fun i hi=>W.q i (by omega)⟩
theorem rm {h:Nat}{t:List El}(tk:Tk h t)(a b:El)(ha:a.length=2^h)(hb:b.length=2^h)(hq:Qk a)(Th:Qk b):Pr prog 181 [tV h t,eV a,eV b] (eV (aE a (aH b))):=by
 have hp:=aN tk.le8;have c:=kV tk a b ha hb hq Th;have Z5:Qk (aH b):=fun x hx=>by
  obtain⟨y,hy,rfl⟩:=List.mem_map.1 hx;rw[Go.Tw.A8];exact Th y hy
 have d:=(mW b (by omega) Th).rows;have e:=(kD a (aH b) (by omega) (by rw[ar];omega) hq Z5).rows;refine pw func181 ⟨[0,1,2,6,11],[]⟩ ?_;simp only[Tryz.f181,ntmps181,iz,seval];simp only[vx,T,seval,tV,tC,eV,ae];refine Cg c ?_;simp only[vx,T,seval,tV,tC,eV,ae];refine Cg d ?_;simp only[vx,T,seval,tV,tC,eV,ae];refine Cg e ?_;simp only[vx,T,seval,tV,tC,eV,ae];exact Ve rfl
theorem sQ {h X:Nat}{t:List El}(W:TQ (h+1) t)(a:El)(ha:a.length=2^(h+1))(hX:X<2^37)(hN:xA X h t a):Fr prog 210 [tV (h+1) t,eV a] (.rows 62 4 (aO h t a).length (fQ (aO h t a))):=by
 have W':=W.le (Nat.le_succ h);have h6:=W.h6;have cs:=mg (h:=h) (t:=t) (by omega);have ch:=iG (h:=h) (by omega) ha;have Ss:=ah ha;have So:=ag ha;have hp:=aN W'.tk.le8;have hr:=W.tk.len h (by omega);obtain⟨k1,k2,k3⟩:=hN;have m1:=iX hX W'.tk Ss Ss k1;have m2:=iX hX W'.tk So So k2;have m3:=iX hX W'.tk aa hr k3;have g1:=k1.q.2.2;have g3:=k3.q.2.2;obtain⟨x,hx⟩:∃x,x=a.take (2^h):=⟨_,rfl⟩;obtain⟨y,hy⟩:∃y,y=a.drop (2^h):=⟨_,rfl⟩;obtain⟨r,RM⟩:∃r,r=t.getD h []:=⟨_,rfl⟩;have em:aO h t a=aE (ai h t x x) (aH (ai h t (ai h t y y) r)):=by rw[hx,hy,RM];rfl
 rw[←hx,←hy]at ch;rw[←RM]at cs hr m3 g3;rw[←hx]at m1 g1;rw[←hy]at m2 m3 g3;have n1:=mW _ (by rw[aa];omega) (Qk.of g3 (by omega));have a1:=kD _ (aH (ai h t (ai h t y y) r)) (by rw[aa];omega) (by rw[ar,aa,aa]) (Qk.of g1 (by omega)) (Qk.of g3.neg (by omega));rw[←em]at a1;clear em ha k1 k2 k3;have m1:=m1.rows;have m2:=m2.rows;have m3:=m3.rows;have n1:=n1.rows;refine fw func210 ⟨[0,1,4,5,6,7,8],[]⟩ ?_;simp only[Tryz.f210,ntmps210,iz,seval];simp only[vx,T,seval,tV,tC,eV,ae];refine Cg cs ?_;simp only[vx,T,seval,tV,tC,eV,ae];refine Cg ch ?_;simp only[vx,T,seval,tV,tC,eV,ae];refine Cg m1 ?_;simp only[vx,T,seval,tV,tC,eV,ae];refine Cg m2 ?_;simp only[vx,T,seval,tV,tC,eV,ae];refine Cg m3 ?_;simp only[vx,T,seval,tV,tC,eV,ae];refine Cg n1 ?_;simp only[vx,T,seval,tV,tC,eV,ae];refine cK.fresh a1 ?_;simp only[vx,T,seval,tV,tC,eV,ae];exact⟨rfl,rfl,fun _ _ _ _=>rfl⟩
theorem tO {h X:Nat}{t:List El}(W:TQ (h+1) t)(a:El)(ha:a.length=2^(h+1))(hX:X<2^37)(hq:QB X a)(hN:xA X h t a):Pr prog 230 [tV (h+1) t,eV a] (eV (aO h t a)):=by
 have c:=dG W.tk a ha (.of hq (by omega));have d:=(sQ W a ha hX hN).rows;refine pw func230 ⟨[0,1,4,13],[]⟩ ?_;simp only[Tryz.f230,ntmps230,iz,seval];simp only[vx,T,seval,tV,tC,eV,ae];refine Cg c ?_;simp only[vx,T,seval,tV,tC,eV,ae];refine⟨fun h=>absurd h (by omega),fun _=>Lg ?_⟩;simp only[vx,T,seval,tV,tC,eV,ae];refine Cg d ?_;simp only[vx,T,seval,tV,tC,eV,ae];exact Ve rfl
theorem LN (h:Nat)(q:Rat)(k j:Nat)(hj:j<4):
  bt (fQ (zE (2^h))) 0 0 [C.bool (zs q.num),C.ints .u32 (zm q.num),C.bool (zs (q.den:Int)),C.ints .u32 (zm (q.den:Int))] k j=fQ (aU h q) k j:=by
 have hp:0<2^h:=Nat.pow_pos (by decide);unfold bt
 by_cases hk:k=0
 ·subst hk;rw[if_pos rfl,if_pos (Nat.zero_le _),if_pos (by simpa using hj),Nat.sub_zero];exact dH q rfl j
 rw[if_neg hk];unfold fQ aU
 congr 1
 rw[X7,X7,List.getElem?_cons,if_neg hk];unfold zE;rw[List.getElem?_replicate,List.getElem?_replicate]
 by_cases h2:k<2^h
 ·rw[if_pos h2,if_pos (by omega)]
 rw[if_neg h2,if_neg (by omega)]
theorem eF {h:Nat}{t:List El}(tk:Tk h t)(q:Rat)(hq:qm q<2^38):Pr prog 176 [tV h t,QV q] (eV (aU h q)):=by
 have c:=ju tk;have d:=wy q (by omega);have hp:=aN tk.le8;have z:=ox (2^h) hp;have w:=dO tk.le8;have hz:(zE (2^h)).length=2^h:=au;have hp0:0<2^h:=Nat.pow_pos (by decide);refine pw func176 ⟨[0,1,3,4,5,13],[]⟩ ?_;simp only[Tryz.f176,ntmps176,iz,seval];simp only[vx,T,seval,tV,tC,QV,QC];refine Cg c ?_;simp only[vx,T,seval,tV,tC];refine Cg d ?_;simp only[vx,T,seval,tV,tC,w];refine⟨Int.natCast_nonneg _,cK.fresh z ?_⟩;simp only[vx,T,seval,tV,tC,QV,QC];exact⟨by omega,fB.cell (dB.rows (by rw[hz,Go.Tw.ay]) (fun i j _ hj=>dB.of_eq (LN h q i j hj)))⟩
open Go Go.Eng
open Go.Tw (El aE aH zE ai au ar aq aa QB cJ ah ag aO aJ tB aU ay bn g9 dE sB nf)
theorem fv {a:El}{n:Nat}(h:n≤a.length):dB (.rows 4 n (fun i=>qC (a.getD i default))) (ae (a.take n)):=
 dB.rows (by rw[X5];omega) fun i j hi _=>dB.of_eq (Dk hi j)
theorem eQ {a:El}{n:Nat}:dB (.rows 4 (a.length-n) (fun i=>qC (a.getD (n+i) default))) (ae (a.drop n)):=
 dB.rows (by rw[List.length_drop]) fun i j _ _=>dB.of_eq (DW i j)
theorem Ot {t:List El}{a:El}(ha:a.length=2^0)(hq:Qk a):Pr prog 142 [tV 0 t,eV a] (.one (.int .i64 (bn 0 t a))):=by
 obtain⟨x,rfl⟩:=Go.Tw.bx ha;have hx:qm x<2^38:=hq x (by simp);have e:bn 0 t [x]=b9 x.num:=sB x;have c:=jI x (by omega);rw[e];refine pw func142 ⟨[0,1,4,5,6,7,8,9,10,11,12,15,41,50],[(4,.nil)]⟩ ?_;simp only[Tryz.f142,ntmps142,iz,seval];simp only[vx,T,seval,tV,tC,eV,ae,qC,X0];refine Cg c ?_;simp only[vx,T,seval,ae];exact Ve rfl
theorem jc {X:Nat}(hX:X<2^37){t:List El}:∀{h:Nat} {a:El},TQ h t→a.length=2^h→g9 X h t a→Pr prog 142 [tV h t,eV a] (.one (.int .i64 (bn h t a)))
 |0,a,_,ha,hi=>Ot ha (.of hi.qb (by omega))
 |h+1,a,W,ha,hi=>by
  have W':=W.le (Nat.le_succ h);obtain⟨Ul,⟨k1,k2,k3⟩,i1,i2,i3⟩:=hi;have Ss:=ah ha;have So:=ag ha;have v1:=jc hX W' Ss i1;have v2:=jc hX W' So i2;have v3:=jc hX W' aJ i3;have h6:=W.h6;have hp:=aN W'.tk.le8;have hr:=W.tk.len h (by omega);have m1:=ft hX W'.tk _ _ Ss Ss k1;have m2:=ft hX W'.tk _ _ So So k2;have m3:=ft hX W'.tk _ _ hr aa k3.comm;have su:=rm W'.tk _ _ aa aa (Qk.of k1.q.2.2 (by omega)) (Qk.of k3.comm.q.2.2 (by omega));rw[nf]at su;have hn:(2^h:Nat)≤a.length:=by rw[ha,Nat.pow_succ];omega
  have RF:a.length-2^h=(a.drop (2^h)).length:=by rw[List.length_drop]
  have cT:=fv hn;have cD:=eQ (a:=a) (n:=2^h);have v1:=v1.args (xs:=[tV h t,.one (.rows 4 (2^h) (fun i=>qC (a.getD i default)))]) ⟨.refl _,.cell cT,trivial⟩;have v2:=v2.args (xs:=[tV h t,.one (.rows 4 (a.length-2^h) (fun i=>qC (a.getD (2^h+i) default)))]) ⟨.refl _,.cell cD,trivial⟩;have m1:=m1.args (xs:=[tV h t,.one (.rows 4 (2^h) (fun i=>qC (a.getD i default))),.one (.rows 4 (2^h) (fun i=>qC (a.getD i default)))]) ⟨.refl _,.cell cT,.cell cT,trivial⟩;have m2:=m2.args (xs:=[tV h t,.one (.rows 4 (a.length-2^h) (fun i=>qC (a.getD (2^h+i) default))),.one (.rows 4 (a.length-2^h) (fun i=>qC (a.getD (2^h+i) default)))]) ⟨.refl _,.cell cD,.cell cD,trivial⟩;obtain⟨n,RS⟩:∃n,n=2^h:=⟨_,rfl⟩;have R4:a.length=2*n:=by rw[ha,Nat.pow_succ,RS];omega
  have e:bn (h+1) t a=if bn h t (a.drop (2^h))=0∨bn h t (a.take (2^h))=bn h t (a.drop (2^h))then bn h t (a.take (2^h))else if bn h t (a.take (2^h))=0 then bn h t (a.drop (2^h))else bn h t (a.take (2^h))*bn h t (aO h t a):=rfl
  have r1:=@dE h t (a.take (2^h));have r3:=@dE h t (aO h t a);obtain⟨s1,UB⟩:∃s,s=bn h t (a.take (2^h)):=⟨_,rfl⟩;obtain⟨s2,TZ⟩:∃s,s=bn h t (a.drop (2^h)):=⟨_,rfl⟩;obtain⟨s3,XM⟩:∃s,s=bn h t (aO h t a):=⟨_,rfl⟩;rw[←UB,←TZ,←XM]at e;rw[←UB]at v1 r1;rw[←TZ]at v2;rw[←XM]at v3 r3;rw[e];rw[←RS]at v1 v2 m1 m2 su m3 hp;have w1:IntKind.i64.wrap (((h+1:Nat):Int)-1)=(h:Int):=by rw[IntWalk.i64_in _ (by omega)];omega
  have w2:IntKind.i64.wrap (((a.length:Nat):Int).tdiv 2)=(n:Int):=by
   rw[R4,Int.tdiv_eq_ediv_of_nonneg (by omega),IntWalk.i64_in _ (by omega)];omega
  have w4:((a.length:Int)-(n:Int)).toNat=a.length-n:=by omega
  have w3:IntKind.i64.wrap (s1*s3)=s1*s3:=by
   rw[IntWalk.i64_in]
   have:s1= -1∨s1=0∨s1=1:=by omega
   rcases this with h|h|h<;>rw [h]<;>omega
  obtain⟨r,RM⟩:∃r,r=t.getD h []:=⟨_,rfl⟩;rw[←RM]at m3 su;clear Ul i1 i2 i3 Ss So k1 k2 k3 hr UB TZ XM cT cD W;refine pw func142 ⟨[0,1,4,5,6,7,8,9,10,11,12,15,41,50],[(4,.nil)]⟩ ?_;simp only[Tryz.f142,ntmps142,iz,seval];simp only[vx,T,seval,tV,tC,eV,ae,w1,w2];refine⟨fun h=>absurd h (by omega),fun _=>Lg ?_⟩;simp only[vx,T,seval,tV,tC,eV,ae,w1,w2];refine⟨⟨by omega,by omega⟩,⟨by omega,by omega⟩,⟨by omega,by omega,by omega⟩,Cg v1 ?_⟩;simp only[vx,T,seval,tV,tC,eV,ae,w1,w2,w4];refine Cg v2 ?_;simp only[vx,T,seval,tV,tC,eV,ae,w1,w2,w4];refine⟨fun k2=>Lg ?_,fun k2=>Lg ?_⟩
  ·rw[if_pos (.inl k2)];simp only[vx,T,seval,tV,tC,eV,ae,w1,w2,w4];exact Ve rfl
  simp only[vx,T,seval,tV,tC,eV,ae,w1,w2,w4];refine⟨fun k3=>Lg ?_,fun k3=>Lg ?_⟩
  ·rw[if_pos (.inr k3)];simp only[vx,T,seval,tV,tC,eV,ae,w1,w2,w4];exact Ve rfl
  rw[if_neg (not_or.2 ⟨k2,k3⟩)];simp only[vx,T,seval,tV,tC,eV,ae,w1,w2,w4];refine⟨fun k1=>Lg ?_,fun k1=>Lg ?_⟩
  ·rw[if_pos k1];simp only[vx,T,seval,tV,tC,eV,ae,w1,w2,w4];exact Ve rfl
  rw[if_neg k1];simp only[vx,T,seval,tV,tC,eV,ae,w1,w2,w4];refine Cg m1 ?_;simp only[vx,T,seval,tV,tC,eV,ae,w1,w2,w4,←RM];refine⟨⟨by omega,by omega⟩,Cg m2 ?_⟩;simp only[vx,T,seval,tV,tC,eV,ae,w1,w2,w4,←RM];refine Cg m3 ?_;simp only[vx,T,seval,tV,tC,eV,ae,w1,w2,w4,←RM];refine Cg su ?_;simp only[vx,T,seval,tV,tC,eV,ae,w1,w2,w4,←RM];refine Cg v3 ?_;simp only[vx,T,seval,tV,tC,eV,ae,w1,w2,w4,w3,←RM];exact Ve rfl
open Go Go.Eng
open Go.Tw (El aE aH zE ai au ar aq aa QB cJ ah ag aO aJ tB aU ay bn g9 dE Rl val)
structure xu (X h:Nat) (t:List El):Prop where
 tq:TQ h t
 s:∀i,i<h→g9 X i t (t.getD i [])
 p:∀i,i<h→0<bn i t (t.getD i [])
theorem xu.le {X h k:Nat}{t:List El}(W:xu X h t)(hk:k≤h):xu X k t:=⟨W.tq.le hk,fun i hi=>W.s i (by omega),fun i hi=>W.p i (by omega)⟩
theorem EO {X h:Nat}(hX:X<2^37){t:List El}(W:xu X h t):Pr prog 179 [tV h t] (.one (.bool true)):=by
 have h3:=W.tq.h6;have z:=cO 0 (by decide) (by decide);have f:=eF W.tq.tk (Rat.ofInt 0) (by decide+kernel);have hqz:Qk (aU h (Rat.ofInt 0)):=fun x hx=>by
  unfold aU at hx
  rcases List.mem_cons.1 hx with rfl|hx
  ·decide+kernel
  rw[List.eq_of_mem_replicate hx];decide+kernel
 have g:=dG W.tq.tk (aU h (Rat.ofInt 0)) ay hqz;have v:∀i,i<h→Pr prog 142 [tV i t,eV (t.getD i [])] (.one (.int .i64 (bn i t (t.getD i [])))):=fun i hi=>
  jc hX (W.tq.le (by omega)) (W.tq.tk.len i hi) (W.s i hi)
 refine pw func179 ⟨[0,2,3,4,10,11,12,13,14,23],[]⟩ ?_;simp only[Tryz.f179,ntmps179,iz,seval];simp only[vx,T,seval,tV,tC,ae];refine Cg z ?_;simp only[vx,T,seval,tV,tC,QV,QC];refine Cg f ?_;simp only[vx,T,seval,tV,tC,eV,ae];refine Cg g ?_;simp only[vx,T,seval,tV,tC,eV,ae];have h0:h<2^60:=by omega
 refine Lk (fun y:{i:Nat//i≤h}=>⟨[(0,tV h t),(2,.one (.bool false)),(11,tV h t),(12,.one (.int .i64 h)),(13,.one (.int .i64 y.1))],[],2,25⟩) (fun y=>h-y.1) ⟨0,Nat.zero_le _⟩ ?_ (fun⟨i,hi⟩=>?_)
 ·refine Sa ?_;simp only[ry,seval,rz,tV,tC,ae]
 simp only;have wi:=wI i (by omega);simp only[vx,T,seval,tV,tC,ae];refine⟨fun k=>Lg ?_,fun k=>Lg ?_⟩
 ·have RE:i<h:=by omega
  have vi:=v i RE;have pi:=W.p i RE;simp only[vx,T,seval,tV,tC,ae];refine⟨⟨by omega,by omega⟩,⟨by omega,by omega⟩,Cg vi ?_⟩;simp only[vx,T,seval,tV,tC,ae];refine⟨fun hh=>absurd hh (by omega),fun _=>Lg ?_⟩;simp only[vx,T,seval,tV,tC,ae,wi];refine Lq ⟨i+1,by omega⟩ ?_ (by show h-(i+1)<h-i;omega);refine Sa ?_;simp only[ry,seval,rz,tV,tC,ae]
 simp only[vx,T,seval,tV,tC,ae];exact Ve rfl
theorem Fz {X h:Nat}(hX:X<2^37){t l:List El}(W:xu X h t)(hl:l.length<2^60)(hf:∀i,i<l.length→(l.getD i []).length=2^h∧Qk (l.getD i [])):Pr prog 141 [tV h t,tV l.length l] (.one (.bool true)):=by
 have r:=EO hX W;have v:∀i,i<l.length→Pr prog 118 [tV h t,eV (l.getD i [])] (.one (.bool true)):=fun i hi=>dG W.tq.tk _ (hf i hi).1 (hf i hi).2;clear hf;refine pw func141 ⟨[0,1,4,6,7,8,9,10,16],[]⟩ ?_;simp only[Tryz.f141,ntmps141,iz,seval];simp only[vx,T,seval,tV,tC,ae];refine Lk (fun y:{i:Nat//i≤l.length}=>⟨[(0,tV h t),(1,tV l.length l),(4,.one (.bool false)),(7,tV l.length l),(8,.one (.int .i64 l.length)),(9,.one (.int .i64 y.1))],[],2,20⟩) (fun y=>l.length-y.1) ⟨0,Nat.zero_le _⟩ ?_ (fun⟨i,hi⟩=>?_)
 ·refine Sa ?_;simp only[ry,seval,rz,tV,tC,ae]
 simp only;have wi:=wI i (by omega);simp only[vx,T,seval,tV,tC,ae];refine⟨fun k=>Lg ?_,fun k=>Lg ?_⟩
 ·have RE:i<l.length:=by omega
  have vi:=v i RE;simp only[vx,T,seval,tV,tC,ae];refine⟨⟨by omega,by omega⟩,Cg vi ?_⟩;simp only[vx,T,seval,tV,tC,ae,wi];refine Lq ⟨i+1,by omega⟩ ?_ (by show l.length-(i+1)<l.length-i;omega);refine Sa ?_;simp only[ry,seval,rz,tV,tC,ae]
 simp only[vx,T,seval,tV,tC,ae];refine Cg r ?_;simp only[vx,T,seval,tV,tC,ae];exact Ve rfl
theorem nh {X h:Nat}(hX:X<2^37){t:List El}{a:El}(W:xu X h t)(ha:a.length=2^h)(hs:g9 X h t a):Pr prog 100 [tV h t,eV a] (.one (.int .i64 (bn h t a))):=by
 have v:=jc hX W.tq ha hs;have g:=Fz hX (l:=[a]) W (by show(1:Nat)<2^60;decide) (fun i hi=>by
  obtain rfl:i=0:=by
               have:i<1:=hi
               omega
  exact⟨ha,.of hs.qb (by omega)⟩)
 refine pw func100 ⟨[0,1,4,9],[]⟩ ?_;simp only[Tryz.f100,ntmps100,iz,seval];simp only[vx,T,seval,tV,tC,eV,ae];refine Cg (g.args ⟨.refl _,.cell (.rows rfl fun i j hi hj=>.of_eq ?_),trivial⟩) ?_
 ·obtain rfl:i=0:=by omega
  obtain rfl:j=0:=by omega
  rfl
 simp only[vx,T,seval,tV,tC,eV,ae];refine Cg v ?_;simp only[vx,T,seval,tV,tC,eV,ae];exact Ve rfl
end Go.Proofs.YtchkplkghknabaaGreat
namespace Go.Eng
def cI:Nat→Nat
 |0=>0
 |n+1=>if(cI n+1)*(cI n+1)≤n+1 then cI n+1 else cI n
theorem jz:∀n,cI n*cI n≤n∧n<(cI n+1)*(cI n+1)
 |0=>by decide
 |n+1=>by
  have⟨h1,h2⟩:=jz n
  rw[cI]
  split
  ·rename_i h
   refine⟨h,?_⟩;have e:(cI n+1+1)*(cI n+1+1)=(cI n+1)*(cI n+1)+2*cI n+3:=by
    simp only[Nat.mul_add,Nat.add_mul,Nat.mul_one,Nat.one_mul];omega
   rw[e];omega
  rename_i h
  exact⟨by omega,by omega⟩
theorem sY {n s:Nat}(h1:s*s≤n)(h2:n<(s+1)*(s+1)):cI n=s:=by
 have⟨k1,k2⟩:=jz n
 rcases Nat.lt_trichotomy (cI n) s with h|h|h
 ·have:=Nat.mul_le_mul (show cI n+1≤s by omega) (show cI n+1≤s by omega)
  omega
 ·exact h
 have:=Nat.mul_le_mul (show s+1≤cI n by omega) (show s+1≤cI n by omega)
 omega
theorem IP (s:Nat):cI (s*s)=s:=sY (Nat.le_refl _) (Nat.mul_lt_mul'' (Nat.lt_succ_self s) (Nat.lt_succ_self s))
theorem AU (n:Nat):cI n≤n:=by
 have:=(jz n).1
 rcases Nat.eq_zero_or_pos (cI n)with h|h
 ·omega
 exact Nat.le_trans (Nat.le_mul_of_pos_left _ h) this
theorem vR {a x:Nat}(hx:0<x):cI a≤(x+a/x)/2:=by
 have h:=(jz a).1;obtain⟨s,hs⟩:∃s,s=cI a:=⟨_,rfl⟩;rw[←hs]at h⊢;have key:2*s-x≤a/x:=by
  rw[Nat.le_div_iff_mul_le hx];refine Nat.le_trans ?_ h
  by_cases h0:2*s≤x
  ·rw[show 2*s-x=0 by omega,Nat.zero_mul];exact Nat.zero_le _
  by_cases h1:x≤s
  ·obtain⟨d,rfl⟩:=Nat.exists_eq_add_of_le h1;rw[show 2*(x+d)-x=x+2*d by omega];simp only[Nat.mul_add,Nat.add_mul,Nat.mul_assoc,Nat.two_mul]
   have:=Nat.mul_comm x d
   omega
  obtain⟨d,rfl⟩:=Nat.exists_eq_add_of_le (show s≤x by omega);obtain⟨e,rfl⟩:=Nat.exists_eq_add_of_le (show d≤s by omega);rw[show 2*(d+e)-(d+e+d)=e by omega];simp only[Nat.mul_add,Nat.add_mul]
  have:=Nat.mul_comm d e
  omega
 omega
theorem zV {a x:Nat}(hx:0<x)(h:x≤(x+a/x)/2):x*x≤a:=by
 have:x≤a/x:=by omega
 exact(Nat.le_div_iff_mul_le hx).1 this
theorem N6 {n b:Nat}(h:n<b*b):cI n<b:=by
 refine Nat.lt_of_not_le fun hl=>?_
 have:=Nat.mul_le_mul hl hl
 have:=(jz n).1
 omega
end Go.Eng
namespace Go.Eng
open Go
theorem qK (k:Nat):BB^k=2^(32*k):=by
 rw[show BB=2^32 from rfl,←Nat.pow_mul]
def ky (n:Nat):Nat:=32*(nl n-1)+bl (fg n)
theorem DH {n:Nat}(h:0<n):n<2^ky n:=by
 have h1:=(gS h).1;have h2:=(xD _ h1).2.1;unfold ky;rw[Nat.pow_add,←qK];have h3:n<(fg n+1)*BB^(nl n-1):=by
  unfold fg;rw[Nat.add_mul,Nat.one_mul,Nat.mul_comm];exact Nat.lt_mul_div_succ n (Nat.pow_pos (by decide))
 refine Nat.lt_of_lt_of_le h3 ?_;rw[Nat.mul_comm];exact Nat.mul_le_mul_left _ (by omega)
theorem yv {n:Nat}(h:0<n):ky n≤32*nl n:=by
 have h1:=gS h;have h2:bl (fg n)≤32:=y6 h1.2;have h3:=eH.2 h;unfold ky;omega
theorem Fb {n:Nat}(h:0<n):cI n<2^(ky n/2+1):=by
 refine N6 (Nat.lt_of_lt_of_le (DH h) ?_);rw[←Nat.pow_add];exact Nat.pow_le_pow_right (by decide) (by omega)
theorem Fk (n:Nat):(List.replicate (n/32+1) (0:Int)).set (n/32) ((2^(n%32):Nat):Int)=aj (2^n):=by
 have hw:2^(n%32)<2^32:=Nat.pow_lt_pow_right (by decide) (Nat.mod_lt _ (by decide));have hp:0<2^(n%32):=Nat.pow_pos (by decide);have Se:bI ((List.replicate (n/32+1) (0:Int)).set (n/32) ((2^(n%32):Nat):Int)):=(bI.replicate _).set _ ⟨by omega,by omega⟩;have hl:n/32<(List.replicate (n/32+1) (0:Int)).length:=by simp
 have hv:=dP (xs:=List.replicate (n/32+1) (0:Int)) (i:=n/32) (x:=((2^(n%32):Nat):Int)) hl;rw[cL,X7,List.getElem?_replicate]at hv;rw[if_pos (by omega),Int.toNat_natCast]at hv;have h0:((some (0:Int)).getD 0).toNat=0:=rfl;rw[h0,Nat.mul_zero,Nat.add_zero,Nat.zero_add,qK,←Nat.pow_add,Nat.div_add_mod]at hv;rw[←hv]
 refine(bY Se (.inr ?_)).symm
 rw[List.length_set,List.length_replicate,Nat.add_sub_cancel,X7,List.getElem?_set];rw[if_pos rfl,if_pos hl]
 show((2^(n%32):Nat):Int)≠0
 omega
end Go.Eng
namespace Go.Eng
open Go
def AH (x:Rat):Option Rat:=
 if 0≤x.num∧cI x.num.natAbs*cI x.num.natAbs=x.num.natAbs∧cI x.den*cI x.den=x.den then some (mkRat (cI x.num.natAbs) (cI x.den))else none
theorem Gv {a b n d:Nat}(ha:a*a=n)(hb:b*b=d)(h:n.Coprime d):a.Coprime b:=by
 subst ha hb;exact Nat.Coprime.coprime_dvd_left (Nat.dvd_mul_right a a) (Nat.Coprime.coprime_dvd_right (Nat.dvd_mul_right b b) h)
theorem N1 {a b:Nat}(h:a.Coprime b):(a*a).Coprime (b*b):=
 Nat.Coprime.mul_left (Nat.Coprime.mul_right h h) (Nat.Coprime.mul_right h h)
theorem pP {x r:Rat}(h:AH x=some r):r*r=x∧0≤x.num∧cI x.num.natAbs*cI x.num.natAbs=x.num.natAbs∧cI x.den*cI x.den=x.den∧r.num=(cI x.num.natAbs:Int)∧r.den=cI x.den:=by
 unfold AH at h
 split at h
 ·rename_i hc
  obtain⟨h0,h1,h2⟩:=hc;obtain rfl:=Option.some.inj h;have hb:cI x.den≠0:=fun e=>by rw[e]at h2;exact x.den_nz h2.symm
  have XN:(cI x.num.natAbs).Coprime (cI x.den):=Gv h1 h2 x.reduced;obtain⟨r0,S9⟩:∃r0:Rat,r0=⟨(cI x.num.natAbs:Int),cI x.den,hb,by simpa using XN⟩:=⟨_,rfl⟩;have e1:r0.num=(cI x.num.natAbs:Int):=by rw[S9]
  have e2:r0.den=cI x.den:=by rw[S9]
  have e3:mkRat (cI x.num.natAbs) (cI x.den)=r0:=by rw[←e1,←e2];exact Rat.mkRat_self r0
  rw[e3];refine⟨?_,h0,h1,h2,e1,e2⟩;have e4:r0*r0=mkRat (r0.num*r0.num) (r0.den*r0.den):=Rat.mul_def' r0 r0;rw[e4,e1,e2,h2,←Int.natCast_mul,h1,Int.natAbs_of_nonneg h0];exact Rat.mkRat_self x
 cases h
theorem z6 {x:Rat}(h:AH x=none)(r:Rat):r*r≠x:=by
 rintro rfl;have XN:(r.num.natAbs*r.num.natAbs).Coprime (r.den*r.den):=N1 r.reduced;obtain⟨r1,Uc⟩:∃r1:Rat,r1=⟨r.num*r.num,r.den*r.den,Nat.mul_ne_zero r.den_nz r.den_nz,by rw[Int.natAbs_mul];exact XN⟩:=⟨_,rfl⟩;have e1:r1.num=r.num*r.num:=by rw[Uc]
 have e2:r1.den=r.den*r.den:=by rw[Uc]
 have e3:r*r=r1:=by rw[Rat.mul_def',←e1,←e2];exact Rat.mkRat_self r1
 unfold AH at h;rw[e3,if_pos]at h
 ·cases h
 rw[e1,e2,Int.natAbs_mul,IP,IP];refine⟨?_,rfl,rfl⟩
 rcases Int.le_total 0 r.num with h|h
 ·exact Int.mul_nonneg h h
 exact Int.mul_nonneg_of_nonpos_of_nonpos h h
end Go.Eng
namespace Go.Proofs.YtchkplkghknabaaGreat
open Go.Proofs.Tryz
open Go Go.Proofs Go.Eng
theorem Bu (x:Nat)(hx:x<BB):Pr prog 249 [.one (.int .u32 x)] (.one (.int .i64 (bl x:Nat))):=by
 refine⟨⟨_,func249,by rfl,by rfl⟩,fun ok w vs R6 hr=>?_⟩;obtain⟨vs⟩:=vs
 match vs,hr with
 |[v],hr=>
  obtain⟨hv,_⟩:=hr;have hv:v= .int .u32 x:=hv;subst hv
  refine(Tryz.sO x w (by omega) (by unfold BB at hx;omega)).mono ?_
  rintro e W' ⟨rfl,rfl⟩;refine⟨_,rfl,Go.RowKit.Below.refl _ _,?_⟩;show Value.int .i64 ((Lib.bitLen (x:Int).toNat:Nat):Int)= .int .i64 ((bl x:Nat):Int);rw[Int.toNat_natCast,vj x (by unfold BB at hx;omega)]
theorem A4 (z:Int)(h0:z≠0)(hz:zn z<2^42):Pr prog 254 [ZV z] (.one (.int .i64 (ky z.natAbs:Nat))):=by
 have hp:0<z.natAbs:=by omega
 have c:=fR z (by omega);have ht:=gS hp;have d:=Bu (fg z.natAbs) ht.2;have Uw:=ku hp;have hl:nl z.natAbs<2^42:=hz;have Tr:=eH.2 hp;have hg:(aj z.natAbs).getD (nl z.natAbs-1) 0=((fg z.natAbs:Nat):Int):=by rw[lG,Uw]
 have hb:=yv hp;have w1:IntKind.i64.wrap ((nl z.natAbs:Int)-1)=((nl z.natAbs-1:Nat):Int):=by rw[IntWalk.i64_in _ (by omega)];omega
 have w2:IntKind.i64.wrap (32*((nl z.natAbs-1:Nat):Int))=((32*(nl z.natAbs-1):Nat):Int):=by rw[IntWalk.i64_in _ (by omega)];omega
 have w3:IntKind.i64.wrap (((32*(nl z.natAbs-1):Nat):Int)+(bl (fg z.natAbs):Nat))=((ky z.natAbs:Nat):Int):=by
  unfold ky at hb⊢;rw[IntWalk.i64_in _ (by omega)];omega
 refine pw func254 ⟨[0,1,2,3,9],[]⟩ ?_;simp only[Tryz.f254,ntmps254,iz,seval];simp only[vx,T,seval,ZV];refine Cg c ?_;simp only[vx,T,seval,ZV];refine⟨fun h=>absurd h (by omega),fun _=>Lg ?_⟩;simp only[vx,T,seval,ZV,w1,w2,hg,Int.toNat_natCast];refine⟨⟨by omega,by omega⟩,Cg d ?_⟩;simp only[vx,T,seval,ZV,w3];exact Ve rfl
theorem wU (n:Nat)(hn:n<2^50):Pr prog 255 [.one (.int .i64 n)] (.one (.ints .u32 (aj (2^n)))):=by
 have hlp:=Fk n;have hw:2^(n%32)<2^32:=Nat.pow_lt_pow_right (by decide) (Nat.mod_lt _ (by decide));have w1:IntKind.i64.wrap ((n:Int).tdiv 32)=((n/32:Nat):Int):=by rw[Int.tdiv_eq_ediv_of_nonneg (by omega),IntWalk.i64_in _ (by omega)];omega
 have w2:IntKind.i64.wrap (((n/32:Nat):Int)+1)=((n/32+1:Nat):Int):=by rw[IntWalk.i64_in _ (by omega)];omega
 have w3:(n:Int).tmod 32=((n%32:Nat):Int):=rfl;have w4:IntKind.u32.wrap (1*2^(if n%32≤32 then n%32 else 32))=((2^(n%32):Nat):Int):=by
  have e:(2:Int)^(n%32)=((2^(n%32):Nat):Int):=by rw[Int.natCast_pow];rfl
  rw[if_pos (by omega),Int.one_mul,e]
  generalize 2^(n%32)=k at hw
  rw[IntWalk.u32_in _ (by omega)]
 refine pw func255 ⟨[0,2,3],[]⟩ ?_;simp only[Tryz.f255,ntmps255,iz,seval];simp only[vx,T,seval,w1,w2,w3,Int.toNat_natCast];refine⟨⟨by omega,by omega,by omega,by omega⟩,by omega,⟨by omega,by omega⟩,Ve ?_⟩;rw[w4,List.take_of_length_le (by simp),hlp]
theorem FE (a:Nat)(ha:nl a<2^43):Pr prog 256 [.one (.ints .u32 (aj a))] (.one (.ints .u32 (aj (a/2)))):=by
 have c:=(kE a 1 (by omega) (by decide)).ints;have RE:a/2^1<BB^nl a:=Nat.lt_of_le_of_lt (Nat.div_le_self _ _) (cC a);have d:=du (ig (nl a) (a/2^1)) (fY _ _) (by rw[aM];omega);rw[jQ,Nat.mod_eq_of_lt RE]at d;refine pw func256 ⟨[0,2],[]⟩ ?_;simp only[Tryz.f256,ntmps256,iz,seval];simp only[vx,T,seval];refine Cg c ?_;simp only[vx,T,seval];refine Cg d ?_;simp only[vx,T,seval];exact Ve rfl
theorem EN {a x:Nat}(h1:cI a≤x)(hx:0<x)(h:x≤(x+a/x)/2):x=cI a:=by
 have h2:=zV hx h;have h3:=(jz a).2;refine Nat.le_antisymm ?_ h1;refine Nat.le_of_lt_succ (Nat.lt_of_not_le fun h4=>?_)
 have:(cI a+1)*(cI a+1)≤x*x:=Nat.mul_le_mul h4 h4
 omega
theorem LV {a:Nat}(h:0<a):0<cI a:=by
 have h3:=(jz a).2
 rcases Nat.eq_zero_or_pos (cI a)with h0|h0
 ·rw[h0]at h3;omega
 exact h0
theorem Bx (z:Int)(h0:0<z)(hz:zn z<2^40):Pr prog 252 [ZV z] (.aB [ZV (cI z.natAbs:Nat),.one (.int .i64 0)]):=by
 have hs:b9 z=1:=by unfold b9;rw[if_neg (by omega),if_neg (by omega)]
 have cs:=fP z (by omega);rw[hs]at cs;have cb:=A4 z (by omega) (by omega);have ct:=fR z (by omega);obtain⟨a,ha⟩:∃a,a=z.natAbs:=⟨_,rfl⟩;have SK:zs z=false:=dF.2 (by omega);have Zp:0<a:=by omega
 have Z8:nl a<2^40:=by rw[ha];exact hz
 rw[←ha]at cb ct⊢;have hb:=yv Zp;have RW:=Fb Zp;have WQ:=LV Zp;have w1:IntKind.i64.wrap (((ky a:Nat):Int).tdiv 2)=((ky a/2:Nat):Int):=by rw[Int.tdiv_eq_ediv_of_nonneg (by omega),IntWalk.i64_in _ (by omega)];omega
 have w2:IntKind.i64.wrap (((ky a/2:Nat):Int)+1)=((ky a/2+1:Nat):Int):=by rw[IntWalk.i64_in _ (by omega)];omega
 have csh:=wU (ky a/2+1) (by omega);have TS:nl (2^(ky a/2+1))<2^42:=by
  have:2^(ky a/2+1)<BB^(nl a+1):=by
   rw[qK];exact Nat.pow_lt_pow_right (by decide) (by omega)
  have:=aD this
  omega
 refine pw func252 ⟨[0,1,2,3,4,5,6,8,10,11,14,38],[]⟩ ?_;simp only[Tryz.f252,ntmps252,iz,seval];simp only[vx,T,seval,ZV];refine Cg cs ?_;simp only[vx,T,seval,ZV];refine Cg cb ?_;simp only[vx,T,seval,ZV,w1,w2];refine Cg csh ?_;simp only[vx,T,seval,ZV];refine Lk (fun y:{x:Nat//cI a≤x∧0<x∧nl x<2^42}=>⟨[(0,ZV z),(1,.one (.ptr 1 0)),(2,.one (.ptr 2 0)),(3,.one (.int .i64 0)),(4,.one (.int .i64 (ky a/2+1:Nat))),(5,.one (.ints .u32 (aj y.1)))],[(1,⟨.var [.bool (zs z),.ints .u32 (zm z)],true⟩),(2,⟨.var [.bool false,.nil],true⟩)],3,42⟩) (fun y=>y.1) ⟨2^(ky a/2+1),Nat.le_of_lt RW,Nat.pow_pos (by decide),TS⟩ ?_ (fun⟨x,WI,U4,U8⟩=>?_)
 ·refine Sa ?_;simp only[ry,seval,rz,ZV]
 simp only;have Sy:nl (a/x)≤nl a:=bf (Nat.div_le_self _ _);simp only[vx,T,seval,ZV];refine Cg ct ?_;simp only[vx,T,seval,ZV];refine Cg (iO a x U4 (by omega) (by omega)) ?_;simp only[vx,T,seval,ZV];have U1:=tx x (a/x);have Z7:nl ((x+a/x)/2)≤nl (x+a/x):=bf (Nat.div_le_self _ _);refine Cg (oh x (a/x) (by omega) (by omega)) ?_;simp only[vx,T,seval,ZV];refine Cg (FE (x+a/x) (by omega)) ?_;simp only[vx,T,seval,ZV];refine Cg (gL ((x+a/x)/2) x (by omega) (by omega)) ?_;simp only[vx,T,seval,ZV];have XW:0≤eX ((x+a/x)/2:Nat) (x:Nat)↔x≤(x+a/x)/2:=by
  unfold eX
  constructor
  ·intro h
   by_cases h2:(((x+a/x)/2:Nat):Int)<(x:Int)
   ·rw[if_pos h2]at h;omega
   omega
  intro h;rw[if_neg (by omega)]
  split<;>omega
 refine⟨fun k1=>Lg ?_,fun k1=>Lg ?_⟩
 ·have hx:=EN WI U4 (XW.1 k1);simp only[vx,T,seval,ZV];refine Cg (bV false x (by omega)) ?_;have e2:fK false x=((cI a:Nat):Int):=by rw[←hx];rfl
  rw[e2];simp only[vx,T,seval,ZV];refine Va ?_;simp only[cU,aY,ry,seval,ZV]
 simp only[vx,T,seval,ZV];have RE:(x+a/x)/2<x:=by
  refine Nat.lt_of_not_le fun h=>k1 (XW.2 h)
 refine Lq ⟨(x+a/x)/2,vR U4,Nat.lt_of_lt_of_le WQ (vR U4),Nat.lt_of_le_of_lt (bf (Nat.le_of_lt RE)) U8⟩ ?_ RE;refine Sa ?_;simp only[ry,seval,rz,ZV]
end Go.Proofs.YtchkplkghknabaaGreat
namespace Go.Eng
open Go
theorem pg (a b:Int):a.fdiv (-b)=(-a).fdiv b:=by
 have:=Int.neg_fdiv_neg (a:= -a) (b:=b)
 rwa [Int.neg_neg]at this
theorem uj (n d:Int):Int.gcd n (-d)=Int.gcd n d:=by unfold Int.gcd;rw[Int.natAbs_neg]
theorem oa (n d:Int):Int.gcd (-n) d=Int.gcd n d:=by unfold Int.gcd;rw[Int.natAbs_neg]
theorem I7 {n:Int}{d:Nat}(hd:0<d):n.fdiv (-(Int.gcd n d:Int))=(mkRat (-n) d).num:=by
 rw[pg,←yz hd,oa]
theorem LC {n:Int}{d:Nat}(hd:0<d):(-(d:Int)).fdiv (-(Int.gcd n d:Int))=((mkRat (-n) d).den:Int):=by
 rw[pg,Int.neg_neg,←yr hd,oa]
theorem inv_pos {x:Rat}{d:Nat}(h:x.num=(d:Int)):x⁻¹=mkRat x.den d:=by
 rw[Rat.inv_def,h];rfl
theorem inv_neg {x:Rat}{d:Nat}(h:x.num= -(d:Int)):x⁻¹=mkRat (-(x.den:Int)) d:=by
 rw[Rat.inv_def,h]
 cases d with
 |zero=>rfl
 |succ d=>rfl
end Go.Eng
namespace Go.Proofs.YtchkplkghknabaaGreat
open Go.Proofs.Tryz
open Go Go.Eng
open Go.Tw (El aE aH zE ai au ar aq aa QB cJ ah ag aO aJ tB aU ay cA lL)
theorem uX (n:Int)(d:Nat)(hn:zn n<2^40)(hd:nl d<2^40)(h0:0<d):Pr prog 221 [ZV n,ZV (-(d:Int))] (QV (mkRat (-n) d)):=by
 have hg:(0:Int)<(Int.gcd n d:Nat):=by have:=xK (n:=n) h0;omega
 have Yl:zn (Int.gcd n d)≤nl d:=rL (b:=(d:Int)) (by
  have:=Nat.gcd_le_right n.natAbs (show 0<(d:Int).natAbs by omega)
  exact this)
 have WK:zs (-(d:Int))=true:=kN.2 (by omega);have Ti:zn (-(d:Int))=nl d:=by unfold zn;rw[Int.natAbs_neg];rfl
 have c:=qt n (-(d:Int)) (by omega) (by rw[Ti];omega);rw[uj]at c;have cn:=vh (Int.gcd n d) (by omega);have UW:zn (-(Int.gcd n d:Int))≤nl d:=by unfold zn at Yl⊢;rw[Int.natAbs_neg];exact Yl
 refine pw func221 ⟨[0,1,2,3,4,5,10],[]⟩ ?_;simp only[Tryz.f221,ntmps221,iz,seval];simp only[vx,T,seval,ZV];refine Cg c ?_;simp only[vx,T,seval,ZV];refine⟨fun _=>Lg ?_,fun h=>absurd (WK.symm.trans h) (by decide)⟩;simp only[vx,T,seval,ZV];refine Cg cn ?_;simp only[vx,T,seval,ZV];refine Cg (ny n (-(Int.gcd n d:Int)) (by omega) (by omega) (by omega)) ?_;rw[I7 h0];simp only[vx,T,seval,ZV];refine Cg (ny (-(d:Int)) (-(Int.gcd n d:Int)) (by rw[Ti];omega) (by omega) (by omega)) ?_;rw[LC h0];simp only[vx,T,seval,ZV];refine Va ?_;simp only[cU,aY,ry,seval,QV,QC]
theorem mA (z:Int):Pr prog 222 [ZV z] (.one (.bool (decide (z=0)))):=by
 refine pw func222 ⟨[0,1,2],[]⟩ ?_;simp only[Tryz.f222,ntmps222,iz,seval];simp only[vx,T,seval,ZV];refine Ve ?_;rw[aV]
 congr 2
 by_cases h:z=0
 ·rw[decide_eq_true h,decide_eq_true];rw[h,ey.2 rfl];rfl
 rw[decide_eq_false h,decide_eq_false];intro e;exact h (ey.1 (by omega))
theorem ER (x:Rat)(hx:qm x<2^38)(h0:x≠0):Pr prog 209 [QV 1,QV x] (.aB [QV x⁻¹,.one (.int .i64 0)]):=by
 have z:=mA x.num;have hn:x.num≠0:=fun h=>h0 (Rat.num_eq_zero.1 h);rw[decide_eq_false hn]at z;have q1:(1:Rat).num=1:=rfl;have q2:((1:Rat).den:Int)=1:=rfl;unfold qm at hx;have m1:=bK (1:Rat).num (x.den:Int) (by decide+kernel) (by rw[aF];omega);have m2:=bK ((1:Rat).den:Int) x.num (by decide+kernel) (by omega);rw[q1,Int.one_mul]at m1;rw[q2,Int.one_mul]at m2;have lo:Pr prog 221 [ZV (x.den:Int),ZV x.num] (QV x⁻¹):=by
  by_cases hp:0<x.num
  ·obtain⟨d,hd⟩:∃d:Nat,x.num=d:=⟨x.num.toNat,by omega⟩;rw[inv_pos hd,hd];rw[hd]at hx hp;rw[aF]at hx;exact fj _ d (by rw[aF];omega) (by omega) (by omega)
  obtain⟨d,hd⟩:∃d:Nat,x.num= -(d:Int):=⟨(-x.num).toNat,by omega⟩;rw[inv_neg hd,hd];have Ti:zn (-(d:Int))=nl d:=by unfold zn;rw[Int.natAbs_neg];rfl
  rw[hd,Ti]at hx;exact uX _ d (by rw[aF];omega) (by omega) (by omega)
 refine pw func209 ⟨[0,1,2,3,4,5,8],[]⟩ ?_;simp only[Tryz.f209,ntmps209,iz,seval];simp only[vx,T,seval,QV,QC];refine Cg z ?_;simp only[vx,T,seval,QV,QC];refine Cg m1 ?_;simp only[vx,T,seval,QV,QC,ZV];refine Cg m2 ?_;simp only[vx,T,seval,QV,QC,ZV];refine Cg lo ?_;simp only[vx,T,seval,QV,QC,ZV];exact Ve rfl
theorem Fu (a x:Rat)(h0:x=0):Pr prog 209 [QV a,QV x] (.aB [.agg [.bool false,.nil,.bool false,.nil],.one (.int .i64 6)]):=by
 have z:=mA x.num;have hn:x.num=0:=by rw[h0];rfl
 rw[decide_eq_true hn]at z;refine pw func209 ⟨[0,1,2,3,4,5,8],[]⟩ ?_;simp only[Tryz.f209,ntmps209,iz,seval];simp only[vx,T,seval,QV,QC];refine Cg z ?_;simp only[vx,T,seval,QV,QC];exact Ve rfl
theorem fB.aB {xs ys:List V}(h:xr xs ys):fB (.aB xs) (.aB ys):=fun _ _ _ ⟨vs,e,hl⟩=>⟨vs,e,h.rep hl⟩
theorem jh {t:List El}:∀{h:Nat} {a n:El},cA h t a=some n→n.length=2^h
 |0,a,n,e=>by
  unfold cA at e
  split at e
  ·cases e
  obtain rfl:=Option.some.inj e;rfl
 |h+1,a,n,e=>by
  have e':((cA h t (aO h t a)).map fun n=>ai h t (a.take (2^h)) n++aH (ai h t (a.drop (2^h)) n))=some n:=e;obtain⟨m,_,rfl⟩:=Option.map_eq_some_iff.1 e';rw[X6,ar,aa,aa,Nat.pow_succ];omega
def zR:C:=.rows 4 1 (fun i j=>[C.bool false,.nil,.bool false,.nil].getD (i*4+j) .any)
def RA (c:C):Prop:=c= .nil∨c=zR
def CZ (h:Nat)(t:List El)(a:El)(f:FuncId):Prop:=
 (∀n,cA h t a=some n→Pr prog f [tV h t,eV a] (.aB [eV n,.one (.bool true)]))∧
 (cA h t a=none→∃c,RA c∧Pr prog f [tV h t,eV a] (.aB [.one c,.one (.bool false)]))
theorem IG {X:Nat}{t:List El}(hX:X<2^37){a:El}(ha:a.length=2^0)(hq:QB X a):CZ 0 t a 184:=by
 obtain⟨x,rfl⟩:=Go.Tw.bx ha;have hx:qm x≤X:=hq x (by simp);have one:=cO 1 (by decide) (by decide);have e:cA 0 t [x]=if x=0 then none else some [x⁻¹]:=rfl
 unfold CZ;rw[e]
 by_cases h0:x=0
 ·rw[if_pos h0];refine⟨fun n h=>(by cases h),fun _=>?_⟩;have d:=Fu 1 x h0;refine⟨_,.inr rfl,?_⟩;refine pw func184 ⟨[0,1,4,5,6,7,8,10,11,12,13,16,43],[(2,(.cons 9 [7] (.cons 10 [] .nil .nil) .nil))]⟩ ?_;simp only[Tryz.f184,ntmps184,iz,seval];simp only[vx,T,seval,tV,tC,eV,ae];refine Cg one ?_;simp only[vx,T,seval,QV,QC,tV,tC,eV,ae,qC,X0];refine Cg d ?_;simp only[vx,T,seval,QV,QC,tV,tC,eV,ae,qC,X0];exact Ve rfl
 rw[if_neg h0];refine⟨fun n h=>?_,fun h=>(by cases h)⟩;obtain rfl:=Option.some.inj h;have d:=ER x (by omega) h0;refine pw func184 ⟨[0,1,4,5,6,7,8,10,11,12,13,16,43],[(2,(.cons 9 [7] (.cons 10 [] .nil .nil) .nil))]⟩ ?_;simp only[Tryz.f184,ntmps184,iz,seval];simp only[vx,T,seval,tV,tC,eV,ae];refine Cg one ?_;simp only[vx,T,seval,QV,QC,tV,tC,eV,ae,qC,X0];refine Cg d ?_;simp only[vx,T,seval,QV,QC,tV,tC,eV,ae,qC,X0];refine fB.aB ⟨.cell (.rows rfl fun i j hi _=>.of_eq ?_),.refl _,trivial⟩;obtain rfl:i=0:=by omega
 rw[Nat.zero_mul,Nat.zero_add];exact dH x⁻¹ rfl j
theorem pW {X:Nat}(hX:X<2^37){t:List El}:∀{h:Nat} {a:El},TQ h t→a.length=2^h→lL X h t a→CZ h t a 184
 |0,a,_,ha,hi=>IG hX ha hi
 |h+1,a,W,ha,hi=>by
  have W':=W.le (Nat.le_succ h);obtain⟨_,hN,_,i3,_,i5⟩:=hi;have ih:=pW hX W' aJ i3;have h6:=W.h6;have hp:=aN W'.tk.le8;have cs:=mg (h:=h) (t:=t) (by omega);have ch:=iG (h:=h) (by omega) ha;have cn:=(sQ W a ha hX hN).rows;have Ss:=ah ha;have So:=ag ha;have e:cA (h+1) t a=(cA h t (aO h t a)).map fun n=>ai h t (a.take (2^h)) n++aH (ai h t (a.drop (2^h)) n):=rfl;unfold CZ at ih⊢;rw[e]
  cases hn:cA h t (aO h t a)with
  |none=>
   refine⟨fun n h=>(by cases h),fun _=>?_⟩;obtain⟨c,U0,hc⟩:=ih.2 hn;refine⟨.nil,.inl rfl,?_⟩
   rcases U0 with rfl|rfl
   ·refine pw func184 ⟨[0,1,4,5,6,7,8,10,11,12,13,16,43],[(2,(.cons 9 [7] (.cons 10 [] .nil .nil) .nil))]⟩ ?_;simp only[Tryz.f184,ntmps184,iz,seval];simp only[vx,T,seval,tV,tC,eV,ae];refine⟨fun h=>absurd h (by omega),fun _=>Lg ?_⟩;simp only[vx,T,seval,tV,tC,eV,ae];refine Cg cs ?_;simp only[vx,T,seval,tV,tC,eV,ae];refine Cg cn ?_;simp only[vx,T,seval,tV,tC,eV,ae];refine Cg hc ?_;simp only[vx,T,seval,tV,tC,eV,ae];exact Ve rfl
   refine pw func184 ⟨[0,1,4,5,6,7,8,10,11,12,13,16,43],[(2,(.cons 9 [7] (.cons 10 [] .nil .nil) .nil))]⟩ ?_;simp only[Tryz.f184,ntmps184,iz,seval];simp only[vx,T,seval,tV,tC,eV,ae];refine⟨fun h=>absurd h (by omega),fun _=>Lg ?_⟩;simp only[vx,T,seval,tV,tC,eV,ae];refine Cg cs ?_;simp only[vx,T,seval,tV,tC,eV,ae];refine Cg cn ?_;simp only[vx,T,seval,tV,tC,eV,ae];refine Cg hc ?_;simp only[vx,T,seval,tV,tC,eV,ae,zR];exact Ve rfl
  |some n=>
   refine⟨fun n' hh=>?_,fun hh=>(by cases hh)⟩;obtain rfl:=Option.some.inj hh;have hc:=ih.1 n hn;obtain⟨k1,k2⟩:=i5 n hn;have ln:=jh hn;have m1:=iX hX W'.tk Ss ln k1;have m2:=(iX hX W'.tk So ln k2).rows;have nn:=(mW _ (by rw[aa];omega) (Qk.of k2.q.2.2 (by omega))).rows;obtain⟨x,hx⟩:∃x,x=a.take (2^h):=⟨_,rfl⟩;obtain⟨y,hy⟩:∃y,y=a.drop (2^h):=⟨_,rfl⟩;rw[←hx,←hy]at ch⊢;rw[←hx]at m1;rw[←hy]at m2 nn;refine pw func184 ⟨[0,1,4,5,6,7,8,10,11,12,13,16,43],[(2,(.cons 9 [7] (.cons 10 [] .nil .nil) .nil))]⟩ ?_;simp only[Tryz.f184,ntmps184,iz,seval];simp only[vx,T,seval,tV,tC,eV,ae];refine⟨fun h=>absurd h (by omega),fun _=>Lg ?_⟩;simp only[vx,T,seval,tV,tC,eV,ae];refine Cg cs ?_;simp only[vx,T,seval,tV,tC,eV,ae];refine Cg cn ?_;simp only[vx,T,seval,tV,tC,eV,ae];refine Cg hc ?_;simp only[vx,T,seval,tV,tC,eV,ae];refine Cg ch ?_;simp only[vx,T,seval,tV,tC,eV,ae];refine cK.fresh m1 ?_;simp only[vx,T,seval,tV,tC,eV,ae];refine Cg m2 ?_;simp only[vx,T,seval,tV,tC,eV,ae];refine Cg nn ?_;simp only[vx,T,seval,tV,tC,eV,ae];exact⟨by rw[aa,ar,aa];omega,fB.aB ⟨.cell (.rows List.length_append.symm fun i j _ _=>.of_eq (kU _ _ i j)),.refl _,trivial⟩⟩
open Go Go.Proofs Go.Eng
theorem E8 {a a' b b':C}(h1:dB a a')(h2:dB b b'):ua (.agg [a,b]) (.agg [a',b']):=by
 intro ok w v hr;obtain⟨vs,e,hl⟩:=hr;refine⟨vs,e,?_⟩
 generalize vs.toList=l at hl⊢
 match l,hl with
 |[x,y],⟨k1,k2,_⟩=>exact⟨aC.bh (h1 ok w x (aP.dZ k1)),aC.bh (h2 ok w y (aP.dZ k2)),trivial⟩
theorem QR:ua (.agg [.bool false,.nil]) (ZV 0):=E8 (.refl _) (by
 have:zm 0=[]:=by decide+kernel
 rw[this];exact .zl _)
theorem IM (z:Int)(h0:0<z)(hz:zn z<2^38):Pr prog 243 [ZV z] (.aB [ZV (cI z.natAbs:Nat),.one (.bool (decide (cI z.natAbs*cI z.natAbs=z.natAbs)))]):=by
 have c:=Bx z h0 (by omega);obtain⟨s,hs⟩:∃s,s=cI z.natAbs:=⟨_,rfl⟩;have SJ:zn (s:Int)≤zn z:=rL (by rw[hs];exact AU _);rw[←hs]at c⊢;have m:=bK (s:Int) (s:Int) (by omega) (by omega);have hm:zn ((s:Int)*s)≤zn (s:Int)+zn (s:Int):=cY _ _;have cc:=qh ((s:Int)*s) z (by omega) (by omega);have e:decide (eX ((s:Int)*s) z=0)=decide (s*s=z.natAbs):=decide_eq_decide.2 (by rw[DT];omega);refine pw func243 ⟨[0,1,2,3,4,5],[(2,(.cons 11 [9,10] (.cons 12 [] .nil .nil) .nil))]⟩ ?_;simp only[Tryz.f243,ntmps243,iz,seval];simp only[vx,T,seval,ZV];refine Cg c ?_;simp only[vx,T,seval,ZV];refine Cg m ?_;simp only[vx,T,seval,ZV];refine Cg cc ?_;simp only[vx,T,seval,ZV];rw[e];exact Ve rfl
theorem By:Pr prog 252 [ZV 0] (.aB [.agg [.bool false,.nil],.one (.int .i64 0)]):=by
 have cs:=fP 0 (by decide+kernel);have hs:b9 0=0:=rfl;rw[hs]at cs;refine pw func252 ⟨[0,1,2,3,4,5,6,8,10,11,14,38],[]⟩ ?_;simp only[Tryz.f252,ntmps252,iz,seval];simp only[vx,T,seval,ZV];refine Cg cs ?_;simp only[vx,T,seval,ZV];exact Ve rfl
theorem Es (z:Int)(h0:z<0)(hz:zn z<2^38):Pr prog 252 [ZV z] (.aB [.agg [.bool false,.nil],.one (.int .i64 7)]):=by
 have cs:=fP z (by omega);have hs:b9 z= -1:=by unfold b9;rw[if_neg (by omega),if_pos h0]
 rw[hs]at cs;refine pw func252 ⟨[0,1,2,3,4,5,6,8,10,11,14,38],[]⟩ ?_;simp only[Tryz.f252,ntmps252,iz,seval];simp only[vx,T,seval,ZV];refine Cg cs ?_;simp only[vx,T,seval,ZV];exact Ve rfl
theorem Ib (z:Int)(h0:z<0)(hz:zn z<2^38):Pr prog 243 [ZV z] (.aB [.agg [.bool false,.nil],.one (.bool false)]):=by
 have c:=Es z h0 hz;refine pw func243 ⟨[0,1,2,3,4,5],[(2,(.cons 11 [9,10] (.cons 12 [] .nil .nil) .nil))]⟩ ?_;simp only[Tryz.f243,ntmps243,iz,seval];simp only[vx,T,seval,ZV];refine Cg c ?_;simp only[vx,T,seval,ZV];exact Ve rfl
theorem EP:Pr prog 243 [ZV 0] (.aB [.agg [.bool false,.nil],.one (.bool true)]):=by
 have c:=By;have m:=bK 0 0 (by decide+kernel) (by decide+kernel);have m:=m.args (xs:=[.agg [.bool false,.nil],.agg [.bool false,.nil]]) ⟨QR,QR,trivial⟩;have cc:=qh 0 0 (by decide+kernel) (by decide+kernel);rw[oU rfl]at cc;rw[Int.mul_zero]at m;refine pw func243 ⟨[0,1,2,3,4,5],[(2,(.cons 11 [9,10] (.cons 12 [] .nil .nil) .nil))]⟩ ?_;simp only[Tryz.f243,ntmps243,iz,seval];simp only[vx,T,seval,ZV];refine Cg c ?_;simp only[vx,T,seval,ZV];refine Cg m ?_;simp only[vx,T,seval,ZV];refine Cg cc ?_;simp only[vx,T,seval,ZV];exact Ve rfl
theorem nC (z:Int)(hz:zn z<2^38):∃m,(m= .nil∨∃xs,m= .ints .u32 xs)∧Pr prog 243 [ZV z] (.aB [.agg [.bool false,m],.one (.bool (decide (0≤z∧cI z.natAbs*cI z.natAbs=z.natAbs)))])∧
  (0≤z→dB m (.ints .u32 (zm (cI z.natAbs:Nat)))):=by
 rcases Int.lt_trichotomy z 0 with h|h|h
 ·refine⟨.nil,.inl rfl,?_,fun h2=>absurd h2 (by omega)⟩;rw[decide_eq_false (by omega)];exact Ib z h hz
 ·subst h;refine⟨.nil,.inl rfl,?_,fun _=>?_⟩
  ·rw[decide_eq_true (by decide)];exact EP
  have:zm (cI (0:Int).natAbs:Nat)=[]:=by decide+kernel
  rw[this];exact .zl _
 refine⟨_,.inr ⟨_,rfl⟩,?_,fun _=>.refl _⟩;have e:decide (0≤z∧cI z.natAbs*cI z.natAbs=z.natAbs)=decide (cI z.natAbs*cI z.natAbs=z.natAbs):=decide_eq_decide.2 ⟨fun h=>h.2,fun h2=>⟨by omega,h2⟩⟩;rw[e];have r:=IM z h hz;have SK:zs (cI z.natAbs:Nat)=false:=dF.2 (by omega);unfold ZV at r⊢;rw[SK]at r;exact r
theorem zY {a b c d a' b' c' d':C}(h1:dB a a')(h2:dB b b')(h3:dB c c')(h4:dB d d'):ua (.agg [a,b,c,d]) (.agg [a',b',c',d']):=by
 intro ok w v hr;obtain⟨vs,e,hl⟩:=hr;refine⟨vs,e,?_⟩
 generalize vs.toList=l at hl⊢
 match l,hl with
 |[x,y,z,u],⟨k1,k2,k3,k4,_⟩=>exact⟨aC.bh (h1 ok w x (aP.dZ k1)),aC.bh (h2 ok w y (aP.dZ k2)),aC.bh (h3 ok w z (aP.dZ k3)),aC.bh (h4 ok w u (aP.dZ k4)),trivial⟩
theorem GM {x:Rat}{b1 b2:Bool}{m1 m2:C}(k1:m1= .nil∨∃xs,m1= .ints .u32 xs)(k2:m2= .nil∨∃xs,m2= .ints .u32 xs)(c1:Pr prog 243 [ZV x.num] (.aB [.agg [.bool false,m1],.one (.bool b1)]))
  (c2:Pr prog 243 [ZV (x.den:Int)] (.aB [.agg [.bool false,m2],.one (.bool b2)])) (h:¬(b1=true∧b2=true)):Pr prog 228 [QV x] (.aB [.agg [.bool false,.nil,.bool false,.nil],.one (.bool false)]):=by
 rcases k1 with rfl|⟨x1,rfl⟩<;>rcases k2 with rfl|⟨x2,rfl⟩<;>cases b1<;>cases b2
 ·refine pw func228 ⟨[0,1,2,3,4,5,6,7,25],[]⟩ ?_;simp only[Tryz.f228,ntmps228,iz,seval];simp only[vx,T,seval,QV,QC,ZV];refine Cg c1 ?_;simp only[vx,T,seval,QV,QC,ZV];refine Cg c2 ?_;simp only[vx,T,seval,QV,QC,ZV];exact Ve rfl
 ·refine pw func228 ⟨[0,1,2,3,4,5,6,7,25],[]⟩ ?_;simp only[Tryz.f228,ntmps228,iz,seval];simp only[vx,T,seval,QV,QC,ZV];refine Cg c1 ?_;simp only[vx,T,seval,QV,QC,ZV];refine Cg c2 ?_;simp only[vx,T,seval,QV,QC,ZV];exact Ve rfl
 ·refine pw func228 ⟨[0,1,2,3,4,5,6,7,25],[]⟩ ?_;simp only[Tryz.f228,ntmps228,iz,seval];simp only[vx,T,seval,QV,QC,ZV];refine Cg c1 ?_;simp only[vx,T,seval,QV,QC,ZV];refine Cg c2 ?_;simp only[vx,T,seval,QV,QC,ZV];exact Ve rfl
 ·exact absurd ⟨rfl,rfl⟩ h
 ·refine pw func228 ⟨[0,1,2,3,4,5,6,7,25],[]⟩ ?_;simp only[Tryz.f228,ntmps228,iz,seval];simp only[vx,T,seval,QV,QC,ZV];refine Cg c1 ?_;simp only[vx,T,seval,QV,QC,ZV];refine Cg c2 ?_;simp only[vx,T,seval,QV,QC,ZV];exact Ve rfl
 ·refine pw func228 ⟨[0,1,2,3,4,5,6,7,25],[]⟩ ?_;simp only[Tryz.f228,ntmps228,iz,seval];simp only[vx,T,seval,QV,QC,ZV];refine Cg c1 ?_;simp only[vx,T,seval,QV,QC,ZV];refine Cg c2 ?_;simp only[vx,T,seval,QV,QC,ZV];exact Ve rfl
 ·refine pw func228 ⟨[0,1,2,3,4,5,6,7,25],[]⟩ ?_;simp only[Tryz.f228,ntmps228,iz,seval];simp only[vx,T,seval,QV,QC,ZV];refine Cg c1 ?_;simp only[vx,T,seval,QV,QC,ZV];refine Cg c2 ?_;simp only[vx,T,seval,QV,QC,ZV];exact Ve rfl
 ·exact absurd ⟨rfl,rfl⟩ h
 ·refine pw func228 ⟨[0,1,2,3,4,5,6,7,25],[]⟩ ?_;simp only[Tryz.f228,ntmps228,iz,seval];simp only[vx,T,seval,QV,QC,ZV];refine Cg c1 ?_;simp only[vx,T,seval,QV,QC,ZV];refine Cg c2 ?_;simp only[vx,T,seval,QV,QC,ZV];exact Ve rfl
 ·refine pw func228 ⟨[0,1,2,3,4,5,6,7,25],[]⟩ ?_;simp only[Tryz.f228,ntmps228,iz,seval];simp only[vx,T,seval,QV,QC,ZV];refine Cg c1 ?_;simp only[vx,T,seval,QV,QC,ZV];refine Cg c2 ?_;simp only[vx,T,seval,QV,QC,ZV];exact Ve rfl
 ·refine pw func228 ⟨[0,1,2,3,4,5,6,7,25],[]⟩ ?_;simp only[Tryz.f228,ntmps228,iz,seval];simp only[vx,T,seval,QV,QC,ZV];refine Cg c1 ?_;simp only[vx,T,seval,QV,QC,ZV];refine Cg c2 ?_;simp only[vx,T,seval,QV,QC,ZV];exact Ve rfl
 ·exact absurd ⟨rfl,rfl⟩ h
 ·refine pw func228 ⟨[0,1,2,3,4,5,6,7,25],[]⟩ ?_;simp only[Tryz.f228,ntmps228,iz,seval];simp only[vx,T,seval,QV,QC,ZV];refine Cg c1 ?_;simp only[vx,T,seval,QV,QC,ZV];refine Cg c2 ?_;simp only[vx,T,seval,QV,QC,ZV];exact Ve rfl
 ·refine pw func228 ⟨[0,1,2,3,4,5,6,7,25],[]⟩ ?_;simp only[Tryz.f228,ntmps228,iz,seval];simp only[vx,T,seval,QV,QC,ZV];refine Cg c1 ?_;simp only[vx,T,seval,QV,QC,ZV];refine Cg c2 ?_;simp only[vx,T,seval,QV,QC,ZV];exact Ve rfl
 ·refine pw func228 ⟨[0,1,2,3,4,5,6,7,25],[]⟩ ?_;simp only[Tryz.f228,ntmps228,iz,seval];simp only[vx,T,seval,QV,QC,ZV];refine Cg c1 ?_;simp only[vx,T,seval,QV,QC,ZV];refine Cg c2 ?_;simp only[vx,T,seval,QV,QC,ZV];exact Ve rfl
 exact absurd ⟨rfl,rfl⟩ h
theorem BP {x:Rat}(hx:qm x<2^38)(h:AH x=none):Pr prog 228 [QV x] (.aB [.agg [.bool false,.nil,.bool false,.nil],.one (.bool false)]):=by
 unfold qm at hx;obtain⟨m1,k1,c1,_⟩:=nC x.num (by omega);obtain⟨m2,k2,c2,_⟩:=nC (x.den:Int) (by rw[aF];omega);refine GM k1 k2 c1 c2 fun⟨h1,h2⟩=>?_;have h1:=of_decide_eq_true h1;have h2:=of_decide_eq_true h2;unfold AH at h;rw[if_pos ⟨h1.1,h1.2,h2.2⟩]at h;cases h
theorem Ch {x r:Rat}(hx:qm x<2^38)(h:AH x=some r):Pr prog 228 [QV x] (.aB [QV r,.one (.bool true)]):=by
 obtain⟨_,s1,s2,s3,s4,s5⟩:=pP h;unfold qm at hx;obtain⟨m1,k1,c1,l1⟩:=nC x.num (by omega);obtain⟨m2,k2,c2,l2⟩:=nC (x.den:Int) (by rw[aF];omega);rw[decide_eq_true ⟨s1,s2⟩]at c1;rw[decide_eq_true ⟨by omega,s3⟩]at c2;have l1:=l1 s1;have l2:=l2 (by omega);have hz1:zs r.num=false:=dF.2 (by omega);have ZY:zs (r.den:Int)=false:=dF.2 (by omega);have fin:fB (.aB [.agg [.bool false,m1,.bool false,m2],.one (.bool true)]) (.aB [QV r,.one (.bool true)]):=by
  refine fB.aB ⟨?_,.refl _,trivial⟩;unfold QV QC;rw[hz1,ZY,s4,s5];exact zY (.refl _) l1 (.refl _) l2
 rcases k1 with rfl|⟨x1,rfl⟩<;>rcases k2 with rfl|⟨x2,rfl⟩
 ·refine pw func228 ⟨[0,1,2,3,4,5,6,7,25],[]⟩ ?_;simp only[Tryz.f228,ntmps228,iz,seval];simp only[vx,T,seval,QV,QC,ZV];refine Cg c1 ?_;simp only[vx,T,seval,QV,QC,ZV];refine Cg c2 ?_;simp only[vx,T,seval,QV,QC,ZV];exact fin
 ·refine pw func228 ⟨[0,1,2,3,4,5,6,7,25],[]⟩ ?_;simp only[Tryz.f228,ntmps228,iz,seval];simp only[vx,T,seval,QV,QC,ZV];refine Cg c1 ?_;simp only[vx,T,seval,QV,QC,ZV];refine Cg c2 ?_;simp only[vx,T,seval,QV,QC,ZV];exact fin
 ·refine pw func228 ⟨[0,1,2,3,4,5,6,7,25],[]⟩ ?_;simp only[Tryz.f228,ntmps228,iz,seval];simp only[vx,T,seval,QV,QC,ZV];refine Cg c1 ?_;simp only[vx,T,seval,QV,QC,ZV];refine Cg c2 ?_;simp only[vx,T,seval,QV,QC,ZV];exact fin
 refine pw func228 ⟨[0,1,2,3,4,5,6,7,25],[]⟩ ?_;simp only[Tryz.f228,ntmps228,iz,seval];simp only[vx,T,seval,QV,QC,ZV];refine Cg c1 ?_;simp only[vx,T,seval,QV,QC,ZV];refine Cg c2 ?_;simp only[vx,T,seval,QV,QC,ZV];exact fin
open Go Go.Eng
open Go.Tw (El aE aH zE ai au ar aq aa QB cJ ah ag aO aJ tB aU ay cA lL)
theorem ra {X h:Nat}(hX:X<2^37){t:List El}{a n:El}(W:TQ h t)(ha:a.length=2^h)(hi:lL X h t a)(hn:cA h t a=some n):
  Pr prog 145 [tV h t,eV a] (.aB [eV n,.one (.int .i64 0)]):=by
 have f:=dG W.tk a ha (.of hi.qb (by omega));have c:=(pW hX W ha hi).1 n hn;refine pw func145 ⟨[0,1,4,5,6,7,11,19],[]⟩ ?_;simp only[Tryz.f145,ntmps145,iz,seval];simp only[vx,T,seval,tV,tC,eV,ae];refine Cg f ?_;simp only[vx,T,seval,tV,tC,eV,ae];refine Cg c ?_;simp only[vx,T,seval,tV,tC,eV,ae];exact Ve rfl
open Go Go.Eng
open Go.Tw (El aE aH zE ai au ar aq aa QB cJ ah ag aO aJ tB aU ay)
theorem sW (z:Int)(hz:zn z<2^40):Pr prog 257 [ZV z] (ZV z):=by
 have c:=fR z (by omega);have d:=yy z.natAbs (by show nl z.natAbs<_;unfold zn at hz;omega);have s:=bV (zs z) z.natAbs (by unfold zn at hz;omega);have e:fK (zs z) z.natAbs=z:=b5 z;rw[e]at s;refine pw func257 ⟨[0,1,2],[]⟩ ?_;simp only[Tryz.f257,ntmps257,iz,seval];simp only[vx,T,seval,ZV];refine Cg c ?_;simp only[vx,T,seval,ZV];refine Cg d ?_;simp only[vx,T,seval,ZV];refine Cg s ?_;simp only[vx,T,seval,ZV];exact Ve rfl
theorem Bt (n:Int)(d:Nat)(hn:zn n<2^39)(hd:nl d<2^39)(h0:0<d):Pr prog 253 [ZV n,ZV (d:Int)] (.aB [QV (mkRat n d),.one (.int .i64 0)]):=by
 have n1:=sW n (by omega);have n2:=sW (d:Int) (by rw[aF];omega);have z:=mA (d:Int);rw[decide_eq_false (by omega)]at z;have lo:=fj n d (by omega) (by omega) h0;refine pw func253 ⟨[0,1,2,3,4,5,11],[]⟩ ?_;simp only[Tryz.f253,ntmps253,iz,seval];simp only[vx,T,seval,ZV];refine Cg n1 ?_;simp only[vx,T,seval,ZV];refine Cg n2 ?_;simp only[vx,T,seval,ZV];refine Cg z ?_;simp only[vx,T,seval,ZV];refine Cg lo ?_;simp only[vx,T,seval,ZV,QV,QC];exact Ve rfl
theorem CF (n:Int)(d:Nat)(hn: -9223372036854775808≤n∧n≤9223372036854775807)(hd:d≤9223372036854775807)(h0:0<d)(k1:zn n<2^39)(k2:nl d<2^39):
  Pr prog 245 [.one (.int .i64 n),.one (.int .i64 d)] (QV (mkRat n d)):=by
 have c1:=gR n hn.1 hn.2;have c2:=gR (d:Int) (by omega) (by omega);have m:=Bt n d k1 k2 h0;refine pw func245 ⟨[0,1,4,5,6,16],[]⟩ ?_;simp only[Tryz.f245,ntmps245,iz,seval];simp only[vx,T,seval,ZV];refine Cg c1 ?_;simp only[vx,T,seval,ZV];refine Cg c2 ?_;simp only[vx,T,seval,ZV];refine Cg m ?_;simp only[vx,T,seval,ZV,QV,QC];exact Ve rfl
theorem BV {X h:Nat}{t:List El}{a:El}(hX:X<2^37)(W:TQ h t)(ha:a.length=2^h)(hm:cJ X h t a (aU h (mkRat 1 2))):
  Pr prog 231 [tV h t,eV a] (eV (ai h t a (aU h (mkRat 1 2)))):=by
 have c:=CF 1 2 (by decide) (by decide) (by decide) (by decide+kernel) (by decide+kernel);have f:=eF W.tk (mkRat 1 2) (by decide+kernel);have m:=ft hX W.tk _ _ ha ay hm;refine pw func231 ⟨[0,1,4],[]⟩ ?_;simp only[Tryz.f231,ntmps231,iz,seval];simp only[vx,T,seval,tV,tC,eV,ae];refine Cg c ?_;simp only[vx,T,seval,tV,tC,eV,ae,QV,QC];refine Cg f ?_;simp only[vx,T,seval,tV,tC,eV,ae];refine Cg m ?_;simp only[vx,T,seval,tV,tC,eV,ae];exact Ve rfl
open Go Go.Proofs Go.RowKit Go.Eng
set_option maxRecDepth 100000 in
theorem AZ (k:Nat)(h0:0<k)(hb:k*64≤140737488355328)(w:World)(i:TypeInfo)(z:Value)(hi:prog.info? 62=some i)(hz:i.zero=some z)(hs:i.size=4)(V8:i.bytes=64):
  Calls prog 244 #[.slice none 0 0,.int .i64 k] w fun e w'=>e= .returned (.slice (some ⟨w.heap.size,0,none⟩) 0 (grownCap w k 0 62))∧
   w'=w.drew.alloc (.cells (Builtin.zeroCells z.cells k++Builtin.zeroCells z.cells (grownCap w k 0 62-k)) 62):=by
 have h1:¬((k:Int)<0):=by omega
 have h3:wrap64 ((k:Int)-(((0:Nat):Int)-((0:Nat):Int)))=(k:Int):=by unfold wrap64;omega
 have h4:(k:Int)>0:=by omega
 have Zq:∀ty,(Builtin.append_ #[35,3] ty #[.slice none 0 0,.int .i64 (k:Int)]).run prog w=
   .ok (.slice (some ⟨w.heap.size,0,none⟩) k (grownCap w k 0 62)) (w.drew.alloc (.cells (Builtin.zeroCells z.cells k++Builtin.zeroCells z.cells (grownCap w k 0 62-k)) 62)):=fun ty=>
  Lib.run_append_nil_zeros w 35 3 ty 62 i z .i64 .i64 (by rfl) (by rfl) hi hz k h0 (by omega) (by omega) (by rw[V8];omega)
 obtain⟨G,hG⟩:∃G,G=grownCap w k 0 62:=⟨_,rfl⟩;rw[←hG]at Zq⊢;have hGn:k≤G:=by rw[hG];exact grownCap_ge w _ _ _
 clear hG
 go_enter func244,ntmps244
 go_wp2_with (at_builtin;refine Lib.wpList_append_run _ rfl _ _ _ _ rfl _ _ rfl rfl _ _ (Zq _) ?_)
 all_goals(go_ret;exact⟨rfl,rfl⟩)
set_option maxRecDepth 100000 in
theorem Cc (w:World):Calls prog 244 #[.slice none 0 0,.int .i64 0] w fun e w'=>e= .returned (.slice none 0 0)∧w'=w:=by
 go_enter func244,ntmps244
 go_wp2
 go_ret
 exact⟨rfl,rfl⟩
theorem Cd (k:Nat)(hb:k*64≤140737488355328):Fr prog 244 [.one .nil,.one (.int .i64 k)] (.rows 62 4 0 (fun _ _=>.any)):=by
 obtain⟨i,d,z,hi,hu,hz,_,hs,V8,SP,_⟩:=bB Bz (show T 62=some _ from rfl);have hs:i.size=4:=hs.symm;have V8:i.bytes=64:=V8.symm;refine⟨⟨_,func244,by rfl,by rfl⟩,trivial,fun ok w vs R6 hr=>?_⟩;obtain⟨vs⟩:=vs
 match vs,hr with
 |[v,u],hr=>
  obtain⟨hv,hu,_⟩:=hr;have hv:v= .slice none 0 0:=hv;have hu:u= .int .i64 k:=hu;subst hv hu
  by_cases h0:k=0
  ·subst h0
   refine(Cc w).mono ?_
   rintro e w' ⟨rfl,rfl⟩;exact⟨_,⟨none,0⟩,rfl,Go.RowKit.Below.refl _ _,rfl,(fun g o h=>by cases h),(fun j=>by simp[Bk.cell]),trivial,Nat.le_refl _,0,Nat.le_refl _,.inr ⟨rfl,rfl,rfl,rfl⟩⟩
  refine(AZ k (by omega) hb w i z hi hz hs V8).mono ?_
  rintro e w' ⟨rfl,rfl⟩;have Tt:z.cells.size=4:=by
   have:=congrArg List.length SP
   simpa[T]using this.symm
  have hGn:k≤grownCap w k 0 62:=grownCap_ge w _ _ _;refine⟨_,⟨some (w.heap.size,0),0⟩,rfl,((Go.RowKit.Below.refl _ w).drew).alloc (Nat.le_refl _) _,rfl,fun g o h=>?_,?_,trivial,Nat.le_refl _,grownCap w k 0 62,Nat.zero_le _,.inl ⟨w.heap.size,0,0,rfl,rfl,.inr (by simp),?_⟩⟩
  ·have:w.heap.size=g:=by simpa using congrArg (Option.map Prod.fst) h
   subst this;exact⟨Nat.le_refl _,by simp⟩
  ·unfold aL;refine⟨_,62,heap_alloc_new w.drew _,fun j c hj=>?_⟩
   simp[Bk.cell]at hj
  have S3:bZ (w.drew.alloc (.cells (Builtin.zeroCells z.cells k++Builtin.zeroCells z.cells (grownCap w k 0 62-k)) 62)) w.heap.size=(Builtin.zeroCells z.cells k++Builtin.zeroCells z.cells (grownCap w k 0 62-k)).size:=dK (heap_alloc_new w.drew _);rw[S3];simp only[Array.size_append,size_zeroCells,Tt,Bk.wd];omega
end Go.Proofs.YtchkplkghknabaaGreat
namespace Go.Eng
open Go
theorem fU {P:Program}{f:FuncId}{xs ys:List V}{B:Bk}(h:Fr P f ys B)(ha:xr xs ys):Fr P f xs B:=
 ⟨h.1,h.2.1,fun ok w vs R6 Sd=>h.2.2 ok w vs R6 (ha.rep Sd)⟩
theorem np {α:Type}{ps:List (List α)}{i:Nat}(h:i<ps.length):(ps.take (i+1)).flatten=(ps.take i).flatten++ps.getD i default:=by
 rw[List.take_add_one,List.flatten_append,X7,X8 h];simp
theorem jH {α:Type}(ps:List (List α))(i:Nat):(ps.take i).flatten.length≤ps.flatten.length:=by
 conv=>rhs;rw[←List.take_append_drop i ps,List.flatten_append,X6]
 exact Nat.le_add_right _ _
end Go.Eng
namespace Go.Proofs.YtchkplkghknabaaGreat
open Go.Proofs.Tryz
open Go Go.Eng
open Go.Tw (El)
def fG (l:List (Nat→C))(i j:Nat):C:=l.getD i (fun _=>.any) j
def GC (l:List (Nat→C)):C:=.rows 4 l.length (fG l)
theorem O4 (p q:List (Nat→C)):∀(i j:Nat),i<p.length+q.length→j<4→(if i<p.length then fG p i j else fG q (i-p.length) j)=fG (p++q) i j:=by
 intro i j _ _;unfold fG
 by_cases h:i<p.length
 ·rw[if_pos h,X7,X7,List.getElem?_append_left h]
 rw[if_neg h,X7,X7,List.getElem?_append_right (by omega)]
theorem xh (ps:List (List (Nat→C)))(hl:ps.flatten.length<2^38)(hk:ps.length<2^38):Fr prog 229 [.one (.rows 1 ps.length (fun i _=>GC (ps.getD i default)))] (.rows 62 4 (ps.flatten).length (fG (ps.flatten))):=by
 refine fw func229 ⟨[0,2,3,5,6,8,9,10,11,12,20,25,26,27,28],[]⟩ ?_;simp only[Tryz.f229,ntmps229,iz,seval];simp only[vx,T,seval];refine Lk (fun y:{i:Nat//i≤ps.length}=>⟨[(0,.one (.rows 1 ps.length (fun i _=>GC (ps.getD i default)))),(3,.one (.int .i64 (ps.take y.1).flatten.length)),(9,.one (.rows 1 ps.length (fun i _=>GC (ps.getD i default)))),(10,.one (.int .i64 ps.length)),(11,.one (.int .i64 y.1))],[],1,36⟩) (fun y=>ps.length-y.1) ⟨0,Nat.zero_le _⟩ ?_ (fun⟨i,hi⟩=>?_)
 ·refine Sa ?_;simp only[ry,seval,rz]
 have h0:=jH ps i;have i1:=wI i (by omega);simp only[vx,T,seval];refine⟨fun h1=>Lg ?_,fun h1=>Lg ?_⟩
 ·have hs:=np (ps:=ps) (i:=i) (by omega);have h2:=jH ps (i+1);have U1:(ps.take (i+1)).flatten.length=(ps.take i).flatten.length+(ps.getD i default).length:=by rw[hs,X6]
  obtain⟨a,ha⟩:∃a,a=ps.getD i default:=⟨_,rfl⟩;rw[←ha]at U1;have w1:IntKind.i64.wrap (((ps.take i).flatten.length:Int)+a.length)=((ps.take (i+1)).flatten.length:Int):=by rw[IntWalk.i64_in _ (by omega)];omega
  simp only[vx,T,seval,GC,←ha];simp only[w1];refine⟨by omega,fun h=>absurd h (by omega),fun _=>Lg ?_⟩;simp only[vx,T,seval,GC,←ha];simp only[i1];refine Lq ⟨i+1,by omega⟩ ?_ ?_
  ·refine Sa ?_;simp only[ry,seval,rz]
  simp only;omega
 have WQ:i=ps.length:=by omega
 subst WQ;rw[List.take_length];simp only[vx,T,seval];refine cK.fresh (Cd ps.flatten.length (by omega)) ?_;simp only[vx,T,seval];refine Lk (fun y:{i:Nat//i≤ps.length}=>⟨[(0,.one (.rows 1 ps.length (fun i _=>GC (ps.getD i default)))),(6,.one (.own 1 4 0 (ps.take y.1).flatten.length)),(25,.one (.rows 1 ps.length (fun i _=>GC (ps.getD i default)))),(26,.one (.int .i64 ps.length)),(27,.one (.int .i64 y.1))],[(1,⟨(.rows 62 4 ((ps.take y.1).flatten).length (fG ((ps.take y.1).flatten))),true⟩)],2,36⟩) (fun y=>ps.length-y.1) ⟨0,Nat.zero_le _⟩ ?_ (fun⟨i,hi⟩=>?_)
 ·refine Sa ?_;simp only[ry,seval,rz];exact fun i j h=>absurd h (by omega)
 have h0:=jH ps i;have i1:=wI i (by omega);simp only[vx,T,seval];refine⟨fun h1=>Lg ?_,fun h1=>Lg ?_⟩
 ·have hs:=np (ps:=ps) (i:=i) (by omega);have h2:=jH ps (i+1);have U1:(ps.take (i+1)).flatten.length=(ps.take i).flatten.length+(ps.getD i default).length:=by rw[hs,X6]
  obtain⟨a,ha⟩:∃a,a=ps.getD i default:=⟨_,rfl⟩;rw[←ha]at U1 hs;simp only[vx,T,seval,GC,←ha];simp only[i1];refine⟨by omega,by rw[←X6,←hs];omega,Lq ⟨i+1,by omega⟩ ?_ ?_⟩
  ·refine Sa ?_;simp only[ry,seval,rz,hs];exact⟨by simp,by simp,O4 _ _⟩
  simp only;omega
 have WQ:i=ps.length:=by omega
 subst WQ;rw[List.take_length];simp only[vx,T,seval];exact⟨rfl,rfl,fun _ _ _ _=>rfl⟩
theorem yw (l:El):dB (ae l) (GC (l.map qC)):=dB.rows (List.length_map _).symm fun i j hi _=>.of_eq (by
 unfold fG;rw[X7,X7,List.getElem?_map,X8 hi];rfl)
theorem Ig (l:El):dB (GC (l.map qC)) (ae l):=dB.rows (List.length_map _) fun i j hi _=>.of_eq (by
 have hi:i<l.length:=by rw[List.length_map]at hi;exact hi
 unfold fG;rw[X7,X7,List.getElem?_map,X8 hi];rfl)
theorem DM {x y:C}{p q:List (Nat→C)}(hx:dB x (GC p))(hy:dB y (GC q))(hl:p.length+q.length<2^38):
  Pr prog 229 [.one (.rows 1 2 (fun i j=>[x,y].getD (i*1+j) .any))] (.one (GC (p++q))):=by
 have c:=(xh [p,q] (by simpa using hl) (by simp)).rows;have e:[p,q].flatten=p++q:=by simp
 rw[e]at c;refine c.args ⟨.cell (.rows rfl fun i j hi hj=>?_),trivial⟩;obtain rfl:j=0:=by omega
 match i,hi with
 |0,_=>exact hx
 |1,_=>exact hy
theorem Pn (a b:El)(hl:a.length+b.length<2^38):Pr prog 229 [.one (.rows 1 2 (fun i j=>[ae a,ae b].getD (i*1+j) .any))] (eV (a++b)):=by
 have c:=DM (yw a) (yw b) (by simpa using hl);rw[←List.map_append]at c;exact c.res (fB.cell (Ig _))
open Go Go.Eng
open Go.Tw (El aE aH zE ai au ar aq aa QB cJ ah ag aO aJ tB aU ay cA lL j8 g9 val In)
def Kb (h:Nat)(t:List El)(a:El)(f:FuncId):Prop:=
 (∃b,b.length=2^h∧val h t b*val h t b=val h t a∧Pr prog f [tV h t,eV a] (.aB [eV b,.one (.bool true)]))∨
 (Go.Tw.lU h t (val h t a)∧∃l:List (Nat→C),l.length≤2^h∧Pr prog f [tV h t,eV a] (.aB [.one (GC l),.one (.bool false)]))
theorem yq {t:List El}{x r:Rat}(hx:qm x<2^38)(h:AH x=some r):Pr prog 219 [tV 0 t,eV [x]] (.aB [eV [r],.one (.bool true)]):=by
 have c:=Ch hx h;refine pw func219 ⟨[0,1,4,5,6,7,8,9,10,11,12,13,14,15,16,17,18,19,21,22,23,24,28,61,68,82,108,117,118,119,120,136],[(4,.nil),(5,.nil)]⟩ ?_;simp only[Tryz.f219,ntmps219,iz,seval];simp only[vx,T,seval,QV,QC,tV,tC,eV,ae,qC,X0];refine Cg c ?_;simp only[vx,T,seval,QV,QC,tV,tC,eV,ae,qC,X0];refine fB.aB ⟨.cell (.rows rfl fun i j hi _=>.of_eq ?_),.refl _,trivial⟩;obtain rfl:i=0:=by omega
 rw[Nat.zero_mul,Nat.zero_add];exact dH r rfl j
theorem xB {t:List El}{x:Rat}(hx:qm x<2^38)(h:AH x=none):Pr prog 219 [tV 0 t,eV [x]] (.aB [.one zR,.one (.bool false)]):=by
 have c:=BP hx h;refine pw func219 ⟨[0,1,4,5,6,7,8,9,10,11,12,13,14,15,16,17,18,19,21,22,23,24,28,61,68,82,108,117,118,119,120,136],[(4,.nil),(5,.nil)]⟩ ?_;simp only[Tryz.f219,ntmps219,iz,seval];simp only[vx,T,seval,QV,QC,tV,tC,eV,ae,qC,X0];refine Cg c ?_;simp only[vx,T,seval,QV,QC,tV,tC,eV,ae,qC,X0];exact Ve rfl
theorem LA {t:List El}{a:El}(ha:a.length=2^0)(hq:Qk a):Kb 0 t a 219:=by
 obtain⟨x,rfl⟩:=Go.Tw.bx ha;have hx:qm x<2^38:=hq x (by simp)
 cases h:AH x with
 |some r=>
  refine .inl ⟨[r],rfl,?_,yq hx h⟩;show R.q r*R.q r=R.q x;rw[←R.dr,(pP h).1]
 |none=>
  refine .inr ⟨?_,[fun j=>[C.bool false,.nil,.bool false,.nil].getD j .any],Nat.le_refl _,(xB hx h).res (fB.aB ⟨.cell (.rows rfl fun i j hi _=>.of_eq ?_),.refl _,trivial⟩)⟩
  rotate_left
  ·obtain rfl:i=0:=by omega
   rw[Nat.zero_mul,Nat.zero_add];rfl
  rintro z ⟨b,hb,rfl⟩ e;obtain⟨y,rfl⟩:=Go.Tw.bx hb;have e:R.q y*R.q y=R.q x:=e;rw[←R.dr]at e;exact z6 h y (R.jT e)
open Go Go.Eng
open Go.Tw (El aE aH zE ai au ar aq aa QB cJ ah ag aO aJ tB aU ay cA lL xA j8 g9 val In)
theorem Cq {h:Nat}:aU h (Rat.ofInt 0)=zE (2^h):=by
 have:=Nat.two_pow_pos h
 show(0:Rat)::List.replicate (2^h-1) 0=List.replicate (2^h) 0
 rw[←List.replicate_succ];congr 1;omega
theorem Mv {f:FuncId}{r:V}{h n:Nat}{t:List El}{a:El}(c:Pr prog f [tV h t,eV (a.take n)] r)(hn:n≤a.length):Pr prog f [tV h t,.one (.rows 4 n (fun i=>qC (a.getD i default)))] r:=
 c.args ⟨.refl _,.cell (fv hn),trivial⟩
theorem E7 {X h:Nat}(hX:X<2^37){t:List El}{a w:El}(W:TQ (h+1) t)(ha:a.length=2^(h+1))(hq:QB X a)(hv:a.drop (2^h)=zE (2^h))(hw:w.length=2^h)
  (c:Pr prog 219 [tV h t,eV (a.take (2^h))] (.aB [eV w,.one (.bool true)])):
  Pr prog 219 [tV (h+1) t,eV a] (.aB [eV (w++zE (2^h)),.one (.bool true)]):=by
 have W':=W.le (Nat.le_succ h);have h3:=W.h6;have hp:2^h≤64:=Nat.pow_le_pow_right (n:=2) (by decide) (show h≤6 by omega);have z:=dx (a.drop (2^h)) (by rw[ag ha];omega) (.of (hq.drop _) (by omega));rw[decide_eq_true (by rw[ag ha];exact hv)]at z;have i0:=cO 0 (by decide) (by decide);have f:=eF W'.tk (Rat.ofInt 0) (by decide+kernel);rw[Cq]at f;have k:=Pn w (zE (2^h)) (by rw[hw,au];omega);have hn:(2^h:Nat)≤a.length:=by rw[ha,Nat.pow_succ];omega
 have z:=z.args (xs:=[.one (.rows 4 (a.length-2^h) (fun i=>qC (a.getD (2^h+i) default)))]) ⟨.cell eQ,trivial⟩;have c:=Mv c hn;obtain⟨n,RS⟩:∃n,n=2^h:=⟨_,rfl⟩;have R4:a.length=2*n:=by rw[ha,Nat.pow_succ,RS];omega
 have w1:IntKind.i64.wrap (((h+1:Nat):Int)-1)=(h:Int):=by rw[IntWalk.i64_in _ (by omega)];omega
 have w2:IntKind.i64.wrap (((a.length:Nat):Int).tdiv 2)=(n:Int):=by
  rw[R4,Int.tdiv_eq_ediv_of_nonneg (by omega),IntWalk.i64_in _ (by omega)];omega
 have w4:((a.length:Int)-(n:Int)).toNat=a.length-n:=by omega
 rw[←RS]at z f c k hp⊢;refine pw func219 ⟨[0,1,4,5,6,7,8,9,10,11,12,13,14,15,16,17,18,19,21,22,23,24,28,61,68,82,108,117,118,119,120,136],[(4,.nil),(5,.nil)]⟩ ?_;simp only[Tryz.f219,ntmps219,iz,seval];simp only[vx,T,seval,tV,tC,eV,ae,QV,QC,w1,w2,w4];refine⟨fun h=>absurd h (by omega),fun _=>Lg ?_⟩;simp only[vx,T,seval,tV,tC,eV,ae,QV,QC,w1,w2,w4];refine⟨⟨by omega,by omega⟩,⟨by omega,by omega⟩,⟨by omega,by omega⟩,⟨by omega,by omega,by omega⟩,Cg z ?_⟩;simp only[vx,T,seval,tV,tC,eV,ae,QV,QC,w1,w2,w4];refine Cg c ?_;simp only[vx,T,seval,tV,tC,eV,ae,QV,QC,w1,w2,w4];refine Cg i0 ?_;simp only[vx,T,seval,tV,tC,eV,ae,QV,QC,w1,w2,w4];refine Cg f ?_;simp only[vx,T,seval,tV,tC,eV,ae,QV,QC,w1,w2,w4];refine Cg k ?_;simp only[vx,T,seval,tV,tC,eV,ae,QV,QC,w1,w2,w4];exact Ve rfl
theorem vK {X h:Nat}(hX:X<2^37){t:List El}{a i:El}(W:TQ (h+1) t)(ha:a.length=2^(h+1))(hq:QB X a)(hv:a.drop (2^h)=zE (2^h)){p l:List (Nat→C)}{b:Bool}(TS:p.length≤2^h)
  (c:Pr prog 219 [tV h t,eV (a.take (2^h))] (.aB [.one (GC l),.one (.bool false)])) (hr:lL X h t (t.getD h [])) (hi:cA h t (t.getD h [])=some i) (qi:cJ X h t (a.take (2^h)) i)
  (c2:Pr prog 219 [tV h t,eV (ai h t (a.take (2^h)) i)] (.aB [.one (GC p),.one (.bool b)])):
  Pr prog 219 [tV (h+1) t,eV a] (.aB [.one (GC ((zE (2^h)).map qC++p)),.one (.bool b)]):=by
 have W':=W.le (Nat.le_succ h);have h3:=W.h6;have hp:2^h≤64:=Nat.pow_le_pow_right (n:=2) (by decide) (show h≤6 by omega);have z:=dx (a.drop (2^h)) (by rw[ag ha];omega) (.of (hq.drop _) (by omega));rw[decide_eq_true (by rw[ag ha];exact hv)]at z;have i0:=cO 0 (by decide) (by decide);have f:=eF W'.tk (Rat.ofInt 0) (by decide+kernel);rw[Cq]at f;have k:=DM (yw (zE (2^h))) (dB.refl (GC p)) (by rw[List.length_map,au];omega);have lr:=W.tk.len h (by omega);have iv:=ra hX W' lr hr hi;have m:=ft hX W'.tk _ _ (ah ha) (Go.Proofs.YtchkplkghknabaaGreat.jh hi) qi;have hn:(2^h:Nat)≤a.length:=by rw[ha,Nat.pow_succ];omega
 have z:=z.args (xs:=[.one (.rows 4 (a.length-2^h) (fun i=>qC (a.getD (2^h+i) default)))]) ⟨.cell eQ,trivial⟩;have c:=Mv c hn;have m:=m.args (xs:=[tV h t,.one (.rows 4 (2^h) (fun i=>qC (a.getD i default))),eV i]) ⟨.refl _,.cell (fv hn),.refl _,trivial⟩;obtain⟨n,RS⟩:∃n,n=2^h:=⟨_,rfl⟩;have R4:a.length=2*n:=by rw[ha,Nat.pow_succ,RS];omega
 have w1:IntKind.i64.wrap (((h+1:Nat):Int)-1)=(h:Int):=by rw[IntWalk.i64_in _ (by omega)];omega
 have w2:IntKind.i64.wrap (((a.length:Nat):Int).tdiv 2)=(n:Int):=by
  rw[R4,Int.tdiv_eq_ediv_of_nonneg (by omega),IntWalk.i64_in _ (by omega)];omega
 have w4:((a.length:Int)-(n:Int)).toNat=a.length-n:=by omega
 obtain⟨r,RM⟩:∃r,r=t.getD h []:=⟨_,rfl⟩;rw[←RM]at iv;obtain⟨y,hy⟩:∃y,y=ai h t (a.take (2^h)) i:=⟨_,rfl⟩;rw[←hy]at m c2;rw[←RS]at z f c k m hp⊢;refine pw func219 ⟨[0,1,4,5,6,7,8,9,10,11,12,13,14,15,16,17,18,19,21,22,23,24,28,61,68,82,108,117,118,119,120,136],[(4,.nil),(5,.nil)]⟩ ?_;simp only[Tryz.f219,ntmps219,iz,seval];simp only[vx,T,seval,tV,tC,eV,ae,QV,QC,w1,w2,w4,←RM,GC];refine⟨fun h=>absurd h (by omega),fun _=>Lg ?_⟩;simp only[vx,T,seval,tV,tC,eV,ae,QV,QC,w1,w2,w4,←RM,GC];refine⟨⟨by omega,by omega⟩,⟨by omega,by omega⟩,⟨by omega,by omega⟩,⟨by omega,by omega,by omega⟩,Cg z ?_⟩;simp only[vx,T,seval,tV,tC,eV,ae,QV,QC,w1,w2,w4,←RM,GC];refine Cg c ?_;simp only[vx,T,seval,tV,tC,eV,ae,QV,QC,w1,w2,w4,←RM,GC];refine Cg iv ?_;simp only[vx,T,seval,tV,tC,eV,ae,QV,QC,w1,w2,w4,←RM,GC];refine Cg m ?_;simp only[vx,T,seval,tV,tC,eV,ae,QV,QC,w1,w2,w4,←RM,GC];refine Cg c2 ?_;simp only[vx,T,seval,tV,tC,eV,ae,QV,QC,w1,w2,w4,←RM,GC];refine Cg i0 ?_;simp only[vx,T,seval,tV,tC,eV,ae,QV,QC,w1,w2,w4,←RM,GC];refine Cg f ?_;simp only[vx,T,seval,tV,tC,eV,ae,QV,QC,w1,w2,w4,←RM,GC];refine Cg k ?_;simp only[vx,T,seval,tV,tC,eV,ae,QV,QC,w1,w2,w4,←RM,GC];exact Ve rfl
theorem EZ {X h:Nat}(hX:X<2^37){t:List El}{a:El}(W:TQ (h+1) t)(ha:a.length=2^(h+1))(hq:QB X a)(hv:a.drop (2^h)≠zE (2^h)){l:List (Nat→C)}(hN:xA X h t a)
  (c:Pr prog 219 [tV h t,eV (aO h t a)] (.aB [.one (GC l),.one (.bool false)])):
  Pr prog 219 [tV (h+1) t,eV a] (.aB [.one .nil,.one (.bool false)]):=by
 have W':=W.le (Nat.le_succ h);have h3:=W.h6;have hp:2^h≤64:=Nat.pow_le_pow_right (n:=2) (by decide) (show h≤6 by omega);have z:=dx (a.drop (2^h)) (by rw[ag ha];omega) (.of (hq.drop _) (by omega));rw[decide_eq_false (by rw[ag ha];exact hv)]at z;have cn:=tO W a ha hX hq hN;have hn:(2^h:Nat)≤a.length:=by rw[ha,Nat.pow_succ];omega
 have z:=z.args (xs:=[.one (.rows 4 (a.length-2^h) (fun i=>qC (a.getD (2^h+i) default)))]) ⟨.cell eQ,trivial⟩;obtain⟨n,RS⟩:∃n,n=2^h:=⟨_,rfl⟩;have R4:a.length=2*n:=by rw[ha,Nat.pow_succ,RS];omega
 have w1:IntKind.i64.wrap (((h+1:Nat):Int)-1)=(h:Int):=by rw[IntWalk.i64_in _ (by omega)];omega
 have w2:IntKind.i64.wrap (((a.length:Nat):Int).tdiv 2)=(n:Int):=by
  rw[R4,Int.tdiv_eq_ediv_of_nonneg (by omega),IntWalk.i64_in _ (by omega)];omega
 have w4:((a.length:Int)-(n:Int)).toNat=a.length-n:=by omega
 rw[←RS]at z;refine pw func219 ⟨[0,1,4,5,6,7,8,9,10,11,12,13,14,15,16,17,18,19,21,22,23,24,28,61,68,82,108,117,118,119,120,136],[(4,.nil),(5,.nil)]⟩ ?_;simp only[Tryz.f219,ntmps219,iz,seval];simp only[vx,T,seval,tV,tC,eV,ae,QV,QC,w1,w2,w4,GC];refine⟨fun h=>absurd h (by omega),fun _=>Lg ?_⟩;simp only[vx,T,seval,tV,tC,eV,ae,QV,QC,w1,w2,w4,GC];refine⟨⟨by omega,by omega⟩,⟨by omega,by omega⟩,⟨by omega,by omega⟩,⟨by omega,by omega,by omega⟩,Cg z ?_⟩;simp only[vx,T,seval,tV,tC,eV,ae,QV,QC,w1,w2,w4,GC];refine Cg cn ?_;simp only[vx,T,seval,tV,tC,eV,ae,QV,QC,w1,w2,w4,GC];refine Cg c ?_;simp only[vx,T,seval,tV,tC,eV,ae,QV,QC,w1,w2,w4,GC];exact Ve rfl
def uZ (u n:El)(j:Nat):El:=[aE u n,aE u (aH n)].getD j []
theorem qy {X h:Nat}(hX:X<2^37){t:List El}{a m w i:El}(W:TQ (h+1) t)(ha:a.length=2^(h+1))(hq:QB X a)(hv:a.drop (2^h)≠zE (2^h))(hN:xA X h t a){k:Nat}{r:V}(hk:k≤2)
  (c:Pr prog 219 [tV h t,eV (aO h t a)] (.aB [eV m,.one (.bool true)])) (hm:m.length=2^h) (qm:QB X m) (qx:∀j,j<2→cJ X h t (uZ (a.take (2^h)) m j) (aU h (mkRat 1 2)))
  (no:∀j,j<k→∃l:List (Nat→C),Pr prog 219 [tV h t,eV (ai h t (uZ (a.take (2^h)) m j) (aU h (mkRat 1 2)))] (.aB [.one (GC l),.one (.bool false)]))
  (yes:k<2→r= .aB [eV (w++ai h t (a.drop (2^h)) i),.one (.bool true)]∧w.length=2^h∧w≠zE (2^h)∧QB X w∧lL X h t (aE w w)∧cA h t (aE w w)=some i∧cJ X h t (a.drop (2^h)) i∧
   Pr prog 219 [tV h t,eV (ai h t (uZ (a.take (2^h)) m k) (aU h (mkRat 1 2)))] (.aB [eV w,.one (.bool true)]))
  (end':k=2→r= .aB [.one .nil,.one (.bool false)]):
  Pr prog 219 [tV (h+1) t,eV a] r:=by
 have W':=W.le (Nat.le_succ h);have h3:=W.h6;have hp:2^h≤64:=Nat.pow_le_pow_right (n:=2) (by decide) (show h≤6 by omega);have z:=dx (a.drop (2^h)) (by rw[ag ha];omega) (.of (hq.drop _) (by omega));rw[decide_eq_false (by rw[ag ha];exact hv)]at z;have cn:=tO W a ha hX hq hN;have lu:=ah ha;have sa:=nu W'.tk (a.take (2^h)) m lu hm (.of (hq.take _) (by omega)) (.of qm (by omega));have sb:=rm W'.tk (a.take (2^h)) m lu hm (.of (hq.take _) (by omega)) (.of qm (by omega));have lx:∀j,j<2→(uZ (a.take (2^h)) m j).length=2^h:=fun j hj=>by
  match j,hj with
  |0,_=>exact aq lu hm
  |1,_=>exact aq lu (by rw[ar,hm])
 have hf:∀j,j<2→Pr prog 231 [tV h t,eV (uZ (a.take (2^h)) m j)] (eV (ai h t (uZ (a.take (2^h)) m j) (aU h (mkRat 1 2)))):=fun j hj=>BV hX W' (lx j hj) (qx j hj);have hn:(2^h:Nat)≤a.length:=by rw[ha,Nat.pow_succ];omega
 have z:=z.args (xs:=[.one (.rows 4 (a.length-2^h) (fun i=>qC (a.getD (2^h+i) default)))]) ⟨.cell eQ,trivial⟩;have sa:=sa.args (xs:=[tV h t,.one (.rows 4 (2^h) (fun i=>qC (a.getD i default))),eV m]) ⟨.refl _,.cell (fv hn),.refl _,trivial⟩;have sb:=sb.args (xs:=[tV h t,.one (.rows 4 (2^h) (fun i=>qC (a.getD i default))),eV m]) ⟨.refl _,.cell (fv hn),.refl _,trivial⟩;obtain⟨n,RS⟩:∃n,n=2^h:=⟨_,rfl⟩;have R4:a.length=2*n:=by rw[ha,Nat.pow_succ,RS];omega
 have w1:IntKind.i64.wrap (((h+1:Nat):Int)-1)=(h:Int):=by rw[IntWalk.i64_in _ (by omega)];omega
 have w2:IntKind.i64.wrap (((a.length:Nat):Int).tdiv 2)=(n:Int):=by
  rw[R4,Int.tdiv_eq_ediv_of_nonneg (by omega),IntWalk.i64_in _ (by omega)];omega
 have w4:((a.length:Int)-(n:Int)).toNat=a.length-n:=by omega
 obtain⟨u,hu⟩:∃u,u=a.take (2^h):=⟨_,rfl⟩;rw[←hu]at sa sb hf no yes lx qx;rw[←RS]at z sa sb;refine pw func219 ⟨[0,1,4,5,6,7,8,9,10,11,12,13,14,15,16,17,18,19,21,22,23,24,28,61,68,82,108,117,118,119,120,136],[(4,.nil),(5,.nil)]⟩ ?_;simp only[Tryz.f219,ntmps219,iz,seval];simp only[vx,T,seval,tV,tC,eV,ae,QV,QC,w1,w2,w4,GC];refine⟨fun h=>absurd h (by omega),fun _=>Lg ?_⟩;simp only[vx,T,seval,tV,tC,eV,ae,QV,QC,w1,w2,w4,GC];refine⟨⟨by omega,by omega⟩,⟨by omega,by omega⟩,⟨by omega,by omega⟩,⟨by omega,by omega,by omega⟩,Cg z ?_⟩;simp only[vx,T,seval,tV,tC,eV,ae,QV,QC,w1,w2,w4,GC];refine Cg cn ?_;simp only[vx,T,seval,tV,tC,eV,ae,QV,QC,w1,w2,w4,GC];refine Cg c ?_;simp only[vx,T,seval,tV,tC,eV,ae,QV,QC,w1,w2,w4,GC];refine Cg sa ?_;simp only[vx,T,seval,tV,tC,eV,ae,QV,QC,w1,w2,w4,GC];refine Cg sb ?_;simp only[vx,T,seval,tV,tC,eV,ae,QV,QC,w1,w2,w4,GC];refine Lk (fun y:{j:Nat//j≤k}=>⟨[(4,.one .nil),(5,.one (.bool false)),(8,tV h t),(11,.one (.rows 4 (a.length-n) (fun i=>qC (a.getD (n+i) default)))),(117,.one (.own 1 1 0 2)),(118,.one (.int .i64 2)),(119,.one (.int .i64 y.1))],[(1,⟨.rows 35 1 2 (fun j _=>ae (uZ u m j)),true⟩)],2,154⟩) (fun y=>k-y.1) ⟨0,Nat.zero_le _⟩ ?_ (fun⟨j,hj⟩=>?_)
 ·refine Sa ?_;simp only[ry,seval,rz,tV,tC,eV,ae,GC];refine fun i j hi hj=>?_;obtain rfl:j=0:=by omega
  match i,hi with
  |0,_=>rfl
  |1,_=>rfl
 simp only;have wi:=wI j (by omega);simp only[vx,T,seval,tV,tC,eV,ae,QV,QC,w1,w2,w4,GC];refine⟨fun g=>Lg ?_,fun g=>Lg ?_⟩
 ·have Z9:=hf j (by omega);have UC:=no j;obtain⟨x,hx⟩:∃x,x=uZ u m j:=⟨_,rfl⟩;rw[←hx]at Z9 UC;obtain⟨y,hy⟩:∃y,y=ai h t x (aU h (mkRat 1 2)):=⟨_,rfl⟩;rw[←hy]at Z9 UC
  by_cases Vc:j<k
  ·obtain⟨l,hl⟩:=UC Vc;simp only[vx,T,seval,tV,tC,eV,ae,QV,QC,w1,w2,w4,wi,←hx,GC];refine⟨⟨by omega,by omega⟩,Cg Z9 ?_⟩;simp only[vx,T,seval,tV,tC,eV,ae,QV,QC,w1,w2,w4,wi,←hx,GC];refine Cg hl ?_;simp only[vx,T,seval,tV,tC,eV,ae,QV,QC,w1,w2,w4,wi,←hx,GC];refine Lq ⟨j+1,by omega⟩ ?_ (by show k-(j+1)<k-j;omega);refine Sa ?_;simp only[ry,seval,rz,tV,tC,eV,ae,GC]
  obtain rfl:j=k:=by omega
  obtain⟨hr,hw,hw0,qw,iw,hi,qi,cw⟩:=yes (by omega);rw[←hx,←hy]at cw;rw[hr];have zw:=dx w (by omega) (.of qw (by omega));rw[decide_eq_false (by rw[hw];exact hw0)]at zw;have aw:=nu W'.tk w w hw hw (.of qw (by omega)) (.of qw (by omega));have iv:=ra hX W' (aq hw hw) iw hi;have mw:=ft hX W'.tk _ _ (ag ha) (Go.Proofs.YtchkplkghknabaaGreat.jh hi) qi;have mw:=mw.args (xs:=[tV h t,.one (.rows 4 (a.length-2^h) (fun i=>qC (a.getD (2^h+i) default))),eV i]) ⟨.refl _,.cell eQ,.refl _,trivial⟩;have kw:=Pn w (ai h t (a.drop (2^h)) i) (by rw[hw,aa];omega);rw[←RS]at mw kw⊢;simp only[vx,T,seval,tV,tC,eV,ae,QV,QC,w1,w2,w4,wi,←hx,GC];refine⟨⟨by omega,by omega⟩,Cg Z9 ?_⟩;simp only[vx,T,seval,tV,tC,eV,ae,QV,QC,w1,w2,w4,wi,←hx,GC];refine Cg cw ?_;simp only[vx,T,seval,tV,tC,eV,ae,QV,QC,w1,w2,w4,wi,←hx,GC];refine Cg zw ?_;simp only[vx,T,seval,tV,tC,eV,ae,QV,QC,w1,w2,w4,wi,←hx,GC];refine Cg aw ?_;simp only[vx,T,seval,tV,tC,eV,ae,QV,QC,w1,w2,w4,wi,←hx,GC];refine Cg iv ?_;simp only[vx,T,seval,tV,tC,eV,ae,QV,QC,w1,w2,w4,wi,←hx,GC];refine Cg mw ?_;simp only[vx,T,seval,tV,tC,eV,ae,QV,QC,w1,w2,w4,wi,←hx,GC];refine Cg kw ?_;simp only[vx,T,seval,tV,tC,eV,ae,QV,QC,w1,w2,w4,wi,←hx,GC];exact Ve rfl
 have S8:k=2:=by omega
 rw[end' S8];simp only[vx,T,seval,tV,tC,eV,ae,QV,QC,w1,w2,w4,GC];exact Ve rfl
theorem Ap {h:Nat}:Go.Tw.pQ h=aU h (mkRat 1 2):=by
 unfold Go.Tw.pQ;rw[show (2:Rat)⁻¹=mkRat 1 2 from by decide+kernel]
theorem Qd {f:FuncId}{zs:List V}{w:El}{b:Bool}(c:Pr prog f zs (.aB [eV w,.one (.bool b)])):Pr prog f zs (.aB [.one (GC (w.map qC)),.one (.bool b)]):=
 c.res (fB.aB ⟨.cell (yw w),.refl _,trivial⟩)
theorem Qy {f:FuncId}{zs:List V}{w:El}{b:Bool}(c:Pr prog f zs (.aB [.one (GC (w.map qC)),.one (.bool b)])):Pr prog f zs (.aB [eV w,.one (.bool b)]):=
 c.res (fB.aB ⟨.cell (Ig w),.refl _,trivial⟩)
theorem Fa {f:FuncId}{zs:List V}(c:Pr prog f zs (.aB [.one .nil,.one (.bool false)])):Pr prog f zs (.aB [.one (GC []),.one (.bool false)]):=
 c.res (fB.aB ⟨.cell (.pN _ _),.refl _,trivial⟩)
theorem mz {X:Nat}(hX:X<2^37){t:List El}:∀{h:Nat} {a:El},TQ h t→Go.Tw.Rd h t→a.length=2^h→j8 X h t a→Kb h t a 219
 |0,a,_,_,ha,hs=>LA ha (.of hs.qb (by omega))
 |h+1,a,W,D,ha,hs=>by
  have W':=W.le (Nat.le_succ h);have D':=D.le (Nat.le_succ h);have ih:=fun{b:El} (hb:b.length=2^h) (k:j8 X h t b)=>mz hX (a:=b) W' D' hb k;have hq:=hs.qb;have lz:(zE (2^h)).length=2^h:=au;have eP:2^(h+1)=2^h+2^h:=by rw[Nat.pow_succ];omega
  obtain⟨⟨_,hN,_⟩,s2,s3⟩:=hs
  by_cases hv:a.drop (2^h)=zE (2^h)
  ·obtain⟨g1,g2,g3⟩:=s2 hv
   rcases ih (ah ha) g1 with⟨w,lw,ew,cw⟩|⟨n1,l,hl,c⟩
   ·obtain⟨k1,k2⟩:=Go.Tw.yB hv lw ew;exact .inl ⟨_,k1,k2,E7 hX W ha hq hv lw cw⟩
   obtain⟨i,hi,_,_⟩:=Go.Tw.jf D' (D.rl h (by omega)).1 (R.iu (D.rl h (by omega)).2);obtain⟨qi,sq⟩:=g3 i hi
   rcases ih aa sq with⟨w,lw,ew,cw⟩|⟨n2,p,hp,c2⟩
   ·obtain⟨k1,k2⟩:=Go.Tw.zW D.rl ha hv hi lw ew;refine .inl ⟨_,k1,k2,Qy ?_⟩;rw[List.map_append];exact vK hX W ha hq hv (by rw[List.length_map,lw];exact Nat.le_refl _) c g2 hi qi (Qd cw)
   refine .inr ⟨Go.Tw.zA D ha hv hi n1 n2,_,?_,vK hX W ha hq hv hp c g2 hi qi c2⟩;rw[X6,List.length_map,lz];omega
  obtain⟨g1,g2⟩:=s3 hv
  rcases ih aJ g1 with⟨n,ln,en,cn⟩|⟨n1,l,hl,c⟩
  ·have lm:(aH n).length=2^h:=by rw[ar,ln]
   have em:val h t (aH n)*val h t (aH n)=val h t (aO h t a):=by rw[Go.Tw.val_neg ln,R.neg_mul,R.mul_neg,R.neg_neg,en]
   obtain⟨k1,k2,k3,k4⟩:=g2 n ln en;obtain⟨k1',Zr,Zs,Zu⟩:=g2 (aH n) lm em;rw[Ap]at k2 k3 k4 Zr Zs Zu;have qx:∀j,j<2→cJ X h t (uZ (a.take (2^h)) n j) (aU h (mkRat 1 2)):=fun j hj=>by
    match j,hj with
    |0,_=>exact k2
    |1,_=>exact Zr
   have fin:∀{m w:El},m.length=2^h→val h t m*val h t m=val h t (aO h t a)→w.length=2^h→val h t w*val h t w=val h t (ai h t (aE (a.take (2^h)) m) (aU h (mkRat 1 2)))→
     w≠zE (2^h)∧∃i,cA h t (aE w w)=some i∧(w++ai h t (a.drop (2^h)) i).length=2^(h+1)∧
      val (h+1) t (w++ai h t (a.drop (2^h)) i)*val (h+1) t (w++ai h t (a.drop (2^h)) i)=val (h+1) t a:=by
    intro m w lm em lw ew;have h0:=Go.Tw.xy D ha hv lm em ew;have h1:val h t (aE w w)≠R.q 0:=by
     rw[Go.Tw.val_add lw lw];exact fun e=>h0 (R.Cv e)
    obtain⟨i,hi,li,vi⟩:=Go.Tw.jf D' (aq lw lw) h1;refine⟨fun e=>h0 (by rw[e,Go.Tw.val_zero]),i,hi,Go.Tw.vp D ha hv lm em lw ew aa ?_⟩;rw[Go.Tw.val_add lw lw]at vi;rw[Go.Tw.val_mul D'.rl (ag ha) li,←R.add_mul,R.mul_comm (val h t (a.drop (2^h))),←R.mul_assoc,vi,R.one_mul]
   rcases ih aa k3 with⟨w,lw,ew,cw⟩|⟨n1,l1,_,c1⟩
   ·obtain⟨w0,i,hi,f1,f2⟩:=fin ln en lw ew;obtain⟨m1,_,m3,_,m5⟩:=k4 w lw ew;exact .inl ⟨_,f1,f2,qy hX W ha hq hv hN (k:=0) (by omega) cn ln k1 qx (fun j hj=>absurd hj (Nat.not_lt_zero _)) (fun _=>⟨rfl,lw,w0,m1,m3,hi,m5 i hi,cw⟩) (fun e=>absurd e (by decide))⟩
   have no1:∀j,j<1→∃l:List (Nat→C),Pr prog 219 [tV h t,eV (ai h t (uZ (a.take (2^h)) n j) (aU h (mkRat 1 2)))] (.aB [.one (GC l),.one (.bool false)]):=fun j hj=>by
    obtain rfl:j=0:=by omega
    exact⟨l1,c1⟩
   rcases ih aa Zs with⟨w,lw,ew,cw⟩|⟨n2,l2,_,c2⟩
   ·obtain⟨w0,i,hi,f1,f2⟩:=fin lm em lw ew;obtain⟨m1,_,m3,_,m5⟩:=Zu w lw ew;exact .inl ⟨_,f1,f2,qy hX W ha hq hv hN (k:=1) (by omega) cn ln k1 qx no1 (fun _=>⟨rfl,lw,w0,m1,m3,hi,m5 i hi,cw⟩) (fun e=>absurd e (by decide))⟩
   refine .inr ⟨Go.Tw.wh D ha hv ln en n1 n2,[],Nat.zero_le _,Fa (qy (w:=[]) (i:=[]) hX W ha hq hv hN (k:=2) (by omega) cn ln k1 qx (fun j hj=>?_) (fun e=>absurd e (by decide)) (fun _=>rfl))⟩
   match j,hj with
   |0,_=>exact⟨l1,c1⟩
   |1,_=>exact⟨l2,c2⟩
  exact .inr ⟨Go.Tw.vm D ha hv n1,[],Nat.zero_le _,Fa (EZ hX W ha hq hv hN c)⟩
end Go.Proofs.YtchkplkghknabaaGreat
namespace Go.Tw
open Go Go.R
def dN (h:Nat):El:=zE (2^h)++aU h 1
theorem kC {h:Nat}:(dN h).length=2^(h+1):=by unfold dN;rw[X6,au,ay,Nat.pow_succ];omega
theorem q0 {T:List El}{e:El}:val (T.length+1) (T++[e]) (dN T.length)=R.sqrt (val T.length T e):=by
 unfold dN;rw[gh au,val_zero,bE,zero_add,one_mul,fO,eC (Nat.le_refl _)]
def cB (H:Nat)(a:El):El:=a++zE (2^H-a.length)
theorem B5 (m n:Nat):zE m++zE n=zE (m+n):=by unfold zE;rw[List.replicate_append_replicate]
theorem bA {H:Nat}{a:El}(h:a.length≤2^H):(cB H a).length=2^H:=by unfold cB;rw[X6,au];omega
theorem vP {H:Nat}{a:El}(h:a.length=2^H):cB H a=a:=by unfold cB;rw[h,Nat.sub_self];exact List.append_nil _
theorem FF {H:Nat}{a:El}(h:a.length≤2^H):cB (H+1) a=cB H a++zE (2^H):=by
 unfold cB;rw[List.append_assoc,B5,Nat.pow_succ];congr 2;omega
theorem so {T:List El}{m:Nat}{a:El}(ha:a.length=2^m):∀{H:Nat},m≤H→val H T (cB H a)=val m T a
 |0,h=>by
        obtain rfl:m=0:=by omega
        rw[vP ha]
 |H+1,h=>by
  by_cases e:m=H+1
  ·subst e;rw[vP ha]
  have hl:a.length≤2^H:=by rw[ha];exact Nat.pow_le_pow_right (by decide) (by omega)
  rw[FF hl,kS (bA hl),so ha (by omega)]
theorem QB.pad {B H:Nat}{a:El}(h1:1≤B)(h:QB B a):QB B (cB H a):=h.app (QB.zero.mono h1)
def a8 (H:Nat)(T rs:List El):Nat→El→El
 |0,a=>aU H (a.getD 0 0)
 |k+1,a=>aE (a8 H T rs k (a.take (2^k))) (ai H T (a8 H T rs k (a.drop (2^k))) (cB H (rs.getD k [])))
theorem a5 {H:Nat}{T rs:List El}:∀{k:Nat} {a:El},(a8 H T rs k a).length=2^H
 |0,_=>ay
 |_+1,_=>aq a5 aa
theorem iJ:∀{a:El} {n:Nat},a.length=n→aE a (zE n)=a
 |[],n,h=>by subst h;rfl
 |x::a,n,h=>by
  subst h
  show(x+0)::aE a (zE a.length)=x::a
  rw[iJ rfl,Rat.add_zero]
theorem vt {H:Nat}{T rs:List El}:∀{k:Nat},a8 H T rs k (zE (2^k))=zE (2^H)
 |0=>by
  rw[a8];show aU H 0=_;unfold aU zE
  have:=Nat.two_pow_pos H
  rw[←List.replicate_succ];congr 1;omega
 |k+1=>by rw[a8,pe,oR,vt,bD,iJ au]
theorem zp {H:Nat}{T rs:List El}{k:Nat}{a:El}(hv:a.drop (2^k)=zE (2^k)):a8 H T rs (k+1) a=a8 H T rs k (a.take (2^k)):=by
 rw[a8,hv,vt,bD,iJ a5]
structure Ext (A:List R) (u:List El) (k:Nat) (T rs:List El):Prop where
 tg:TG A T
 len:rs.length=k
 root:∀i,i<k→∃m,m≤T.length∧(rs.getD i []).length=2^m∧val m T (rs.getD i [])=R.sqrt (val i u (u.getD i []))
theorem lv {A:List R}{u T rs:List El}{K:Nat}(E:Ext A u K T rs):∀{k:Nat} {a:El},k≤K→a.length=2^k→val T.length T (a8 T.length T rs k a)=val k u a
 |0,a,_,ha=>by
  obtain⟨x,rfl⟩:=bx ha;rw[a8,bE];rfl
 |k+1,a,hk,ha=>by
  obtain⟨m,hm,hl,hv⟩:=E.root k (by omega);have TS:(cB T.length (rs.getD k [])).length=2^T.length:=bA (by rw[hl];exact Nat.pow_le_pow_right (by decide) hm);rw[a8,val_add a5 aa,val_mul E.tg.rd.rl a5 TS,lv E (by omega) (ah ha),lv E (by omega) (ag ha),so hl hm,hv,val]
theorem Ext.up {A:List R}{u T S rs:List El}{k:Nat}(E:Ext A u k T rs)(G:TG A (T++S)){r:El}{m:Nat}(hm:m≤(T++S).length)(hl:r.length=2^m)(hv:val m (T++S) r=R.sqrt (val k u (u.getD k []))):Ext A u (k+1) (T++S) (rs++[r]):=by
 refine⟨G,by rw[X6,E.len];rfl,fun i hi=>?_⟩
 by_cases h:i<k
 ·obtain⟨m',h1,h2,h3⟩:=E.root i h;have e:(rs++[r]).getD i []=rs.getD i []:=df (by rw[E.len];exact h);refine⟨m',by rw[X6];omega,by rw[e,h2],by rw[e,eC h1,h3]⟩
 obtain rfl:i=k:=by omega
 have e:(rs++[r]).getD i []=r:=by rw[←E.len];exact fO
 exact⟨m,hm,by rw[e,hl],by rw[e,hv]⟩
theorem In.Bg {A:List R}{u T rs:List El}{K:Nat}(E:Ext A u K T rs){k:Nat}(hk:k≤K){x:R}(hx:In k u x):In T.length T x:=by
 obtain⟨a,ha,rfl⟩:=hx;exact⟨a8 T.length T rs k a,a5,lv E hk ha⟩
end Go.Tw
namespace Go.Tw
open Go Go.R
theorem j8.sg {X h:Nat}{t:List El}{a:El}(H:j8 X h t a):g9 X h t a:=by
 cases h with
 |zero=>exact H
 |succ h=>exact H.1
structure FH (X h:Nat) (t:List El) (a:El):Prop where
 sq:j8 X h t a
 rt:∀b,b.length=2^h→val h t b*val h t b=val h t a→g9 X h t b
theorem Br:∀h,h≤6→sX h (nU h)≤jC∧sX h 0≤jC:=by decide+kernel
section
variable {A:List R}
theorem TG.Qj (S:Src 64 A)(hA:j9 A){t:List El}(T:TG A t){e:El}(he:e.length=2^t.length)(hv:val t.length t e∈A)(hp:R.pos (val t.length t e)):FH jC t.length t e:=by
 refine⟨T.Rp S hA he hv,fun b hb eb=>?_⟩;obtain⟨z,w,d,E,h1,_⟩:=T.ev S hA;have hs:=R.dk (br.2 (.inr hp));have hx:Ht t.length z w (val t.length t b) (nU t.length):=by
  rcases R.yY (eb.trans hs.symm)with k|k
  ·rw[k];exact h1 _ hv (by rw[←k];exact .of hb)
  rw[k]
  have:In t.length t (R.sqrt (val t.length t e)):=by
   have:=(In.of (t:=t) hb).neg
   rwa [k,R.neg_neg]at this
  exact(h1 _ hv this).neg
 exact(g9.of E hb hx).mono (Br _ (T.nN hA)).1
theorem gW.zero {B n:Nat}:gW B (zE n):=fun c hc=>by
 rw[List.eq_of_mem_replicate hc];exact⟨Nat.zero_le _,Nat.one_le_two_pow⟩
theorem TG.QI (S:Src 64 A)(hA:j9 A){t:List El}(T:TG A t)(h2:t.length≤2){e:El}(he:e.length=2^t.length)(hv:val t.length t e=q 0):FH jC t.length t e:=by
 have ez:=mO T.rd he hv;refine⟨by rw[ez];exact T.QJ S hA h2 (by rw[au]) .zero,fun b hb eb=>?_⟩;obtain⟨z,w,d,E,_,_⟩:=T.ev S hA;rw[hv]at eb;have hx:Ht t.length z w (val t.length t b) 0:=by
  rw[R.P7 eb];exact Ht.rat (by decide) (by decide)
 exact(g9.of E hb hx).mono (Br _ (T.nN hA)).2
end
end Go.Tw
namespace Go.Proofs.YtchkplkghknabaaGreat
open Go.Proofs.Tryz
open Go Go.Eng
open Go.Tw (El aE aH zE ai au ar aq aa QB cJ ah ag aO aJ tB aU ay cA lL j8 g9 val In FH Rd lU TG jC bn dN cE dE)
structure GQ (X h:Nat) (t:List El):Prop where
 rq:xu X h t
 rd:Rd h t
 sq:∀i,i<h→j8 X i t (t.getD i [])
theorem GQ.le {X h k:Nat}{t:List El}(W:GQ X h t)(hk:k≤h):GQ X k t:=⟨W.rq.le hk,W.rd.le hk,fun i hi=>W.sq i (by omega)⟩
theorem Ax {A:List R}(S:Go.Tw.Src 64 A)(hA:Go.Tw.j9 A){t:List El}(G:TG A t){h:Nat}(hh:h≤t.length):GQ jC h t:=by
 have h3:=G.nN hA;have hs:=fun i (hi:i<t.length)=>G.Pw S hA hi;have hb:=fun i (hi:i<t.length)=>G.qb S hA hi;refine GQ.le (h:=t.length) ⟨⟨⟨⟨by omega,fun i hi=>(G.rd.rl i hi).1,fun i hi=>.of (hb i hi) (by decide)⟩,h3,fun i hi=>hb i hi⟩,fun i hi=>(hs i hi).sg,fun i hi=>?_⟩,G.rd,hs⟩ hh;rw[cE (G.rd.rl.le (by omega)) (G.rd.rl i hi).1,R.gM (G.rd.rl i hi).2];decide
section
variable {X h:Nat}(hX:X<2^37){t:List El}{a:El}
include hX
theorem u4 {w:El}(W:GQ X h t)(hw:w.length=2^h)(sw:g9 X h t w)(c:Pr prog 219 [tV h t,eV a] (.aB [eV w,.one (.bool true)])):
  Pr prog 199 [tV h t,eV a] (.aB [eV (if bn h t w<0 then aH w else w),.one (.bool true)]):=by
 have s:=nh hX W.rq hw sw;have n:=wE W.rq.tq.tk w hw (.of sw.qb (by omega));refine pw func199 ⟨[0,1,4,5,6,7,15,19],[]⟩ ?_;simp only[Tryz.f199,ntmps199,iz,seval];simp only[vx,T,seval,tV,tC,eV,ae];refine Cg c ?_;simp only[vx,T,seval,tV,tC,eV,ae];refine Cg s ?_;simp only[vx,T,seval,tV,tC,eV,ae];refine⟨fun g=>Lg ?_,fun g=>Lg ?_⟩
 ·rw[if_pos g];simp only[vx,T,seval,tV,tC,eV,ae];refine Cg n ?_;simp only[vx,T,seval,tV,tC,eV,ae];exact Ve rfl
 rw[if_neg g];simp only[vx,T,seval,tV,tC,eV,ae];exact Ve rfl
omit hX in
theorem uV {l:List (Nat→C)}(c:Pr prog 219 [tV h t,eV a] (.aB [.one (GC l),.one (.bool false)])):
  Pr prog 199 [tV h t,eV a] (.aB [.one .nil,.one (.bool false)]):=by
 refine pw func199 ⟨[0,1,4,5,6,7,15,19],[]⟩ ?_;simp only[Tryz.f199,ntmps199,iz,seval];simp only[vx,T,seval,tV,tC,eV,ae];refine Cg c ?_;simp only[vx,T,seval,tV,tC,eV,ae,GC];exact Ve rfl
theorem uY (W:GQ X h t)(ha:a.length=2^h)(hB:FH X h t a):
  (∃w,w.length=2^h∧val h t w=R.sqrt (val h t a)∧Pr prog 199 [tV h t,eV a] (.aB [eV w,.one (.bool true)]))∨
  (lU h t (val h t a)∧Pr prog 199 [tV h t,eV a] (.aB [.one .nil,.one (.bool false)])):=by
 rcases mz hX W.rq.tq W.rd ha hB.sq with⟨b,lb,eb,cb⟩|⟨no,l,_,c⟩
 ·refine .inl ⟨_,?_,?_,u4 hX W lb (hB.rt b lb eb) cb⟩
  ·split
   ·rw[ar,lb]
   exact lb
  have e:=cE W.rd.rl lb;have nn:∀x,x=val h t b∨x= -val h t b→R.nn x→x=R.sqrt (val h t a):=by
   intro x hx hn;rw[←eb]
   rcases hx with rfl|rfl
   ·exact(R.pE hn).symm
   rw[show val h t b*val h t b= -val h t b* -val h t b by rw[R.neg_mul,R.mul_neg,R.neg_neg]];exact(R.pE hn).symm
  split
  ·rename_i g
   rw[Go.Tw.val_neg lb];refine nn _ (.inr rfl) ?_
   rcases R.dg (val h t b)with⟨k,k2⟩|⟨k,k2⟩|⟨k,k2⟩
   ·rw[k,R.gi];exact R.br.2 (.inl rfl)
   ·omega
   exact R.br.2 (.inr k)
  rename_i g
  refine nn _ (.inl rfl) ?_
  rcases R.dg (val h t b)with⟨k,k2⟩|⟨k,k2⟩|⟨k,k2⟩
  ·rw[k];exact R.br.2 (.inl rfl)
  ·exact R.br.2 (.inr k)
  omega
 exact .inr ⟨no,uV c⟩
theorem ym (W:GQ X h t):Pr prog 198 [tV h t] (.one (.bool true)):=by
 have h3:=W.rq.tq.h6;have f:∀i,i<h→Pr prog 118 [tV i t,eV (t.getD i [])] (.one (.bool true)):=fun i hi=>dG (W.rq.tq.tk.le (by omega)) _ (W.rd.rl i hi).1 (W.rq.tq.tk.q i hi);have s:∀i,i<h→Pr prog 100 [tV i t,eV (t.getD i [])] (.one (.int .i64 1)):=fun i hi=>by
  have c:=nh hX (W.rq.le (show i≤h by omega)) (W.rd.rl i hi).1 (W.sq i hi).sg
  rwa [cE (W.rd.rl.le (by omega)) (W.rd.rl i hi).1,R.gM (W.rd.rl i hi).2]at c
 have q:∀i,i<h→∃l,Pr prog 219 [tV i t,eV (t.getD i [])] (.aB [.one (GC l),.one (.bool false)]):=fun i hi=>by
  rcases mz hX (W.rq.tq.le (show i≤h by omega)) (W.rd.le (by omega)) (W.rd.rl i hi).1 (W.sq i hi)with⟨b,lb,eb,_⟩|⟨_,l,_,c⟩
  ·exact absurd eb (W.rd.ns i hi _ (.of lb))
  exact⟨l,c⟩
 refine pw func198 ⟨[0,2,3,4,6,7,8,9,10,27,36],[]⟩ ?_;simp only[Tryz.f198,ntmps198,iz,seval];simp only[vx,T,seval,tV,tC,ae];refine Lk (fun y:{i:Nat//i≤h}=>⟨[(0,tV h t),(2,.one (.bool false)),(7,tV h t),(8,.one (.int .i64 h)),(9,.one (.int .i64 y.1))],[],1,38⟩) (fun y=>h-y.1) ⟨0,Nat.zero_le _⟩ ?_ (fun⟨i,hi⟩=>?_)
 ·refine Sa ?_;simp only[ry,seval,rz,tV,tC,ae]
 simp only;have wi:=wI i (by omega);simp only[vx,T,seval,tV,tC,ae];refine⟨fun k=>Lg ?_,fun k=>Lg ?_⟩
 ·have RE:i<h:=by omega
  have fi:=f i RE;have si:=s i RE;obtain⟨l,qi⟩:=q i RE;obtain⟨r,hr⟩:∃r,r=t.getD i []:=⟨_,rfl⟩;rw[←hr]at fi si qi;simp only[vx,T,seval,tV,tC,ae,←hr];refine⟨⟨by omega,by omega⟩,⟨by omega,by omega⟩,Cg fi ?_⟩;simp only[vx,T,seval,tV,tC,ae,←hr];refine⟨⟨by omega,by omega⟩,Cg si ?_⟩;simp only[vx,T,seval,tV,tC,ae,←hr];refine⟨⟨by omega,by omega⟩,Cg qi ?_⟩;simp only[vx,T,seval,tV,tC,ae,GC,wi];refine Lq ⟨i+1,by omega⟩ ?_ (by show h-(i+1)<h-i;omega);refine Sa ?_;simp only[ry,seval,rz,tV,tC,ae]
 simp only[vx,T,seval,tV,tC,ae];exact Ve rfl
end
def wT (t:List El)(k:Nat)(i:Nat)(_:Nat):C:=if i<k then ae (t.getD i [])else .nil
theorem Oe {t:List El}{i k j:Nat}{r:El}(hr:r=t.getD i [])(hj:j<1):bt (wT t i) i 0 [ae r] k j=wT t (i+1) k j:=by
 obtain rfl:j=0:=by omega
 unfold bt wT
 by_cases hk:k=i
 ·subst hk;rw[if_pos rfl,if_pos (Nat.le_refl _),if_pos (by simp),if_pos (by omega),hr,Nat.sub_self];rfl
 rw[if_neg hk]
 by_cases h2:k<i
 ·rw[if_pos h2,if_pos (by omega)]
 rw[if_neg h2,if_neg (by omega)]
theorem Nz {t:List El}{e:TypeId}{n:Nat}:Y5 [] 0 (Bk.rows e 1 n (wT t n)) (Bk.rows e 1 n (fun i _=>ae (t.getD i []))):=⟨rfl,rfl,fun i j hi _=>by
 rw[wT,if_pos hi]⟩
theorem Ba {h:Nat}(hh:h≤8)(t:List El)(hl:∀i,i<h→(t.getD i []).length<2^38):Fr prog 200 [tV h t] (.rows 35 1 h (fun i _=>ae (t.getD i []))):=by
 refine fw func200 ⟨[0,2,3,4,5,9,10,11,12],[]⟩ ?_;simp only[Tryz.f200,ntmps200,iz,seval];simp only[vx,T,seval,tV,tC,ae];refine⟨by omega,Lk (fun y:{i:Nat//i≤h}=>⟨[(0,tV h t),(3,.one (.own 1 1 0 h)),(9,tV h t),(10,.one (.int .i64 h)),(11,.one (.int .i64 y.1))],[(1,⟨.rows 35 1 h (wT t y.1),true⟩)],2,23⟩) (fun y=>h-y.1) ⟨0,Nat.zero_le _⟩ ?_ (fun⟨i,hi⟩=>?_)⟩
 ·refine Sa ?_;simp only[ry,seval,rz,tV,tC,ae];exact fun i j _ hj=>by
               obtain rfl:j=0:=by omega
               rw[wT,if_neg (Nat.not_lt_zero _)];rfl
 simp only;have wi:=wI i (by omega);simp only[vx,T,seval,tV,tC,ae];refine⟨fun g=>Lg ?_,fun g=>Lg ?_⟩
 ·have ci:=rF (t.getD i []) (hl i (by omega));obtain⟨r,hr⟩:∃r,r=t.getD i []:=⟨_,rfl⟩;rw[←hr]at ci;simp only[vx,T,seval,tV,tC,ae,←hr];refine⟨by omega,Cg ci ?_⟩;simp only[vx,T,seval,eV,tV,tC,ae,wi];refine⟨by omega,Lq ⟨i+1,by omega⟩ ?_ (by show h-(i+1)<h-i;omega)⟩;refine Sa ?_;simp only[ry,seval,rz,tV,tC,ae];exact fun k j _ hj=>Oe hr hj
 have RP:i=h:=by omega
 subst RP;simp only[vx,T,seval,tV,tC,ae];exact Nz
open Go Go.Eng
open Go.Tw (El aE aH zE ai au ar aq aa QB cJ ah ag aO aJ tB aU ay cA lL j8 g9 val In FH Rd lU TG jC bn dN cE dE)
theorem z5 (h:Nat)(k j:Nat)(hj:j<4):
  bt (fQ (zE (2^(h+1)))) (2^h) 0 [C.bool (zs (Rat.ofInt 1).num),C.ints .u32 (zm (Rat.ofInt 1).num),C.bool (zs ((Rat.ofInt 1).den:Int)),C.ints .u32 (zm ((Rat.ofInt 1).den:Int))] k j=fQ (dN h) k j:=by
 have hp:0<2^h:=Nat.pow_pos (by decide);have e1:(dN h).getD (2^h) default=Rat.ofInt 1:=by
  unfold dN;rw[X7,List.getElem?_append_right (by rw[au];exact Nat.le_refl _),au,Nat.sub_self];rfl
 unfold bt
 by_cases hk:k=2^h
 ·subst hk;rw[if_pos rfl,if_pos (Nat.zero_le _),if_pos (by simpa using hj),Nat.sub_zero];exact dH _ e1 j
 rw[if_neg hk];unfold fQ
 congr 1
 have e2:∀{n:Nat},(zE n).getD k default=0:=by
  intro n;unfold zE;rw[X7,List.getElem?_replicate]
  split<;>rfl
 rw[e2];unfold dN;rw[X7]
 by_cases hl:k<2^h
 ·rw[List.getElem?_append_left (by rw[au];exact hl),←X7,e2]
 rw[List.getElem?_append_right (by rw[au];omega),au];unfold aU;obtain⟨d,hd⟩:∃d,k-2^h=d+1:=⟨k-2^h-1,by omega⟩;rw[hd,List.getElem?_cons_succ];unfold zE;rw[List.getElem?_replicate]
 split<;>rfl
theorem Ft {h:Nat}{U:List El}(tk:Tk (h+1) U):Pr prog 201 [tV (h+1) U,.one (.int .i64 h)] (eV (dN h)):=by
 have h8:=tk.le8;have r:=ju tk;have hs:=dO (h:=h+1) h8;have TX:=dO (h:=h) (by omega);have hp:=aN h8;have z:=ox (2^(h+1)) hp;have o:=cO 1 (by decide) (by decide);have RE:2^h<2^(h+1):=Nat.pow_lt_pow_right (by decide) (by omega);have hlen:(zE (2^(h+1))).length=2^(h+1):=au;obtain⟨N,hN⟩:∃N,N=2^(h+1):=⟨_,rfl⟩;obtain⟨M,hM⟩:∃M,M=2^h:=⟨_,rfl⟩;have st:=z5 h;rw[←hN]at hs z RE hlen hp st;rw[←hM]at TX RE st;have hs:IntKind.i64.wrap (1*2^(if h≤63 then h+1 else 64))=(N:Int):=by
  rw[if_pos (by omega)]at hs⊢;exact hs
 refine pw func201 ⟨[0,1,4,5,18],[]⟩ ?_;simp only[Tryz.f201,ntmps201,iz,seval];simp only[vx,T,seval,tV,tC,ae];refine Cg r ?_;simp only[vx,T,seval,tV,tC,ae];refine⟨fun h=>absurd h (by omega),fun _=>Lg ?_⟩;simp only[vx,T,seval,tV,tC,ae,hs,TX];refine⟨fun h=>absurd h (by omega),fun _=>Lg ?_⟩;simp only[vx,T,seval,tV,tC,ae,hs,TX];refine⟨by omega,cK.fresh z ?_⟩;simp only[vx,T,seval,tV,tC,ae,hs,TX];refine⟨by omega,Cg o ?_⟩;simp only[vx,T,seval,tV,tC,ae,QV,QC,hs,TX,hlen];exact⟨⟨by omega,by omega⟩,fB.cell (dB.rows (by rw[Go.Tw.kC,hN]) fun i j _ hj=>.of_eq (st i j hj))⟩
open Go Go.Eng
open Go.Tw (El aE aH zE ai au ar aq aa QB cJ ah ag aO aJ tB aU ay cA lL j8 g9 val In FH Rd lU TG jC bn dN cE dE)
section
variable {A:List R}(S:Go.Tw.Src 64 A)(hA:Go.Tw.j9 A){t:List El}{a:El}
include S hA
theorem Ah (G:TG A t)(ha:a.length=2^t.length)(hn:R.nn (val t.length t a))(hB:FH jC t.length t a):
  (∃w,w.length=2^t.length∧val t.length t w=R.sqrt (val t.length t a)∧Pr prog 175 [tV t.length t,eV a] (.aB [tV t.length t,eV w,.one (.int .i64 0)]))∨
  (lU t.length t (val t.length t a)∧Pr prog 175 [tV t.length t,eV a] (.aB [tV (t.length+1) (t++[a]),eV (dN t.length),.one (.int .i64 0)])):=by
 have W:=Ax S hA G (Nat.le_refl _);have hX:jC<2^37:=by decide
 have h3:=W.rq.tq.h6;have f:=dG W.rq.tq.tk a ha (.of hB.sq.qb (by omega));have rd:=ym hX W;have sg:=nh hX W.rq ha hB.sq.sg;have hs:¬bn t.length t a<0:=by
  rw[cE W.rd.rl ha]
  rcases R.dg (val t.length t a)with⟨k,k2⟩|⟨k,k2⟩|⟨k,k2⟩
  ·omega
  ·omega
  exact absurd k hn
 have cl:=Ba (h:=t.length) (by omega) t (fun i hi=>by rw[(W.rd.rl i hi).1];exact aN (by omega));obtain⟨n,RS⟩:∃n,n=t.length:=⟨_,rfl⟩
 rcases uY hX W ha hB with⟨w,lw,ew,cw⟩|⟨no,c⟩
 ·refine .inl ⟨w,lw,ew,?_⟩;rw[←RS]at f rd sg cl cw hs⊢;have cl:=cl.rows;refine pw func175 ⟨[0,1,4,5,6,7,8,9,10,20,31,37],[]⟩ ?_;simp only[Tryz.f175,ntmps175,iz,seval];simp only[vx,T,seval,tV,tC,eV,ae];refine Cg f ?_;simp only[vx,T,seval,tV,tC,eV,ae];refine Cg rd ?_;simp only[vx,T,seval,tV,tC,eV,ae];refine Cg sg ?_;simp only[vx,T,seval,tV,tC,eV,ae];refine⟨fun h=>absurd h hs,fun _=>Lg ?_⟩;simp only[vx,T,seval,tV,tC,eV,ae];refine Cg cw ?_;simp only[vx,T,seval,tV,tC,eV,ae];refine Cg cl ?_;simp only[vx,T,seval,tV,tC,eV,ae];exact Ve rfl
 refine .inr ⟨no,?_⟩;have q:=rF a (by rw[ha];exact aN (by omega));have tk:Tk (t.length+1) (t++[a]):=by
  have key:∀i,i<t.length+1→i<t.length∨i=t.length:=fun i hi=>by omega
  refine⟨by omega,fun i hi=>?_,fun i hi=>?_⟩
  ·rcases key i hi with h|rfl
   ·rw[Go.Tw.df h];exact(W.rd.rl i h).1
   rw[Go.Tw.fO];exact ha
  rcases key i hi with h|rfl
  ·rw[Go.Tw.df h];exact W.rq.tq.tk.q i h
  rw[Go.Tw.fO];exact .of hB.sq.qb (by omega)
 have ro:=Ft tk;obtain⟨u,hu⟩:∃u,u=t++[a]:=⟨_,rfl⟩;have eu:∀i j,i<n+1→j<1→(if i<n then ae (t.getD i [])else[ae a].getD ((i-n)*1+j) .any)=ae (u.getD i []):=fun i j hi hj=>by
  obtain rfl:j=0:=by omega
  rw[RS,hu]
  by_cases h:i<t.length
  ·rw[if_pos h,Go.Tw.df h]
  obtain rfl:i=t.length:=by omega
  rw[if_neg h,Go.Tw.fO,Nat.sub_self];rfl
 rw[←hu]at ro⊢;rw[←RS]at f rd sg cl c ro hs h3⊢;refine pw func175 ⟨[0,1,4,5,6,7,8,9,10,20,31,37],[]⟩ ?_;simp only[Tryz.f175,ntmps175,iz,seval];simp only[vx,T,seval,tV,tC,eV,ae];refine Cg f ?_;simp only[vx,T,seval,tV,tC,eV,ae];refine Cg rd ?_;simp only[vx,T,seval,tV,tC,eV,ae];refine Cg sg ?_;simp only[vx,T,seval,tV,tC,eV,ae];refine⟨fun h=>absurd h hs,fun _=>Lg ?_⟩;simp only[vx,T,seval,tV,tC,eV,ae];refine Cg c ?_;simp only[vx,T,seval,tV,tC,eV,ae];refine⟨fun h=>absurd h (by omega),fun _=>Lg ?_⟩;simp only[vx,T,seval,tV,tC,eV,ae];refine cK.fresh cl ?_;simp only[vx,T,seval,tV,tC,eV,ae];refine Cg q ?_;simp only[vx,T,seval,tV,tC,eV,ae];refine⟨⟨by omega,by omega⟩,Cg (ro.args ⟨.cell (.rows rfl fun i j hi hj=>.of_eq (eu i j hi hj)),.refl _,trivial⟩) ?_⟩;simp only[vx,T,seval,tV,tC,eV,ae];exact fB.aB ⟨.cell (.rows rfl fun i j hi hj=>.of_eq (eu i j hi hj)),.refl _,.refl _,trivial⟩
end
open Go Go.Eng
open Go.Tw (El aE aH zE ai au ar aq aa QB cJ ah ag tB aU ay val In Rd TG cB a8)
theorem Km (a:El)(h0:0<a.length)(hl:a.length<2^38):Fr prog 174 [eV a] (.rows 62 4 a.length (fQ a)):=by
 refine fw func174 ⟨[0,2,4],[]⟩ ?_;simp only[Tryz.f174,ntmps174,iz,seval];simp only[vx,T,seval,eV,ae];intro b hb;obtain rfl:=hb h0;refine Lg ?_;simp only[vx,T,seval];exact⟨⟨by omega,by omega⟩,rfl,rfl,fun i j _ _=>if_neg (Nat.not_lt_zero _)⟩
theorem MD {ks:El}{k:Nat}(hk:ks.length=k):∀(i j:Nat),i<k+1→j<4→
  (if i<k then fQ ks i j else[C.bool (zs (Rat.ofInt 0).num),C.ints .u32 (zm (Rat.ofInt 0).num),C.bool (zs ((Rat.ofInt 0).den:Int)),C.ints .u32 (zm ((Rat.ofInt 0).den:Int))].getD ((i-k)*4+j) C.any)=fQ (ks++[0]) i j:=by
 subst hk;intro i j hi hj
 by_cases h:i<ks.length
 ·rw[if_pos h];unfold fQ;rw[X7,X7,List.getElem?_append_left h]
 have:i=ks.length:=by omega
 subst this;rw[if_neg h,Nat.sub_self,Nat.zero_mul,Nat.zero_add];exact dH (Rat.ofInt 0) (by rw[X7,List.getElem?_append_right (Nat.le_refl _),Nat.sub_self];rfl) j
theorem Dm (a:El)(k:Nat):a++zE (k+1)=(a++zE k)++[0]:=by
 rw[←Go.Tw.B5,List.append_assoc];rfl
theorem mD {h:Nat}{t:List El}{a:El}(hh:h≤8)(h0:0<a.length)(hl:a.length≤2^h):Pr prog 138 [tV h t,eV a] (eV (cB h a)):=by
 have hp:=aN hh;have c:=Km a h0 (by omega);have z:=cO 0 (by decide) (by decide);have hs:=dO (h:=h) hh;have e:cB h a=a++zE (2^h-a.length):=rfl;rw[e];obtain⟨N,hN⟩:∃N,N=2^h:=⟨_,rfl⟩;rw[←hN]at hs hl hp⊢;refine pw func138 ⟨[0,1,4,5,13],[]⟩ ?_;simp only[Tryz.f138,ntmps138,iz,seval];simp only[vx,T,seval,tV,tC,eV,ae];refine cK.fresh c ?_;simp only[vx,T,seval,tV,tC,eV,ae];refine Lk (fun y:{k:Nat//a.length+k≤N}=>⟨[(0,tV h t),(4,.one .nil),(5,.one (.own 1 4 0 (a.length+y.1)))],[(1,⟨.rows 62 4 (a.length+y.1) (fQ (a++zE y.1)),true⟩)],2,19⟩) (fun y=>N-(a.length+y.1)) ⟨0,by omega⟩ ?_ (fun⟨k,hk⟩=>?_)
 ·refine Sa ?_;simp only[ry,seval,rz,tV,tC,eV,ae];exact fun i j _ _=>by rw[show a++zE 0=a from List.append_nil a]
 simp only;simp only[vx,T,seval,tV,tC,eV,ae,hs];refine⟨by omega,?_⟩;refine⟨fun g=>Lg ?_,fun g=>Lg ?_⟩
 ·simp only[vx,T,seval,tV,tC,eV,ae,hs];refine Cg z ?_;simp only[vx,T,seval,tV,tC,eV,ae,hs,QV,QC];refine⟨⟨by omega,by omega⟩,Lq ⟨k+1,by omega⟩ ?_ (by show N-(a.length+(k+1))<N-(a.length+k);omega)⟩;refine Sa ?_;simp only[ry,seval,rz,tV,tC,eV,ae,hs];exact⟨by omega,by omega,by rw[Dm];exact MD (by rw[X6,au])⟩
 simp only[vx,T,seval,tV,tC,eV,ae,hs];have ek:k=N-a.length:=by omega
 rw[←ek];exact fB.cell (dB.rows (by rw[X6,au]) fun i j _ _=>.refl _)
open Go Go.Eng
open Go.Tw (El aE aH zE ai au ar aq aa QB cJ ah ag tB aU ay val In Rd TG cB bA a8 a5)
structure FK (B X H K:Nat) (U rs:List El):Prop where
 tq:TQ H U
 hB:B<2^37
 hX:X<2^37
 r:∀i,i<K→∃m,m≤H∧(rs.getD i []).length=2^m
 m:∀j,j<K→∀b,b.length=2^j→QB B b→cJ X H U (a8 H U rs j b) (cB H (rs.getD j []))
theorem FK.le {B X H K k:Nat}{U rs:List El}(I:FK B X H K U rs)(hk:k≤K):FK B X H k U rs:=⟨I.tq,I.hB,I.hX,fun i hi=>I.r i (by omega),fun j hj=>I.m j (by omega)⟩
def eM (H:Nat)(U rs:List El):V:=.agg [tC H U,tC rs.length rs]
theorem Ny {B X H:Nat}{U rs:List El}{a:El}(I:FK B X H 0 U rs)(ha:a.length=2^0)(hq:QB B a):Pr prog 140 [eM H U rs,eV a] (eV (a8 H U rs 0 a)):=by
 obtain⟨x,rfl⟩:=Go.Tw.bx ha;have hB:=I.hB;have hx:qm x≤B:=hq x (by simp);have f:=eF I.tq.tk x (by omega);have e:a8 H U rs 0 [x]=aU H x:=rfl;rw[e];refine pw func140 ⟨[0,1,2,4,5,6,7,8,11,26,37],[]⟩ ?_;simp only[Tryz.f140,ntmps140,iz,seval];simp only[vx,T,seval,eM,tV,tC,eV,ae,qC,X0];refine Cg f ?_;simp only[vx,T,seval,eM,tV,tC,eV,ae];exact Ve rfl
theorem kK {B X H:Nat}{U rs:List El}:∀{k:Nat} {a:El},FK B X H k U rs→k≤rs.length→k≤8→a.length=2^k→QB B a→Pr prog 140 [eM H U rs,eV a] (eV (a8 H U rs k a))
 |0,a,I,_,_,ha,hq=>Ny I ha hq
 |k+1,a,I,Yo,XO,ha,hq=>by
  have I':=I.le (Nat.le_succ k);have Ss:=ah ha;have So:=ag ha;have c1:=kK I' (by omega) (by omega) Ss (hq.take _);have c2:=kK I' (by omega) (by omega) So (hq.drop _);have hB:=I.hB;have h3:=I.tq.h6;have hp:=aN (h:=k+1) XO;have RE:2^k<2^(k+1):=Nat.pow_lt_pow_right (by decide) (by omega);have z:=dx (a.drop (2^k)) (by omega) (.of (hq.drop _) (by omega));have hn:(2^k:Nat)≤a.length:=by omega
  have cT:=fv hn;have cD:=eQ (a:=a) (n:=2^k);have c1:=c1.args (xs:=[eM H U rs,.one (.rows 4 (2^k) (fun i=>qC (a.getD i default)))]) ⟨.refl _,.cell cT,trivial⟩;have c2:=c2.args (xs:=[eM H U rs,.one (.rows 4 (a.length-2^k) (fun i=>qC (a.getD (2^k+i) default)))]) ⟨.refl _,.cell cD,trivial⟩;have z:=z.args (xs:=[.one (.rows 4 (a.length-2^k) (fun i=>qC (a.getD (2^k+i) default)))]) ⟨.cell cD,trivial⟩;have hg:∀i,i≤k→(IntKind.i64.wrap (1*2^(if i≤63 then i+1 else 64))<((a.length:Nat):Int)↔i<k):=fun i hi=>by
   have hs:=dO (h:=i+1) (by omega);rw[if_pos (by omega)]at hs⊢;rw[hs,ha]
   constructor
   ·intro h;refine Nat.lt_of_not_le fun h2=>?_
    have:=Nat.pow_le_pow_right (n:=2) (by decide) (show k+1≤i+1 by omega)
    omega
   intro h
   have:=Nat.pow_lt_pow_right (a:=2) (by decide) (show i+1<k+1 by omega)
   omega
  obtain⟨n,RS⟩:∃n,n=2^k:=⟨_,rfl⟩;have R4:a.length=2*n:=by rw[ha,Nat.pow_succ,RS];omega
  have w2:IntKind.i64.wrap (((a.length:Nat):Int).tdiv 2)=(n:Int):=by
   rw[R4,Int.tdiv_eq_ediv_of_nonneg (by omega),IntWalk.i64_in _ (by omega)];omega
  have w4:((a.length:Int)-(n:Int)).toNat=a.length-n:=by omega
  have RT:¬((a.length:Nat):Int)=1:=by
   have:=Nat.two_pow_pos k
   omega
  have st:∀(hv:¬a.drop (2^k)=zE (2^k)),True:=fun _=>trivial;refine pw func140 ⟨[0,1,2,4,5,6,7,8,11,26,37],[]⟩ ?_;simp only[Tryz.f140,ntmps140,iz,seval];simp only[vx,T,seval,eM,tV,tC,eV,ae,w2,w4];refine⟨fun h=>absurd h RT,fun _=>Lg ?_⟩;simp only[vx,T,seval,eM,tV,tC,eV,ae,w2,w4];refine Lk (fun y:{i:Nat//i≤k}=>⟨[(1,eV a),(2,.one (.ptr 1 0)),(4,.one .nil),(5,.one (.int .i64 n)),(6,.one (.int .i64 y.1))],[(1,⟨.var [tC H U,tC rs.length rs],true⟩)],2,60⟩) (fun y=>k-y.1) ⟨0,Nat.zero_le _⟩ ?_ (fun⟨i,hi⟩=>?_)
  ·refine Sa ?_;simp only[ry,seval,rz,tV,tC,eV,ae]
  simp only;have TK:=hg i hi;have wi:=wI i (by omega);simp only[vx,T,seval,tV,tC,eV,ae,wi];refine⟨by omega,?_⟩;refine⟨fun g=>Lg ?_,fun g=>Lg ?_⟩
  ·have Ud:=TK.1 g;simp only[vx,T,seval,tV,tC,eV,ae,wi];refine Lq ⟨i+1,by omega⟩ ?_ (by show k-(i+1)<k-i;omega);refine Sa ?_;simp only[ry,seval,rz,tV,tC,eV,ae]
  have Ud:i=k:=by
   have:¬i<k:=fun h=>g (TK.2 h)
   omega
  subst Ud;obtain⟨m,hm,lr⟩:=I.r i (by omega);have k1:=(I.m i (by omega) _ Ss (hq.take _)).q.1;have k2:=I.m i (by omega) _ So (hq.drop _);have Ts:(rs.getD i []).length≤2^H:=by rw[lr];exact Nat.pow_le_pow_right (by decide) hm
  have pd:=mD (t:=U) (a:=rs.getD i []) (by omega) (by rw[lr];exact Nat.two_pow_pos _) Ts;have hX:=I.hX;have mu:=ft I.hX I.tq.tk (a8 H U rs i (a.drop (2^i))) (cB H (rs.getD i [])) a5 (bA Ts) k2;have ad:=nu I.tq.tk (a8 H U rs i (a.take (2^i))) _ a5 aa (.of k1 (by omega)) (.of k2.q.2.2 (by omega));have el:=Go.Tw.zp (H:=H) (T:=U) (rs:=rs) (k:=i) (a:=a);have er:a8 H U rs (i+1) a=aE (a8 H U rs i (a.take (2^i))) (ai H U (a8 H U rs i (a.drop (2^i))) (cB H (rs.getD i []))):=rfl;rw[←er]at ad;obtain⟨r,hr⟩:∃r,r=a8 H U rs (i+1) a:=⟨_,rfl⟩;obtain⟨x,hx⟩:∃x,x=a8 H U rs i (a.take (2^i)):=⟨_,rfl⟩;obtain⟨y,hy⟩:∃y,y=a8 H U rs i (a.drop (2^i)):=⟨_,rfl⟩;obtain⟨v,hv⟩:∃v,v=rs.getD i []:=⟨_,rfl⟩;obtain⟨p,UO⟩:∃p,p=cB H v:=⟨_,rfl⟩;rw[←hr,←hx]at el ad;rw[←hx]at c1;rw[←hy]at c2;rw[←hr];rw[←hv]at pd;rw[←hy,←hv,←UO]at ad mu;rw[←UO]at pd;have RP:i<rs.length:=by omega
  by_cases hz:a.drop (2^i)=zE (2^i)
  ·rw[decide_eq_true (by rw[So];exact hz)]at z;rw[el hz];rw[←RS]at c1 z;simp only[vx,T,seval,tV,tC,eV,ae,wi,w4];refine⟨⟨by omega,by omega⟩,Cg c1 ?_⟩;simp only[vx,T,seval,eM,tV,tC,eV,ae,wi,w4];refine⟨⟨by omega,by omega,by omega⟩,Cg z ?_⟩;simp only[vx,T,seval,eM,tV,tC,eV,ae,wi,w4];exact Ve rfl
  rw[decide_eq_false (by rw[So];exact hz)]at z;rw[←RS]at c1 c2 z;simp only[vx,T,seval,tV,tC,eV,ae,wi,w4];refine⟨⟨by omega,by omega⟩,Cg c1 ?_⟩;simp only[vx,T,seval,eM,tV,tC,eV,ae,wi,w4];refine⟨⟨by omega,by omega,by omega⟩,Cg z ?_⟩;simp only[vx,T,seval,eM,tV,tC,eV,ae,wi,w4];refine⟨⟨by omega,by omega,by omega⟩,Cg c2 ?_⟩;simp only[vx,T,seval,eM,tV,tC,eV,ae,wi,w4,←hv];refine⟨⟨by omega,by omega⟩,Cg pd ?_⟩;simp only[vx,T,seval,eM,tV,tC,eV,ae,wi,w4,←hv];refine Cg mu ?_;simp only[vx,T,seval,eM,tV,tC,eV,ae,wi,w4,←hv];refine Cg ad ?_;simp only[vx,T,seval,eM,tV,tC,eV,ae,wi,w4,←hv];exact Ve rfl
open Go Go.Eng
open Go.Tw (El aE aH zE ai au ar aq aa QB cJ ah ag tB aU ay val In Rd TG cB bA a8 a5)
def oM (H:Nat)(U:List El)(n:Nat):V:=.agg [tC H U,.own 0 1 0 n]
def rB (n:Nat)(rs:List El):Bk:=.rows 35 1 n (fun j _=>ae (rs.getD j []))
theorem C5 {P:Program}{fn:FuncId}{x:V}{w n n':Nat}{f g:Nat→Nat→C}{B:Bk}{R:V→Bk→Prop}(h:Mc P fn [x,.one (.rows w n' g)] B R)(hc:dB (.rows w n f) (.rows w n' g)):Mc P fn [x,.one (.rows w n f)] B R:=
 ⟨h.1,fun ok W vs l h1 h2 h3 h4 Sd=>h.2 ok W vs l h1 h2 h3 h4 (by
  generalize vs.toList=ls at Sd⊢
  match ls,Sd with
  |[_,v2],⟨a,b,_⟩=>exact⟨a,hc ok W v2 b,trivial⟩)⟩
def Ml (rs:List El)(n:Nat)(x:V)(r:V)(B:Bk):Prop:=r=x∧B=rB n rs
theorem Jc {B X H:Nat}{U rs:List El}{n:Nat}{a:El}(I:FK B X H 0 U rs)(ha:a.length=2^0)(hq:QB B a):Mc prog 140 [oM H U n,eV a] (rB n rs) (Ml rs n (eV (a8 H U rs 0 a))):=by
 obtain⟨x,rfl⟩:=Go.Tw.bx ha;have hB:=I.hB;have hx:qm x≤B:=hq x (by simp);have f:=eF I.tq.tk x (by omega);have e:a8 H U rs 0 [x]=aU H x:=rfl;rw[e];refine mw func140 ⟨[0,1,2,4,5,6,7,8,11,26,37],[(6,(.cons 4 [] (.cons 5 [] .nil .nil) .nil)),(9,(.cons 6 [0,1,7,8,9,10,11,12,13] (.cons 14 [0,1] (.cons 15 [] (.cons 16 [] .nil .nil) .nil) .nil) .nil))]⟩ ?_;simp only[Tryz.f140,ntmps140,iz,seval];simp only[vx,T,seval,oM,rB,tV,tC,eV,ae,qC,X0];refine Cg f ?_;simp only[vx,T,seval,oM,rB,tV,tC,eV,ae];exact⟨rfl,rfl⟩
theorem mQ {B X H:Nat}{U rs:List El}{N:Nat}(hN:rs.length=N):∀{k:Nat} {a:El},FK B X H k U rs→k≤rs.length→k≤8→a.length=2^k→QB B a→Mc prog 140 [oM H U N,eV a] (rB N rs) (Ml rs N (eV (a8 H U rs k a)))
 |0,a,I,_,_,ha,hq=>Jc I ha hq
 |k+1,a,I,Yo,XO,ha,hq=>by
  have I':=I.le (Nat.le_succ k);have Ss:=ah ha;have So:=ag ha;have c1:=mQ hN I' (by omega) (by omega) Ss (hq.take _);have c2:=mQ hN I' (by omega) (by omega) So (hq.drop _);have hB:=I.hB;have h3:=I.tq.h6;have hp:=aN (h:=k+1) XO;have RE:2^k<2^(k+1):=Nat.pow_lt_pow_right (by decide) (by omega);have z:=dx (a.drop (2^k)) (by omega) (.of (hq.drop _) (by omega));have hn:(2^k:Nat)≤a.length:=by omega
  have cT:=fv hn;have cD:=eQ (a:=a) (n:=2^k);have c1:=C5 c1 cT;have c2:=C5 c2 cD;have z:=z.args (xs:=[.one (.rows 4 (a.length-2^k) (fun i=>qC (a.getD (2^k+i) default)))]) ⟨.cell cD,trivial⟩;have hg:∀i,i≤k→(IntKind.i64.wrap (1*2^(if i≤63 then i+1 else 64))<((a.length:Nat):Int)↔i<k):=fun i hi=>by
   have hs:=dO (h:=i+1) (by omega);rw[if_pos (by omega)]at hs⊢;rw[hs,ha]
   constructor
   ·intro h;refine Nat.lt_of_not_le fun h2=>?_
    have:=Nat.pow_le_pow_right (n:=2) (by decide) (show k+1≤i+1 by omega)
    omega
   intro h
   have:=Nat.pow_lt_pow_right (a:=2) (by decide) (show i+1<k+1 by omega)
   omega
  obtain⟨n,RS⟩:∃n,n=2^k:=⟨_,rfl⟩;have R4:a.length=2*n:=by rw[ha,Nat.pow_succ,RS];omega
  have w2:IntKind.i64.wrap (((a.length:Nat):Int).tdiv 2)=(n:Int):=by
   rw[R4,Int.tdiv_eq_ediv_of_nonneg (by omega),IntWalk.i64_in _ (by omega)];omega
  have w4:((a.length:Int)-(n:Int)).toNat=a.length-n:=by omega
  have RT:¬((a.length:Nat):Int)=1:=by
   have:=Nat.two_pow_pos k
   omega
  have st:∀(hv:¬a.drop (2^k)=zE (2^k)),True:=fun _=>trivial;refine mw func140 ⟨[0,1,2,4,5,6,7,8,11,26,37],[(6,(.cons 4 [] (.cons 5 [] .nil .nil) .nil)),(9,(.cons 6 [0,1,7,8,9,10,11,12,13] (.cons 14 [0,1] (.cons 15 [] (.cons 16 [] .nil .nil) .nil) .nil) .nil))]⟩ ?_;simp only[Tryz.f140,ntmps140,iz,seval];simp only[vx,T,seval,oM,rB,tV,tC,eV,ae,w2,w4];refine⟨fun h=>absurd h RT,fun _=>Lg ?_⟩;simp only[vx,T,seval,oM,rB,tV,tC,eV,ae,w2,w4];refine Lk (fun y:{i:Nat//i≤k}=>⟨[(1,eV a),(2,.one (.ptr 1 0)),(4,.one .nil),(5,.one (.int .i64 n)),(6,.one (.int .i64 y.1))],[(0,⟨rB N rs,true⟩),(1,⟨.var [tC H U,.own 0 1 0 N],true⟩)],2,60⟩) (fun y=>k-y.1) ⟨0,Nat.zero_le _⟩ ?_ (fun⟨i,hi⟩=>?_)
  ·refine Sa ?_;simp only[ry,seval,rz,rB,tV,tC,eV,ae]
  simp only;have TK:=hg i hi;have wi:=wI i (by omega);simp only[vx,T,seval,rB,tV,tC,eV,ae,wi];refine⟨by omega,?_⟩;refine⟨fun g=>Lg ?_,fun g=>Lg ?_⟩
  ·have Ud:=TK.1 g;simp only[vx,T,seval,rB,tV,tC,eV,ae,wi];refine Lq ⟨i+1,by omega⟩ ?_ (by show k-(i+1)<k-i;omega);refine Sa ?_;simp only[ry,seval,rz,rB,tV,tC,eV,ae]
  have Ud:i=k:=by
   have:¬i<k:=fun h=>g (TK.2 h)
   omega
  subst Ud;obtain⟨m,hm,lr⟩:=I.r i (by omega);have k1:=(I.m i (by omega) _ Ss (hq.take _)).q.1;have k2:=I.m i (by omega) _ So (hq.drop _);have Ts:(rs.getD i []).length≤2^H:=by rw[lr];exact Nat.pow_le_pow_right (by decide) hm
  have pd:=mD (t:=U) (a:=rs.getD i []) (by omega) (by rw[lr];exact Nat.two_pow_pos _) Ts;have hX:=I.hX;have mu:=ft I.hX I.tq.tk (a8 H U rs i (a.drop (2^i))) (cB H (rs.getD i [])) a5 (bA Ts) k2;have ad:=nu I.tq.tk (a8 H U rs i (a.take (2^i))) _ a5 aa (.of k1 (by omega)) (.of k2.q.2.2 (by omega));have el:=Go.Tw.zp (H:=H) (T:=U) (rs:=rs) (k:=i) (a:=a);have er:a8 H U rs (i+1) a=aE (a8 H U rs i (a.take (2^i))) (ai H U (a8 H U rs i (a.drop (2^i))) (cB H (rs.getD i []))):=rfl;rw[←er]at ad;obtain⟨r,hr⟩:∃r,r=a8 H U rs (i+1) a:=⟨_,rfl⟩;obtain⟨x,hx⟩:∃x,x=a8 H U rs i (a.take (2^i)):=⟨_,rfl⟩;obtain⟨y,hy⟩:∃y,y=a8 H U rs i (a.drop (2^i)):=⟨_,rfl⟩;obtain⟨v,hv⟩:∃v,v=rs.getD i []:=⟨_,rfl⟩;obtain⟨p,UO⟩:∃p,p=cB H v:=⟨_,rfl⟩;rw[←hr,←hx]at el ad;rw[←hx]at c1;rw[←hy]at c2;rw[←hr];rw[←hv]at pd;rw[←hy,←hv,←UO]at ad mu;rw[←UO]at pd;have RP:i<rs.length:=by omega
  by_cases hz:a.drop (2^i)=zE (2^i)
  ·rw[decide_eq_true (by rw[So];exact hz)]at z;rw[el hz];rw[←RS]at c1 z;simp only[vx,T,seval,rB,tV,tC,eV,ae,wi,w4];refine⟨⟨by omega,by omega⟩,Cm 0 (B:=rB N rs) rfl trivial c1 ?_⟩;rintro _ _ ⟨rfl,rfl⟩ _;simp only[vx,T,seval,oM,rB,tV,tC,eV,ae,wi,w4];refine⟨⟨by omega,by omega,by omega⟩,Cg z ?_⟩;simp only[vx,T,seval,oM,rB,tV,tC,eV,ae,wi,w4];exact⟨rfl,rfl⟩
  rw[decide_eq_false (by rw[So];exact hz)]at z;rw[←RS]at c1 c2 z;simp only[vx,T,seval,rB,tV,tC,eV,ae,wi,w4];refine⟨⟨by omega,by omega⟩,Cm 0 (B:=rB N rs) rfl trivial c1 ?_⟩;rintro _ _ ⟨rfl,rfl⟩ _;simp only[vx,T,seval,oM,rB,tV,tC,eV,ae,wi,w4];refine⟨⟨by omega,by omega,by omega⟩,Cg z ?_⟩;simp only[vx,T,seval,oM,rB,tV,tC,eV,ae,wi,w4];refine⟨⟨by omega,by omega,by omega⟩,⟨by omega,by omega⟩,Cm 0 (B:=rB N rs) rfl trivial c2 ?_⟩;rintro _ _ ⟨rfl,rfl⟩ _;simp only[vx,T,seval,oM,rB,tV,tC,eV,ae,wi,w4,←hv];refine⟨⟨by omega,by omega⟩,Cg pd ?_⟩;simp only[vx,T,seval,oM,rB,tV,tC,eV,ae,wi,w4,←hv];refine Cg mu ?_;simp only[vx,T,seval,oM,rB,tV,tC,eV,ae,wi,w4,←hv];refine Cg ad ?_;simp only[vx,T,seval,oM,rB,tV,tC,eV,ae,wi,w4,←hv];exact⟨rfl,rfl⟩
end Go.Proofs.YtchkplkghknabaaGreat
namespace Go.Tw
open Go Go.R Go.Eng
theorem QB.bits {B:Nat}{a:El}(h:QB B a):gW (32*B) a:=fun c hc=>by
 have h1:=h c hc;unfold qm at h1;have key:∀n,nl n≤B→n≤2^(32*B):=fun n hn=>by
  have:=cC n
  have h2:BB^nl n≤BB^B:=Nat.pow_le_pow_right (by decide) hn;have h3:BB^B=2^(32*B):=by rw[show BB=2^32 from rfl,←Nat.pow_mul]
  omega
 exact⟨key _ (by unfold zn at h1;omega),key _ (by omega)⟩
section
variable {A:List R}{u T rs:List El}{K:Nat}
theorem Ext.Dt (E:Ext A u K T rs){i:Nat}(hi:i<K):In T.length T (R.sqrt (val i u (u.getD i []))):=by
 obtain⟨m,hm,hl,hv⟩:=E.root i hi;rw[←hv];exact(In.of hl).le hm
theorem Ext.num (E:Ext A u K T rs)(hu:∀i,i<K→val i u (u.getD i [])∈A){j:Nat}(hj:j≤K){b:El}{B:Nat}(hb:b.length=2^j)(hB:gW B b):
  ax A T (a8 T.length T rs j b) (val j u b) ((B+1)*2^j) (2^j):=
 ⟨E.tg,a5,lv E hj hb,fun c=>(Sz.expr (c:=c) hb hB (fun i hi=>.gen ⟨⟨_,hu i (by omega),rfl⟩,rfl⟩)).mono (by have:=ti (B:=B) (c:=c) j;omega)⟩
theorem Ext.GB (E:Ext A u K T rs)(hu:∀i,i<K→val i u (u.getD i [])∈A){i:Nat}(hi:i<K):ax A T (cB T.length (rs.getD i [])) (R.sqrt (val i u (u.getD i []))) 0 1:=by
 obtain⟨m,hm,hl,hv⟩:=E.root i hi;exact⟨E.tg,bA (by rw[hl];exact Nat.pow_le_pow_right (by decide) hm),by rw[so hl hm,hv],lK.root (hu i hi)⟩
def mF (F β μ:Nat):Nat:=2^F*(β+μ*nU F+3*cW)/32+1
theorem Lu {F β μ β' μ':Nat}(h1:β≤β')(h2:μ≤μ'):mF F β μ≤mF F β' μ':=by
 unfold mF;have h3:μ*nU F≤μ'*nU F:=Nat.mul_le_mul_right _ h2;have h4:2^F*(β+μ*nU F+3*cW)≤2^F*(β'+μ'*nU F+3*cW):=Nat.mul_le_mul_left _ (by omega);omega
theorem MM {h F β μ:Nat}(h1:h≤F):bM h (2^(F-h)*(β+μ*nU F))≤mF F β μ:=by
 have e1:2^h*2^(F-h)=2^F:=by rw[←Nat.pow_add];congr 1;omega
 have e2:=Nat.mul_le_mul_right (3*cW) (Nat.pow_le_pow_right (n:=2) (by decide) h1);have e3:2^h*(2^(F-h)*(β+μ*nU F)+3*cW)≤2^F*(β+μ*nU F+3*cW):=by
  rw[Nat.mul_add,←Nat.mul_assoc,e1,Nat.mul_add (2^F) (β+μ*nU F)];omega
 unfold bM mF;omega
section
variable (S:Src 64 A)(hA:j9 A)
include S hA
theorem ax.Q3 {t:List El}{a:El}{x:R}{β μ F:Nat}(h:ax A t a x β μ)(I:NF A F):QB (mF F β μ) a:=by
 obtain⟨F',I',z,w,d,E,hx⟩:=h.tg.rj S hA;obtain rfl:=I.eq I';exact(E.qb h.len (hx h.in h.val h.sz)).mono (Nat.le_trans (sR (by omega)) (MM (I.mx _ h.tg)))
theorem ax.Rs {t:List El}{a b:El}{x y:R}{β μ β' μ' F:Nat}(h:ax A t a x β μ)(k:ax A t b y β' μ')(I:NF A F):cJ (mF F (β+β') (μ+μ')) t.length t a b:=by
 obtain⟨F',I',z,w,d,E,hx⟩:=h.tg.rj S hA;obtain rfl:=I.eq I'
 refine(cJ.of E h.len k.len (hx h.in h.val h.sz) (hx k.in k.val k.sz) (s:=2^(F-t.length)*((β+β')+(μ+μ')*nU F)) ?_).mono (MM (I.mx _ h.tg))
 rw[←Nat.mul_add,Nat.add_mul];exact Nat.mul_le_mul_left _ (by omega)
structure QU (B X H K:Nat) (U rs:List El):Prop where
 r:∀i,i<K→∃m,m≤H∧(rs.getD i []).length=2^m
 m:∀j,j<K→∀b,b.length=2^j→QB B b→cJ X H U (a8 H U rs j b) (cB H (rs.getD j []))
def jX (F B k:Nat):Nat:=mF F ((32*B+1)*2^(k-1)) (2^(k-1)+1)
theorem Ext.QQ (E:Ext A u K T rs)(hu:∀i,i<K→val i u (u.getD i [])∈A){F B X:Nat}(I:NF A F)(hX:jX F B K≤X):QU B X T.length K T rs:=by
 refine⟨fun i hi=>?_,fun j hj b hb hq=>?_⟩
 ·obtain⟨m,k1,k2,_⟩:=E.root i hi;exact⟨m,k1,k2⟩
 have hp:2^j≤2^(K-1):=Nat.pow_le_pow_right (by decide) (by omega);exact(((E.num hu (by omega) hb hq.bits).mono (Nat.mul_le_mul_left _ hp) hp).Rs S hA (E.GB hu hj) I).mono hX
end
def yX:Nat:=2^31
theorem Ow:∀F,F≤6→∀k,k≤F→jX F tB k≤yX:=by decide+kernel
end
theorem chain {α:Type}{I:Nat→α→Prop}{St:Nat→α→α→Prop}{x0:α}(h0:I 0 x0):∀{n:Nat} (_:∀i x,i<n→I i x→∃y,St i x y∧I (i+1) y),
  ∃s:Nat→α,s 0=x0∧(∀i,i≤n→I i (s i))∧∀i,i<n→St i (s i) (s (i+1))
 |0,_=>⟨fun _=>x0,rfl,fun i hi=>by
                       obtain rfl:i=0:=by omega
                       exact h0,fun i hi=>absurd hi (Nat.not_lt_zero _)⟩
 |n+1,h=>by
  obtain⟨s,e0,h1,h2⟩:=chain h0 (n:=n) (fun i x hi=>h i x (by omega));obtain⟨y,hy,hI⟩:=h n (s n) (by omega) (h1 n (Nat.le_refl n));refine⟨fun j=>if j≤n then s j else y,by simp[e0],fun i hi=>?_,fun i hi=>?_⟩
  ·by_cases k:i≤n
   ·simp only[if_pos k];exact h1 i k
   obtain rfl:i=n+1:=by omega
   simp only[if_neg k];exact hI
  by_cases k:i+1≤n
  ·simp only[if_pos k,if_pos (show i≤n by omega)];exact h2 i (by omega)
  obtain rfl:i=n:=by omega
  simp only[if_neg k,if_pos (Nat.le_refl i)];exact hy
end Go.Tw
namespace Go.Proofs.YtchkplkghknabaaGreat
open Go.Proofs.Tryz
open Go Go.Eng
open Go.Tw (El aE aH zE ai au QB cJ tB val In Rd lU TG cB bA a8 a5 Ext jC yX)
theorem jV (rn:List (Nat×Option Nat)){e e':List (Nat×V)}{o o':List (Nat×fA)}{x x' n:Nat}(h:(rU rn 0=some 0∧0<x')∧Y0 rn x' e e'∧Y4 rn x' o o'∧Y6 rn o'):Sub ⟨e,o,x,n⟩ ⟨e',o',x',n⟩:=
 Sub.of rn h.1 rfl h.2.1 h.2.2.1 h.2.2.2
def KJ (A:List R)(t u:List El)(i:Nat)(x:List El×List El):Prop:=(∃s,x.1=t++s)∧Ext A u i x.1 x.2∧((∀j,j<i→In t.length t (R.sqrt (val j u (u.getD j []))))→x.1=t)
def Qo (f g:FuncId)(u:List El)(i:Nat)(x y:List El×List El):Prop:=
 ∃e w,Mc prog f [oM x.1.length x.1 i,eV (u.getD i [])] (rB i x.2) (Ml x.2 i (eV e))∧Pr prog g [tV x.1.length x.1,eV e] (.aB [tV y.1.length y.1,eV w,.one (.int .i64 0)])∧y.2=x.2++[w]
section
variable {A:List R}(S:Go.Tw.Src 64 A)(hA:Go.Tw.j9 A){t u:List El}
include S hA
theorem lM (G:TG A t):TQ t.length t:=(Ax S hA G (Nat.le_refl _)).rq.tq
theorem H3 (G:TG A u){k:Nat}{U rs:List El}(E:Ext A u k U rs)(hk:k≤u.length):FK tB yX U.length k U rs:=by
 obtain⟨F,I,_⟩:=G.rj S hA;have hF:=I.mx _ G;have N:=E.QQ S hA (fun i hi=>G.mem i (by omega)) I (Go.Tw.Ow F I.le k (by omega));exact⟨lM S hA E.tg,by decide,by decide,N.r,N.m⟩
theorem Hs (G:TG A t)(Gu:TG A u):∃s:Nat→List El×List El,s 0=(t,[])∧(∀i,i≤u.length→KJ A t u i (s i))∧
  ∀i,i<u.length→Qo 140 175 u i (s i) (s (i+1)):=by
 have h3:=Gu.nN hA;refine Go.Tw.chain (I:=KJ A t u) ⟨⟨[],(List.append_nil t).symm⟩,⟨G,rfl,fun i hi=>absurd hi (Nat.not_lt_zero _)⟩,fun _=>rfl⟩ fun i x hi hx=>?_;obtain⟨U,rs⟩:=x;obtain⟨⟨s,hs⟩,E,RI⟩:=hx;have hs:U=t++s:=hs;have E:Ext A u i U rs:=E;have lu:=(Gu.rd.rl i hi).1;have ci:=mQ E.len (H3 S hA Gu E (by omega)) (by rw[E.len];exact Nat.le_refl _) (by omega) lu (Gu.qb S hA hi);have le:(a8 U.length U rs i (u.getD i [])).length=2^U.length:=a5;have ve:=Go.Tw.lv E (Nat.le_refl _) lu;have hm:val U.length U (a8 U.length U rs i (u.getD i []))∈A:=by rw[ve];exact Gu.mem i hi
 have hp:R.pos (val U.length U (a8 U.length U rs i (u.getD i []))):=by rw[ve];exact(Gu.rd.rl i hi).2
 have rb:=E.tg.Qj S hA le hm hp
 rcases Ah S hA E.tg le (R.br.2 (.inr hp)) rb with⟨w,lw,vw,cw⟩|⟨no,c⟩
 ·refine⟨(U,rs++[w]),⟨_,w,ci,cw,rfl⟩,⟨s,hs⟩,?_,fun h=>RI fun j hj=>h j (by omega)⟩
  have:=E.up (S:=[]) (r:=w) (m:=U.length) (by rw[List.append_nil];exact E.tg) (by rw[List.append_nil];exact Nat.le_refl _) lw (by rw[List.append_nil,vw,ve])
  rwa [List.append_nil]at this
 have G':=E.tg.snoc le hm hp no;have hl:(U++[a8 U.length U rs i (u.getD i [])]).length=U.length+1:=by simp
 refine⟨(U++[a8 U.length U rs i (u.getD i [])],rs++[Go.Tw.dN U.length]),⟨_,Go.Tw.dN U.length,ci,?_,rfl⟩,⟨s++[a8 U.length U rs i (u.getD i [])],by rw[hs,List.append_assoc]⟩,?_,fun h=>?_⟩
 ·show Pr _ _ _ (.aB [tV (U++[a8 U.length U rs i (u.getD i [])]).length _,_,_]);rw[hl];exact c
 ·exact E.up G' (m:=U.length+1) (by rw[hl];exact Nat.le_refl _) Go.Tw.kC (by rw[Go.Tw.q0,ve])
 have eU:U=t:=RI fun j hj=>h j (by omega);have Se:=h i (by omega);rw[←eU]at Se;refine absurd ?_ (no _ Se);rw[ve];exact R.dk (R.br.2 (.inr (Gu.rd.rl i hi).2))
theorem jN (G:TG A t)(Gu:TG A u):∃U rs s,U=t++s∧Ext A u u.length U rs∧((∀j,j<u.length→In t.length t (R.sqrt (val j u (u.getD j []))))→U=t)∧Pr prog 139 [tV t.length t,tV u.length u] (.aB [eM U.length U rs,.one (.int .i64 0)]):=by
 obtain⟨s,e0,hI,hS⟩:=Hs S hA G Gu;have h3:=Gu.nN hA;obtain⟨⟨z,hz⟩,E,RI⟩:=hI u.length (Nat.le_refl _);refine⟨(s u.length).1,(s u.length).2,z,hz,E,RI,?_⟩;have hl:∀i,i≤u.length→(s i).2.length=i:=fun i hi=>(hI i hi).2.1.len;have Wi:∀i,i≤u.length→(s i).1.length≤6:=fun i hi=>(hI i hi).2.1.tg.nN hA;have e1:(s 0).1=t:=by rw[e0]
 rw[←e1];clear e0 e1 hI hz E RI;obtain⟨n,hn⟩:∃n,n=u.length:=⟨_,rfl⟩;rw[←hn]at hS h3 hl Wi⊢;rw[show eM (s n).1.length (s n).1 (s n).2= .agg [tC (s n).1.length (s n).1,tC n (s n).2] by unfold eM;rw[hl n (Nat.le_refl n)]];refine pw func139 ⟨[0,1,4,5,6,8,9,10,11,14,15,16,17,31],[(5,(.cons 4 [0,1] (.cons 5 [] (.cons 6 [] (.cons 7 [] (.cons 8 [] (.cons 9 [] (.cons 10 [] (.cons 11 [] (.cons 12 [] .nil .nil) .nil) .nil) (.cons 10 [] (.cons 9 [] (.cons 11 [] (.cons 12 [] .nil .nil) .nil) (.cons 11 [] (.cons 9 [] (.cons 12 [] .nil .nil) .nil) .nil)) .nil)) (.cons 9 [] (.cons 8 [] (.cons 10 [] (.cons 11 [] (.cons 12 [] .nil .nil) .nil) .nil) (.cons 10 [] (.cons 8 [] (.cons 11 [] (.cons 12 [] .nil .nil) .nil) .nil) .nil)) (.cons 10 [] (.cons 8 [] (.cons 9 [] (.cons 11 [] (.cons 12 [] .nil .nil) .nil) (.cons 11 [] (.cons 9 [] (.cons 12 [] .nil .nil) .nil) .nil)) (.cons 9 [] (.cons 8 [] (.cons 11 [] (.cons 12 [] .nil .nil) .nil) .nil) .nil)) .nil))) (.cons 8 [] (.cons 7 [] (.cons 9 [] (.cons 10 [] (.cons 11 [] (.cons 12 [] .nil .nil) .nil) .nil) (.cons 10 [] (.cons 9 [] (.cons 11 [] (.cons 12 [] .nil .nil) .nil) (.cons 11 [] (.cons 9 [] (.cons 12 [] .nil .nil) .nil) .nil)) .nil)) (.cons 9 [] (.cons 7 [] (.cons 10 [] (.cons 11 [] (.cons 12 [] .nil .nil) .nil) .nil) .nil) .nil)) (.cons 9 [] (.cons 7 [] (.cons 8 [] (.cons 10 [] (.cons 11 [] (.cons 12 [] .nil .nil) .nil) .nil) (.cons 10 [] (.cons 8 [] (.cons 11 [] (.cons 12 [] .nil .nil) .nil) .nil) .nil)) (.cons 8 [] (.cons 7 [] (.cons 10 [] (.cons 11 [] (.cons 12 [] .nil .nil) .nil) .nil) .nil) .nil)) .nil))) .nil) .nil) .nil))]⟩ ?_;simp only[Tryz.f139,ntmps139,iz,seval];simp only[vx,T,seval,eM,tV,tC,eV,ae];refine Lk (fun y:{i:Nat//i≤n}=>⟨[(4,.one (.ptr 1 0)),(5,.one (.int .i64 0)),(6,.one (.ptr 2 0)),(14,tV n u),(15,.one (.int .i64 n)),(16,.one (.int .i64 y.1))],[(1,⟨.var [.nil,.nil],true⟩),(2,⟨.var [tC (s y.1).1.length (s y.1).1,.own 3 1 0 y.1],true⟩),(3,⟨.rows 35 1 y.1 (fun j _=>ae ((s y.1).2.getD j [])),true⟩)],4,44⟩) (fun y=>n-y.1) ⟨0,Nat.zero_le _⟩ ?_ (fun⟨i,hi⟩=>?_)
 ·refine jV [(1,some 1),(2,some 5),(3,none)] ?_;simp only[ry,seval,tV,tC,eV,ae,X4]
 simp only;have wi:=wI i (by omega);simp only[vx,T,seval,tV,tC,eV,ae,wi];refine⟨fun g=>Lg ?_,fun g=>Lg ?_⟩
 ·have RP:i<n:=by omega
  obtain⟨e,w,ci,ca,er⟩:=hS i RP;have SZ:=hl i hi;have h3i:=Wi i hi;obtain⟨v,hv⟩:∃v,v=u.getD i []:=⟨_,rfl⟩;rw[←hv]at ci;obtain⟨U,hU⟩:∃U,U=(s i).1:=⟨_,rfl⟩;obtain⟨rs,S3⟩:∃rs,rs=(s i).2:=⟨_,rfl⟩;rw[←S3]at er SZ;rw[←hU,←S3]at ci;rw[←hU]at ca h3i;rw[←hU,←S3];simp only[vx,T,seval,tV,tC,eV,ae,←hv];refine⟨⟨by omega,by omega⟩,Cm 3 (B:=rB i rs) rfl trivial ci ?_⟩;rintro _ _ ⟨rfl,rfl⟩ _;simp only[vx,T,seval,rB,oM,tV,tC,eV,ae,←hv];refine Cg ca ?_;simp only[vx,T,seval,rB,oM,tV,tC,eV,ae,←hv,wi];have es:(s (i+1)).2=rs++[w]:=er;have e1:∀j,j<i→(rs++[w]).getD j []=rs.getD j []:=fun j hj=>Go.Tw.df (by omega);have e2:(rs++[w]).getD i []=w:=by rw[←SZ];exact Go.Tw.fO
  repeat' (with_reducible refine And.intro ?_ ?_)
  all_goals first|omega|(refine Lq ⟨i+1,by omega⟩ ?_ (by show n-(i+1)<n-i;omega))
  all_goals
   refine jV [(1,some 1),(2,some 2),(3,some 36)] ?_;simp only[ry,seval,tV,tC,eV,ae];rw[es];intro k j hk hj;obtain rfl:j=0:=by omega
   by_cases Vd:k<i
   ·rw[if_pos Vd,e1 k Vd]
   obtain rfl:k=i:=by omega
   rw[if_neg Vd,e2,Nat.sub_self];rfl
 have RP:i=n:=by omega
 subst RP;simp only[vx,T,seval,tV,tC,eV,ae,wi];exact Ve rfl
end
open Go Go.Eng
open Go.Tw (El aE aH zE ai au QB cJ tB val In Rd lU TG cB bA a8 a5 Ext jC yX)
def bR (x:List El×El):Nat→C
 |0=>tC x.1.length x.1
 |1=>ae x.2
 |_=>.any
def fp (l:List (List El×El))(i:Nat):Nat→C:=bR (l.getD i default)
def bU (l:List (List El×El)):C:=.rows 2 l.length (fp l)
def nX (x:List El×El):V:=nV x.1.length x.1 x.2
theorem rP {h:Nat}{t:List El}{a:El}(tk:Tk h t)(ha:a.length<2^38)(hq:Qk a):Pr prog 82 [nV h t a] (nV h t a):=by
 have h8:=tk.le8;have c:=(n8 a ha hq).rows;have d:∀i,i<h→Pr prog 117 [eV (t.getD i [])] (.one (.rows 4 (t.getD i []).length (fQ (t.getD i [])))):=fun i hi=>
  (n8 _ (by rw[tk.len i hi];exact aN (by omega)) (tk.q i hi)).rows
 refine pw func82 ⟨[0,1,2,3,5,11,12,13,14],[]⟩ ?_;simp only[Tryz.f82,ntmps82,iz,seval];simp only[vx,T,seval,nV,tC,eV,ae];refine Cg c ?_;simp only[vx,T,seval,nV,tC,eV,ae];refine Lk (fun y:{i:Nat//i≤h}=>⟨[(1,.one (.ptr 1 0)),(2,.one (.ptr 2 0)),(3,.one (.ptr 7 0)),(11,tV h t),(12,.one (.int .i64 h)),(13,.one (.int .i64 y.1))],[(1,⟨.var [tC h t,ae a],true⟩),(2,⟨.var [.nil,.nil],true⟩),(7,⟨.var [.own 8 1 0 y.1,ae a],true⟩),(8,⟨.rows 35 1 y.1 (fun j _=>ae (t.getD j [])),true⟩)],12,26⟩) (fun y=>h-y.1) ⟨0,Nat.zero_le _⟩ ?_ (fun⟨i,hi⟩=>?_)
 ·refine jV [(1,some 1),(2,some 2),(7,some 7),(8,none)] ?_;simp only[ry,seval,nV,tV,tC,eV,ae,X4];exact fun _ _ _ _=>rfl
 simp only;have wi:=wI i (by omega);simp only[vx,T,seval,tV,tC,eV,ae,wi];refine⟨fun g=>Lg ?_,fun g=>Lg ?_⟩
 ·have di:=d i (by omega);obtain⟨v,hv⟩:∃v,v=t.getD i []:=⟨_,rfl⟩;rw[←hv]at di;simp only[vx,T,seval,tV,tC,eV,ae,←hv,wi];refine⟨by omega,Cg di ?_⟩;simp only[vx,T,seval,tV,tC,eV,ae,←hv,wi];refine⟨⟨by omega,by omega⟩,Lq ⟨i+1,by omega⟩ ?_ (by show h-(i+1)<h-i;omega)⟩;refine jV [(1,some 1),(2,some 2),(7,some 7),(8,some 24)] ?_;simp only[ry,seval,tV,tC,eV,ae];intro k j hk hj;obtain rfl:j=0:=by omega
  by_cases Vd:k<i
  ·rw[if_pos Vd]
  obtain rfl:k=i:=by omega
  rw[if_neg Vd,Nat.sub_self,←hv];rfl
 have RP:i=h:=by omega
 subst RP;simp only[vx,T,seval,tV,tC,eV,ae,wi];exact Ve rfl
def u6 (t x t':List El):Prop:=
 (fa t.length x.length t x=true∧t'=t)∨(fa t.length x.length t x=false∧fa x.length t.length x t=true∧t'=x)∨
 (fa t.length x.length t x=false∧fa x.length t.length x t=false∧∃rs,Pr prog 139 [tV t.length t,tV x.length x] (.aB [eM t'.length t' rs,.one (.int .i64 0)]))
theorem rN (l:List (List El×El))(hl:l.length<2^30)(tt:Nat→List El)(h0:tt 0=[])(tk:∀i,i≤l.length→Tk (tt i).length (tt i))(xk:∀i,i<l.length→Tk (l.getD i default).1.length (l.getD i default).1)
  (st:∀i,i<l.length→u6 (tt i) (l.getD i default).1 (tt (i+1))):Pr prog 136 [.one (bU l)] (.aB [tV (tt l.length).length (tt l.length),.one (.int .i64 0)]):=by
 have e0:(tt 0).length=0:=by rw[h0];rfl
 refine pw func136 ⟨[0,2,3,4,6,7,8,9,10,11,12,23,27,32],[]⟩ ?_;simp only[Tryz.f136,ntmps136,iz,seval];simp only[vx,T,seval,bU];refine Lk (fun y:{i:Nat//i≤l.length}=>⟨[(2,.one .nil),(3,.one (.int .i64 0)),(4,tV (tt y.1).length (tt y.1)),(9,.one (bU l)),(10,.one (.int .i64 l.length)),(11,.one (.int .i64 y.1))],[],1,41⟩) (fun y=>l.length-y.1) ⟨0,Nat.zero_le _⟩ ?_ (fun⟨i,hi⟩=>?_)
 ·refine Sa ?_;simp only[ry,seval,rz,bU,tV,tC,e0]
 simp only;have wi:=wI i (by omega);simp only[vx,T,seval,bU,tV,tC,wi];refine⟨fun g=>Lg ?_,fun g=>Lg ?_⟩
 ·have RP:i<l.length:=by omega
  have sti:=st i RP;have b1:=mP (tk i hi) (xk i RP);have b2:=mP (xk i RP) (tk i hi);obtain⟨x,hx⟩:∃x,x=l.getD i default:=⟨_,rfl⟩;rw[←hx]at sti b1 b2;obtain⟨t,ht⟩:∃t,t=tt i:=⟨_,rfl⟩;rw[←ht]at sti b1 b2;obtain⟨t',Ub⟩:∃t',t'=tt (i+1):=⟨_,rfl⟩;rw[←Ub]at sti;rw[←ht]
  rcases sti with⟨g1,e⟩|⟨g1,g2,e⟩|⟨g1,g2,rs,c⟩
  ·rw[g1]at b1;simp only[vx,T,seval,bU,fp,bR,tV,tC,←hx,wi];refine⟨by omega,Cg b1 ?_⟩;simp only[vx,T,seval,bU,fp,bR,tV,tC,←hx,wi];refine Lq ⟨i+1,by omega⟩ ?_ (by show l.length-(i+1)<l.length-i;omega);refine Sa ?_;simp only[ry,seval,rz,bU,tV,tC,←Ub,e]
  ·rw[g1]at b1;rw[g2]at b2;simp only[vx,T,seval,bU,fp,bR,tV,tC,←hx,wi];refine⟨by omega,Cg b1 ?_⟩;simp only[vx,T,seval,bU,fp,bR,tV,tC,←hx,wi];refine Cg b2 ?_;simp only[vx,T,seval,bU,fp,bR,tV,tC,←hx,wi];refine Lq ⟨i+1,by omega⟩ ?_ (by show l.length-(i+1)<l.length-i;omega);refine Sa ?_;simp only[ry,seval,rz,bU,tV,tC,←Ub,e]
  rw[g1]at b1;rw[g2]at b2;simp only[vx,T,seval,bU,fp,bR,tV,tC,←hx,wi];refine⟨by omega,Cg b1 ?_⟩;simp only[vx,T,seval,bU,fp,bR,tV,tC,←hx,wi];refine Cg b2 ?_;simp only[vx,T,seval,bU,fp,bR,tV,tC,←hx,wi];refine Cg c ?_;simp only[vx,T,seval,bU,fp,bR,tV,tC,eM,←hx,wi];refine Lq ⟨i+1,by omega⟩ ?_ (by show l.length-(i+1)<l.length-i;omega);refine Sa ?_;simp only[ry,seval,rz,bU,tV,tC,←Ub]
 have RP:i=l.length:=by omega
 subst RP;simp only[vx,T,seval,bU,tV,tC,wi];exact Ve rfl
def vW (T':List El)(x:List El×El)(e:El):Prop:=
 (fa T'.length x.1.length T' x.1=true∧Pr prog 138 [tV T'.length T',eV x.2] (eV e))∨
 (fa T'.length x.1.length T' x.1=false∧∃U rs,Pr prog 139 [tV T'.length T',tV x.1.length x.1] (.aB [eM U.length U rs,.one (.int .i64 0)])∧Pr prog 140 [eM U.length U rs,eV x.2] (eV e))
theorem sZ {ks:List (List El×El)}{k:Nat}(hk:ks.length=k)(x:List El×El):∀(i j:Nat),i<k+1→j<2→
  (if i<k then fp ks i j else[tC x.1.length x.1,ae x.2].getD ((i-k)*2+j) C.any)=fp (ks++[x]) i j:=by
 subst hk;intro i j hi hj
 by_cases h:i<ks.length
 ·rw[if_pos h];unfold fp;rw[X7,X7,List.getElem?_append_left h]
 have:i=ks.length:=by omega
 subst this;have e:(ks++[x]).getD ks.length default=x:=by rw[X7,List.getElem?_append_right (Nat.le_refl _),Nat.sub_self];rfl
 rw[if_neg h,Nat.sub_self,Nat.zero_mul,Nat.zero_add];unfold fp;rw[e]
 match j,hj with
 |0,_=>rfl
 |1,_=>rfl
theorem tf (l os:List (List El×El))(hl:l.length<2^30)(VB:os.length=l.length)(U:List El)(uk:Tk U.length U)(xk:∀i,i<l.length→Tk (l.getD i default).1.length (l.getD i default).1)
  (cm:Pr prog 136 [.one (bU l)] (.aB [tV U.length U,.one (.int .i64 0)]))
  (st:∀i,i<l.length→(os.getD i default).1=U∧(os.getD i default).2.length<2^38∧Qk (os.getD i default).2∧vW U (l.getD i default) (os.getD i default).2):
  dL prog 99 [.one (bU l)] (.rows 37 2 os.length (fp os)) (.int .i64 0):=by
 have u8:=uk.le8;refine tw func99 ⟨[0,2,3,4,5,6,8,9,10,11,18,20,21,22,23,31,45],[]⟩ ?_;simp only[Tryz.f99,ntmps99,iz,seval];simp only[vx,T,seval,bU];refine Cg cm ?_;simp only[vx,T,seval,bU,tV,tC];refine Lk (fun y:{i:Nat//i≤l.length}=>⟨[(2,.one .nil),(3,.one (.int .i64 0)),(4,tV U.length U),(6,.one (.own 1 2 0 y.1)),(20,.one (bU l)),(21,.one (.int .i64 l.length)),(22,.one (.int .i64 y.1))],[(1,⟨.rows 37 2 y.1 (fp (os.take y.1)),true⟩)],16,59⟩) (fun y=>l.length-y.1) ⟨0,Nat.zero_le _⟩ ?_ (fun⟨i,hi⟩=>?_)
 ·refine Sa ?_;simp only[ry,seval,rz,bU,tV,tC]
 simp only;have wi:=wI i (by omega);simp only[vx,T,seval,bU,tV,tC,wi];refine⟨fun g=>Lg ?_,fun g=>Lg ?_⟩
 ·have RP:i<l.length:=by omega
  obtain⟨s1,s2,s3,sj⟩:=st i RP;have b1:=mP uk (xk i RP);have RW:os.take (i+1)=os.take i++[os.getD i default]:=by rw[List.take_add_one,X7,X8 (by omega)];rfl
  have XP:(os.take i).length=i:=by rw[X5];omega
  have sn:=sZ XP (os.getD i default);rw[←RW]at sn;obtain⟨x,hx⟩:∃x,x=l.getD i default:=⟨_,rfl⟩;rw[←hx]at sj b1;obtain⟨o,ho⟩:∃o,o=os.getD i default:=⟨_,rfl⟩;rw[←ho]at s1 s2 s3 sj sn;have dt:=rP uk s2 s3;rw[s1]at sn
  rcases sj with⟨g1,c⟩|⟨g1,V,rs,c,d⟩
  ·rw[g1]at b1;simp only[vx,T,seval,bU,fp,bR,tV,tC,←hx,wi];refine⟨by omega,Cg b1 ?_⟩;simp only[vx,T,seval,bU,fp,bR,tV,tC,←hx,wi];refine Cg c ?_;simp only[vx,T,seval,bU,fp,bR,tV,tC,eV,ae,←hx,wi];refine Cg dt ?_;simp only[vx,T,seval,bU,nV,tV,tC,eV,ae,wi];refine⟨⟨by omega,by omega⟩,Lq ⟨i+1,by omega⟩ ?_ (by show l.length-(i+1)<l.length-i;omega)⟩;refine Sa ?_;simp only[ry,seval,rz,bU,tV,tC,ae];exact sn
  rw[g1]at b1;simp only[vx,T,seval,bU,fp,bR,tV,tC,←hx,wi];refine⟨by omega,Cg b1 ?_⟩;simp only[vx,T,seval,bU,fp,bR,tV,tC,←hx,wi];refine Cg c ?_;simp only[vx,T,seval,bU,fp,bR,tV,tC,eV,ae,eM,←hx,wi];refine Cg d ?_;simp only[vx,T,seval,bU,fp,bR,tV,tC,eV,ae,←hx,wi];refine Cg dt ?_;simp only[vx,T,seval,bU,nV,tV,tC,eV,ae,wi];refine⟨⟨by omega,by omega⟩,Lq ⟨i+1,by omega⟩ ?_ (by show l.length-(i+1)<l.length-i;omega)⟩;refine Sa ?_;simp only[ry,seval,rz,bU,tV,tC,ae];exact sn
 have RP:i=l.length:=by omega
 subst RP;have e:os.take l.length=os:=by rw[←VB,List.take_length]
 simp only[vx,T,seval,bU,tV,tC,wi,e];exact⟨VB.symm,rfl,VB.symm,fun _ _ _ _=>rfl⟩
theorem Em (l os:List (List El×El))(hl:l.length<2^30)(VB:os.length=l.length)(U:List El)(uk:Tk U.length U)(xk:∀i,i<l.length→Tk (l.getD i default).1.length (l.getD i default).1)
  (cm:Pr prog 136 [.one (bU l)] (.aB [tV U.length U,.one (.int .i64 0)]))
  (st:∀i,i<l.length→(os.getD i default).1=U∧(os.getD i default).2.length<2^38∧Qk (os.getD i default).2∧vW U (l.getD i default) (os.getD i default).2):
  Pr prog 99 [.one (bU l)] (.aB [.one (bU os),.one (.int .i64 0)]):=(tf l os hl VB U uk xk cm st).rows
end Go.Proofs.YtchkplkghknabaaGreat
