/-
  MatrixInvalid: for every input the law returns true, and each argument reads afterwards as it read before. No condition beyond the cells of the given rows.
  (Text 6 of 9; made by a program out of smaller texts.)
-/
import Derived.Lib.AppendZerosOnto
import Derived.Lib.Walk
import Derived.Test.YtgcmkdgpaibpeaaGreatP5
set_option linter.unusedSimpArgs false
set_option linter.unusedVariables false
set_option maxHeartbeats 16000000
set_option maxRecDepth 10000
open Nat renaming reduceAdd→J1,reduceMul→J2,reduceSub→J3,reduceEqDiff→J4,reduceLT→J5,reduceLeDiff→J6,reduceBEq→J7,reduceDiv→J8,reduceMod→J9,reducePow→J0
open Int renaming reduceToNat→K1,reduceLE→K2,reduceLT→K3,reduceEq→K4,reducePow→K5,reduceSub→K6,reduceNeg→K7,natCast_add→X2,natCast_one→X3,natCast_zero→X4
open List renaming getD_cons_zero→X0,getD_cons_succ→X1,length_take→X5,length_append→X6,getD_eq_getElem?_getD→X7,getElem?_eq_getElem→X8
namespace Go.Proofs.YtgcmkdgpaibpeaaGreat
open Go.Proofs.Tryz
open Go Go.Eng
open Go.Tw (El aC aJ zE ai au ar ao ae QB mS ah ag)
def He (n m:Nat)(p:Nat→Bool):Bool:=decide (n=m)&&(List.range n).all p
theorem HY {n m:Nat}{p:Nat→Bool}(h:¬(n:Int)=m):He n m p=false:=by unfold He;rw[decide_eq_false (by omega),Bool.false_and]
theorem F6 (f:FuncId)(p:Nat→Bool)(xs ys:List Rat)(hl:xs.length<2^38)(hf:∀i,i<xs.length→Pr prog f [QV (xs.getD i default),QV (ys.getD i default)] (.one (.bool (p i)))):
  Pr prog 191 [eV xs,eV ys,.one (.fn f 0 (fun _=>.any))] (.one (.bool (He xs.length ys.length p))):=by
 refine pw func191 ⟨[0,1,2,6,7,8,9,14,15,16,17,18,30],[]⟩ ?_;simp only[Tryz.f191,ntmps191,iz,seval];simp only[vx,T,seval,eV,aa];refine⟨fun g=>Lg ?_,fun g=>Lg ?_⟩
 ·simp only[vx,T,seval];exact vb (HY g).symm
 have hxy:xs.length=ys.length:=by omega
 simp only[vx,T,seval,eV,aa];refine Lk (fun y:{i:Nat//i≤xs.length∧∀k,k<i→p k=true}=>⟨[(1,eV ys),(2,.one (.fn f 0 (fun _=>.any))),(15,eV xs),(16,.one (.int .i64 xs.length)),(17,.one (.int .i64 y.1))],[],1,32⟩) (fun y=>xs.length-y.1) ⟨0,Nat.zero_le _,fun k h=>absurd h (Nat.not_lt_zero _)⟩ ?_ (fun⟨i,hi,hz⟩=>?_)
 ·refine Sa ?_;simp only[ry,seval,rz,eV,aa]
 have i1:=wI i (by omega);simp only[vx,T,seval,eV,aa];refine⟨fun h1=>Lg ?_,fun h1=>Lg ?_⟩
 ·have hfi:=hf i (by omega);obtain⟨a,ha⟩:∃a,a=xs.getD i default:=⟨_,rfl⟩;obtain⟨b,hb⟩:∃b,b=ys.getD i default:=⟨_,rfl⟩;rw[←ha,←hb]at hfi;simp only[vx,T,seval,eV,aa,←ha,←hb,qC];refine⟨by omega,by omega,Cg hfi ?_⟩;simp only[vx,T,seval];refine⟨fun h2=>Lg ?_,fun h2=>Lg ?_⟩
  ·simp only[vx,T,seval];have h2:p i=false:=by simpa using h2
   exact vb (by unfold He;rw[rP (by omega) h2,Bool.and_false])
  simp only[vx,T,seval];simp only[i1];refine Lq ⟨i+1,by omega,fun k hk=>?_⟩ ?_ ?_
  ·by_cases h3:k<i
   ·exact hz k h3
   rw[show k=i by omega];simpa using h2
  ·refine Sa ?_;simp only[ry,seval,rz,eV,aa]
  simp only;omega
 simp only[vx,T,seval];exact vb (by unfold He;rw[decide_eq_true hxy,Bool.true_and];exact(nc.2 fun k hk=>hz k (by omega)).symm)
theorem H3 (f:FuncId)(p:Nat→Bool)(t u:List El)(n m:Nat)(hl:n<2^38)(hf:∀i,i<n→i<m→Pr prog f [eV (t.getD i []),eV (u.getD i [])] (.one (.bool (p i)))):
  Pr prog 166 [tV n t,tV m u,.one (.fn f 0 (fun _=>.any))] (.one (.bool (He n m p))):=by
 refine pw func166 ⟨[0,1,2,6,7,8,9,14,15,16,17,18,30],[]⟩ ?_;simp only[Tryz.f166,ntmps166,iz,seval];simp only[vx,T,seval,tV,tC,eV,aa];refine⟨fun g=>Lg ?_,fun g=>Lg ?_⟩
 ·simp only[vx,T,seval];exact vb (HY g).symm
 have hxy:n=m:=by omega
 simp only[vx,T,seval,tV,tC,eV,aa];refine Lk (fun y:{i:Nat//i≤n∧∀k,k<i→p k=true}=>⟨[(1,tV m u),(2,.one (.fn f 0 (fun _=>.any))),(15,tV n t),(16,.one (.int .i64 n)),(17,.one (.int .i64 y.1))],[],1,32⟩) (fun y=>n-y.1) ⟨0,Nat.zero_le _,fun k h=>absurd h (Nat.not_lt_zero _)⟩ ?_ (fun⟨i,hi,hz⟩=>?_)
 ·refine Sa ?_;simp only[ry,seval,rz,tV,tC,eV,aa]
 have i1:=wI i (by omega);simp only[vx,T,seval,tV,tC,eV,aa];refine⟨fun h1=>Lg ?_,fun h1=>Lg ?_⟩
 ·have hfi:=hf i (by omega) (by omega);simp only[vx,T,seval,tV,tC,eV,aa];refine⟨by omega,by omega,Cg hfi ?_⟩;simp only[vx,T,seval];refine⟨fun h2=>Lg ?_,fun h2=>Lg ?_⟩
  ·simp only[vx,T,seval];have h2:p i=false:=by simpa using h2
   exact vb (by unfold He;rw[rP (by omega) h2,Bool.and_false])
  simp only[vx,T,seval];simp only[i1];refine Lq ⟨i+1,by omega,fun k hk=>?_⟩ ?_ ?_
  ·by_cases h3:k<i
   ·exact hz k h3
   rw[show k=i by omega];simpa using h2
  ·refine Sa ?_;simp only[ry,seval,rz,tV,tC,eV,aa]
  simp only;omega
 simp only[vx,T,seval];exact vb (by unfold He;rw[decide_eq_true hxy,Bool.true_and];exact(nc.2 fun k hk=>hz k (by omega)).symm)
open Go Go.Eng
open Go.Tw (El aC aJ zE ai au ar ao ae QB mS ah ag)
theorem kD {h:Nat}{t:List El}(tk:Tk h t)(a b:El)(ha:a.length=2^h)(hb:b.length=2^h)(hq:Qk a)(hqb:Qk b):Pr prog 148 [tV h t,eV a,eV b] (eV (aC a b)):=by
 have hp:=aN tk.le8;have c:=lD tk a b ha hb hq hqb;have d:=(kB a b (by omega) (by omega) hq hqb).rows;refine pw func148 ⟨[0,1,2,6,11],[]⟩ ?_;simp only[Tryz.f148,ntmps148,iz,seval];simp only[vx,T,seval,tV,tC,eV,aa];refine Cg c ?_;simp only[vx,T,seval,tV,tC,eV,aa];refine Cg d ?_;simp only[vx,T,seval,tV,tC,eV,aa];exact Ve rfl
theorem v5 {h:Nat}{t:List El}(tk:Tk h t)(a:El)(ha:a.length=2^h)(hq:Qk a):Pr prog 71 [tV h t,eV a] (eV (aJ a)):=by
 have hp:=aN tk.le8;have c:=dD tk a ha hq;have d:=(nF a (by omega) hq).rows;refine pw func71 ⟨[0,1,4,8],[]⟩ ?_;simp only[Tryz.f71,ntmps71,iz,seval];simp only[vx,T,seval,tV,tC,eV,aa];refine Cg c ?_;simp only[vx,T,seval,tV,tC,eV,aa];refine Cg d ?_;simp only[vx,T,seval,tV,tC,eV,aa];exact Ve rfl
theorem gz {h:Nat}{t:List El}{C A B:Nat}(hC:1≤C)(tk:Tk h t)(ht:∀i,i<h→QB C (t.getD i []))(h1:1≤A)(h2:1≤B)(a b:El)(ha:a.length=2^h)(hb:b.length=2^h)(qa:QB A a)(qb:QB B b)(hs:mS h (A+B) C<2^38):Pr prog 140 [tV h t,eV a,eV b] (eV (ai h t a b)):=by
 have hge:=Go.Tw.gV (h:=h) (S:=A+B) (C:=C);have c:=lD tk a b ha hb (.of qa (by omega)) (.of qb (by omega));have d:=(ko hC tk ht h1 h2 ha hb qa qb hs).rows;refine pw func140 ⟨[0,1,2,6,11],[]⟩ ?_;simp only[Tryz.f140,ntmps140,iz,seval];simp only[vx,T,seval,tV,tC,eV,aa];refine Cg c ?_;simp only[vx,T,seval,tV,tC,eV,aa];refine Cg d ?_;simp only[vx,T,seval,tV,tC,eV,aa];exact Ve rfl
theorem Aa (a b:Rat)(ha:qm a<2^38)(hb:qm b<2^38):Pr prog 192 [QV a,QV b] (.one (.bool (decide (a=b)))):=by
 have c:=Bh a b ha hb;refine pw func192 ⟨[0,1,2,3,4],[]⟩ ?_;simp only[Tryz.f192,ntmps192,iz,seval];simp only[vx,T,seval,QV,QC];refine Cg c ?_;simp only[vx,T,seval,QV,QC];refine vb (decide_eq_decide.2 ?_);unfold Li;rw[Cz]
 constructor
 ·intro h;rw[←Rat.mkRat_self a,←Rat.mkRat_self b];exact(Rat.mkRat_eq_iff a.den_nz b.den_nz).2 h
 rintro rfl;rfl
open Go Go.Eng
open Go.Tw (El aC aJ zE ai au ar ao ae QB mS ah ag)
def FA (a b:El):Bool:=He a.length b.length fun i=>decide (a.getD i default=b.getD i default)
theorem DQ {a b:El}:FA a b=true↔a=b:=by
 unfold FA He;rw[Bool.and_eq_true,decide_eq_true_eq,nc]
 constructor
 ·rintro⟨h1,h2⟩;refine List.ext_getElem h1 fun i g1 g2=>?_
  have:=of_decide_eq_true (h2 i g1)
  rwa [eK g1,eK g2]at this
 rintro rfl;exact⟨rfl,fun i _=>decide_eq_true rfl⟩
theorem Fb (a b:El)(hl:a.length<2^38)(ha:Qk a)(hb:Qk b):Pr prog 167 [eV a,eV b] (.one (.bool (decide (a=b)))):=by
 have c:=F6 192 (fun i=>decide (a.getD i default=b.getD i default)) a b hl (fun i _=>Aa _ _ (ha.get i) (hb.get i));have e:decide (a=b)=FA a b:=by rw[Bool.eq_iff_iff,decide_eq_true_eq,DQ]
 rw[e];refine pw func167 ⟨[0,1,4],[]⟩ ?_;simp only[Tryz.f167,ntmps167,iz,seval];simp only[vx,T,seval,eV,aa];refine Cg c ?_;simp only[vx,T,seval];exact Ve rfl
def eY (h k:Nat)(t u:List El):Bool:=decide (k≤h)&&(List.range k).all fun i=>decide (t.getD i []=u.getD i [])
theorem lZ {h k:Nat}{t u:List El}(tk:Tk h t)(uk:Tk k u):Pr prog 130 [tV h t,tV k u] (.one (.bool (eY h k t u))):=by
 have h8:=tk.le8;have k8:=uk.le8;have c:=H3 167 (fun i=>decide (t.getD i []=u.getD i [])) t u k k (by omega);refine pw func130 ⟨[0,1,4],[]⟩ ?_;simp only[Tryz.f130,ntmps130,iz,seval];simp only[vx,T,seval,tV,tC,eV,aa];refine⟨fun g=>Lg ?_,fun g=>Lg ?_⟩
 ·have hf:∀i,i<k→i<k→Pr prog 167 [eV (t.getD i []),eV (u.getD i [])] (.one (.bool (decide (t.getD i []=u.getD i [])))):=fun i hi _=>
   Fb _ _ (by rw[tk.len i (by omega)];exact aN (by omega)) (tk.q i (by omega)) (uk.q i hi)
  simp only[vx,T,seval,tV,tC,eV,aa];refine⟨by omega,Cg (c hf) ?_⟩;simp only[vx,T,seval];exact vb (by unfold eY He;rw[decide_eq_true rfl,decide_eq_true (by omega:k≤h)])
 simp only[vx,T,seval];exact vb (by unfold eY;rw[decide_eq_false (by omega:¬k≤h)];rfl)
end Go.Proofs.YtgcmkdgpaibpeaaGreat
/-
  The sign of an element as the programs reckon it.
-/
namespace Go.Tw
open Go Go.Eng
theorem r8 (x:Rat):(if 0<x then 1 else if x<0 then-1 else 0:Int)=Go.Eng.bJ x.num:=by
 have h1:0≤x.num↔0≤x:=Rat.num_nonneg;have h2:x.num=0↔x=0:=Rat.num_eq_zero;unfold Go.Eng.bJ
 by_cases h0:x=0
 ·rw[if_pos (h2.2 h0),h0,if_neg (Rat.lt_irrefl),if_neg (Rat.lt_irrefl)]
 rw[if_neg (fun h=>h0 (h2.1 h))]
 by_cases hp:0≤x
 ·rw[if_pos (Rat.lt_of_le_of_ne hp (Ne.symm h0)),if_neg (by have:=h1.2 hp;omega)]
 rw[if_neg (fun h=>hp (Rat.le_of_lt h)),if_pos (Rat.not_le.1 hp),if_pos (by have:=mt h1.1 hp;omega)]
theorem dF {h:Nat}{t:List El}:∀{a:El},-1≤bo h t a∧bo h t a≤1:=by
 induction h with
 |zero=>
  intro a;unfold bo
  split
  ·omega
  split<;>omega
 |succ h ih=>
  intro a;rw[bo]
  split
  ·exact ih
  split
  ·exact ih
  have h1:=@ih (a.take (2^h));have h2:=@ih (aO h t a);have e:∀x y:Int,-1≤x∧x≤1→ -1≤y∧y≤1→ -1≤x*y∧x*y≤1:=fun x y hx hy=>by
   have:x= -1∨x=0∨x=1:=by omega
   rcases this with rfl|rfl|rfl<;>omega
  exact e _ _ h1 h2
theorem nC {h:Nat}{t:List El}(a:El):aC (ai h t (a.take (2^h)) (a.take (2^h))) (aJ (ai h t (t.getD h []) (ai h t (a.drop (2^h)) (a.drop (2^h)))))=aO h t a:=by
 unfold aO;rw[vU (t.getD h [])]
end Go.Tw
namespace Go.Proofs.YtgcmkdgpaibpeaaGreat
open Go.Proofs.Tryz
open Go Go.Eng
open Go.Tw (El aC aJ zE ai au ar ao ae QB mS ah ag aO aI tB aX aG)
theorem lv {h S:Nat}(hh:h≤3)(hS:S≤2^32):mS h S tB<2^38:=by
 unfold tB
 match h,hh with
 |0,_=>simp only[mS];omega
 |1,_=>simp only[mS];omega
 |2,_=>simp only[mS];omega
 |3,_=>simp only[mS];omega
theorem kb {h S:Nat}(hh:h≤2):mS h S tB≤6*S+2^20:=by
 unfold tB
 match h,hh with
 |0,_=>simp only[mS];omega
 |1,_=>simp only[mS];omega
 |2,_=>simp only[mS];omega
structure TQ (h:Nat) (t:List El):Prop where
 tk:Tk h t
 h3:h≤3
 q:∀i,i<h→QB tB (t.getD i [])
theorem TQ.le {h k:Nat}{t:List El}(W:TQ h t)(hk:k≤h):TQ k t:=⟨W.tk.le hk,by have:=W.h3;omega,fun i hi=>W.q i (by omega)⟩
theorem fS:1≤tB:=by decide
theorem LM {h X Y:Nat}{t:List El}(W:TQ h t){a b:El}(ha:a.length=2^h)(hb:b.length=2^h)(h1:1≤X)(h2:1≤Y)(hs:X+Y≤2^32)(qa:QB X a)(qb:QB Y b):
  Fr prog 179 [tV h t,eV a,eV b] (.rows 62 4 (ai h t a b).length (fQ (ai h t a b))):=ko fS W.tk W.q h1 h2 ha hb qa qb (lv W.h3 hs)
theorem Hn {h X Y:Nat}{t:List El}(W:TQ h t){a b:El}(ha:a.length=2^h)(hb:b.length=2^h)(h1:1≤X)(h2:1≤Y)(hs:X+Y≤2^32)(qa:QB X a)(qb:QB Y b):
  Pr prog 140 [tV h t,eV a,eV b] (eV (ai h t a b)):=gz fS W.tk W.q h1 h2 a b ha hb qa qb (lv W.h3 hs)
theorem rm {h:Nat}{t:List El}(tk:Tk h t)(a b:El)(ha:a.length=2^h)(hb:b.length=2^h)(hq:Qk a)(hqb:Qk b):Pr prog 177 [tV h t,eV a,eV b] (eV (aC a (aJ b))):=by
 have hp:=aN tk.le8;have c:=lD tk a b ha hb hq hqb;have hqn:Qk (aJ b):=fun x hx=>by
  obtain⟨y,hy,rfl⟩:=List.mem_map.1 hx;rw[Go.Tw.B6];exact hqb y hy
 have d:=(nF b (by omega) hqb).rows;have e:=(kB a (aJ b) (by omega) (by rw[ar];omega) hq hqn).rows;refine pw func177 ⟨[0,1,2,6,11],[]⟩ ?_;simp only[Tryz.f177,ntmps177,iz,seval];simp only[vx,T,seval,tV,tC,eV,aa];refine Cg c ?_;simp only[vx,T,seval,tV,tC,eV,aa];refine Cg d ?_;simp only[vx,T,seval,tV,tC,eV,aa];refine Cg e ?_;simp only[vx,T,seval,tV,tC,eV,aa];exact Ve rfl
theorem tZ {h X:Nat}{t:List El}(W:TQ (h+1) t)(a:El)(ha:a.length=2^(h+1))(hX1:1≤X)(hX:X≤2^30)(hq:QB X a):Fr prog 206 [tV (h+1) t,eV a] (.rows 62 4 (aO h t a).length (fQ (aO h t a))):=by
 have W':=W.le (Nat.le_succ h);have h3:=W.h3;have cs:=l6 (h:=h) (t:=t) (by omega);have ch:=iU (h:=h) (by omega) ha;have la1:=ah ha;have la2:=ag ha;have hp:=aN W'.tk.le8;have hr:=W.tk.len h (by omega);have hrq:=W.q h (by omega);have ht:=W'.q;have b1:=kb (h:=h) (S:=X+X) (by omega);have b2:=kb (h:=h) (S:=mS h (X+X) tB+tB) (by omega);have btB:tB=32769:=rfl;have m1:=ko fS W'.tk ht hX1 hX1 la1 la1 (hq.take _) (hq.take _) (by omega);have m2:=ko fS W'.tk ht hX1 hX1 la2 la2 (hq.drop _) (hq.drop _) (by omega);have g1:=QB.mul fS ht hX1 hX1 (hq.take (2^h)) (hq.take (2^h));have g2:=QB.mul fS ht hX1 hX1 (hq.drop (2^h)) (hq.drop (2^h));have hge:=Go.Tw.gV (h:=h) (S:=X+X) (C:=tB);have m3:=ko fS W'.tk ht (by omega) fS ae hr g2 hrq (by omega);have g3:=QB.mul fS ht (by omega) fS g2 hrq;obtain⟨x,hx⟩:∃x,x=a.take (2^h):=⟨_,rfl⟩;obtain⟨y,hy⟩:∃y,y=a.drop (2^h):=⟨_,rfl⟩;obtain⟨r,hrr⟩:∃r,r=t.getD h []:=⟨_,rfl⟩;have em:aO h t a=aC (ai h t x x) (aJ (ai h t (ai h t y y) r)):=by rw[hx,hy,hrr];rfl
 rw[←hx,←hy]at ch;rw[←hrr]at cs hr hrq m3 g3;rw[←hx]at m1 g1;rw[←hy]at m2 g2 m3 g3;have n1:=nF _ (by rw[ae];omega) (Qk.of g3 (by omega));have a1:=kB _ (aJ (ai h t (ai h t y y) r)) (by rw[ae];omega) (by rw[ar,ae,ae]) (Qk.of g1 (by omega)) (Qk.of g3.neg (by omega));rw[←em]at a1;clear em hq ha;have m1:=m1.rows;have m2:=m2.rows;have m3:=m3.rows;have n1:=n1.rows;refine fw func206 ⟨[0,1,4,5,6,7,8],[]⟩ ?_;simp only[Tryz.f206,ntmps206,iz,seval];simp only[vx,T,seval,tV,tC,eV,aa];refine Cg cs ?_;simp only[vx,T,seval,tV,tC,eV,aa];refine Cg ch ?_;simp only[vx,T,seval,tV,tC,eV,aa];refine Cg m1 ?_;simp only[vx,T,seval,tV,tC,eV,aa];refine Cg m2 ?_;simp only[vx,T,seval,tV,tC,eV,aa];refine Cg m3 ?_;simp only[vx,T,seval,tV,tC,eV,aa];refine Cg n1 ?_;simp only[vx,T,seval,tV,tC,eV,aa];refine cF.fresh a1 ?_;simp only[vx,T,seval,tV,tC,eV,aa];exact⟨rfl,rfl,fun _ _ _ _=>rfl⟩
theorem sY {h X:Nat}{t:List El}(W:TQ (h+1) t)(a:El)(ha:a.length=2^(h+1))(hX1:1≤X)(hX:X≤2^30)(hq:QB X a):Pr prog 227 [tV (h+1) t,eV a] (eV (aO h t a)):=by
 have c:=dD W.tk a ha (.of hq (by omega));have d:=(tZ W a ha hX1 hX hq).rows;refine pw func227 ⟨[0,1,4,13],[]⟩ ?_;simp only[Tryz.f227,ntmps227,iz,seval];simp only[vx,T,seval,tV,tC,eV,aa];refine Cg c ?_;simp only[vx,T,seval,tV,tC,eV,aa];refine⟨fun h=>absurd h (by omega),fun _=>Lg ?_⟩;simp only[vx,T,seval,tV,tC,eV,aa];refine Cg d ?_;simp only[vx,T,seval,tV,tC,eV,aa];exact Ve rfl
theorem JW (h:Nat)(q:Rat)(k j:Nat)(hj:j<4):
  bt (fQ (zE (2^h))) 0 0 [C.bool (zs q.num),C.ints .u32 (zm q.num),C.bool (zs (q.den:Int)),C.ints .u32 (zm (q.den:Int))] k j=fQ (aX h q) k j:=by
 have hp:0<2^h:=Nat.pow_pos (by decide);unfold bt
 by_cases hk:k=0
 ·subst hk;rw[if_pos rfl,if_pos (Nat.zero_le _),if_pos (by simpa using hj),Nat.sub_zero];exact dA q rfl j
 rw[if_neg hk];unfold fQ aX
 congr 1
 rw[X7,X7,List.getElem?_cons,if_neg hk];unfold zE;rw[List.getElem?_replicate,List.getElem?_replicate]
 by_cases h2:k<2^h
 ·rw[if_pos h2,if_pos (by omega)]
 rw[if_neg h2,if_neg (by omega)]
theorem eA {h:Nat}{t:List El}(tk:Tk h t)(q:Rat)(hq:qm q<2^38):Pr prog 170 [tV h t,QV q] (eV (aX h q)):=by
 have c:=jt tk;have d:=vT q (by omega);have hp:=aN tk.le8;have z:=oN (2^h) hp;have w:=dL tk.le8;have hz:(zE (2^h)).length=2^h:=au;have hp0:0<2^h:=Nat.pow_pos (by decide);refine pw func170 ⟨[0,1,3,4,5,13],[]⟩ ?_;simp only[Tryz.f170,ntmps170,iz,seval];simp only[vx,T,seval,tV,tC,QV,QC];refine Cg c ?_;simp only[vx,T,seval,tV,tC];refine Cg d ?_;simp only[vx,T,seval,tV,tC,w];refine⟨Int.natCast_nonneg _,cF.fresh z ?_⟩;simp only[vx,T,seval,tV,tC,QV,QC];exact⟨by omega,fP.cell (dr.rows (by rw[hz,Go.Tw.aG]) (fun i j _ hj=>dr.of_eq (JW h q i j hj)))⟩
open Go Go.Eng
open Go.Tw (El aC aJ zE ai au ar ao ae QB mS ah ag aO aI tB aX aG bo gT dF r8 nC)
theorem fk {a:El}{n:Nat}(h:n≤a.length):dr (.rows 4 n (fun i=>qC (a.getD i default))) (aa (a.take n)):=
 dr.rows (by rw[X5];omega) fun i j hi _=>dr.of_eq (DD hi j)
theorem eQ {a:El}{n:Nat}:dr (.rows 4 (a.length-n) (fun i=>qC (a.getD (n+i) default))) (aa (a.drop n)):=
 dr.rows (by rw[List.length_drop]) fun i j _ _=>dr.of_eq (De i j)
theorem Nv {t:List El}{a:El}(ha:a.length=2^0)(hq:Qk a):Pr prog 138 [tV 0 t,eV a] (.one (.int .i64 (bo 0 t a))):=by
 obtain⟨x,rfl⟩:=Go.Tw.bB ha;have hx:qm x<2^38:=hq x (by simp);have e:bo 0 t [x]=bJ x.num:=r8 x;have c:=j0 x (by omega);rw[e];refine pw func138 ⟨[0,1,4,5,6,7,8,9,10,11,12,15,41,50],[(4,.nil)]⟩ ?_;simp only[Tryz.f138,ntmps138,iz,seval];simp only[vx,T,seval,tV,tC,eV,aa,qC,X0];refine Cg c ?_;simp only[vx,T,seval,aa];exact Ve rfl
theorem jF {X:Nat}(hX1:1≤X)(hX:X≤2^30){t:List El}:∀{h:Nat} {a:El},TQ h t→a.length=2^h→gT X h t a→Pr prog 138 [tV h t,eV a] (.one (.int .i64 (bo h t a)))
 |0,a,_,ha,hi=>Nv ha (.of hi.qb (by omega))
 |h+1,a,W,ha,hi=>by
  have W':=W.le (Nat.le_succ h);obtain⟨hqa,i1,i2,i3⟩:=hi;have la1:=ah ha;have la2:=ag ha;have v1:=jF hX1 hX W' la1 i1;have v2:=jF hX1 hX W' la2 i2;have v3:=jF hX1 hX W' aI i3;have h3:=W.h3;have hp:=aN W'.tk.le8;have q1:=i1.qb;have q2:=i2.qb;have hr:=W.tk.len h (by omega);have hrq:=W.q h (by omega);have btB:tB=32769:=rfl;have b1:=Go.Proofs.YtgcmkdgpaibpeaaGreat.kb (h:=h) (S:=X+X) (by omega);have b2:=Go.Proofs.YtgcmkdgpaibpeaaGreat.kb (h:=h) (S:=tB+mS h (X+X) tB) (by omega);have hge:=Go.Tw.gV (h:=h) (S:=X+X) (C:=tB);have m1:=gz fS W'.tk W'.q hX1 hX1 _ _ la1 la1 q1 q1 (by omega);have m2:=gz fS W'.tk W'.q hX1 hX1 _ _ la2 la2 q2 q2 (by omega);have g1:=QB.mul fS W'.q hX1 hX1 q1 q1;have g2:=QB.mul fS W'.q hX1 hX1 q2 q2;have m3:=gz fS W'.tk W'.q fS (by omega) _ _ hr ae hrq g2 (by omega);have g3:=QB.mul fS W'.q fS (by omega) hrq g2;have su:=rm W'.tk _ _ ae ae (Qk.of g1 (by omega)) (Qk.of g3 (by omega));rw[nC]at su;have hn:(2^h:Nat)≤a.length:=by rw[ha,Nat.pow_succ];omega
  have hl2:a.length-2^h=(a.drop (2^h)).length:=by rw[List.length_drop]
  have cT:=fk hn;have cD:=eQ (a:=a) (n:=2^h);have v1:=v1.args (xs:=[tV h t,.one (.rows 4 (2^h) (fun i=>qC (a.getD i default)))]) ⟨.refl _,.cell cT,trivial⟩;have v2:=v2.args (xs:=[tV h t,.one (.rows 4 (a.length-2^h) (fun i=>qC (a.getD (2^h+i) default)))]) ⟨.refl _,.cell cD,trivial⟩;have m1:=m1.args (xs:=[tV h t,.one (.rows 4 (2^h) (fun i=>qC (a.getD i default))),.one (.rows 4 (2^h) (fun i=>qC (a.getD i default)))]) ⟨.refl _,.cell cT,.cell cT,trivial⟩;have m2:=m2.args (xs:=[tV h t,.one (.rows 4 (a.length-2^h) (fun i=>qC (a.getD (2^h+i) default))),.one (.rows 4 (a.length-2^h) (fun i=>qC (a.getD (2^h+i) default)))]) ⟨.refl _,.cell cD,.cell cD,trivial⟩;obtain⟨n,hnn⟩:∃n,n=2^h:=⟨_,rfl⟩;have ha2:a.length=2*n:=by rw[ha,Nat.pow_succ,hnn];omega
  have e:bo (h+1) t a=if bo h t (a.drop (2^h))=0∨bo h t (a.take (2^h))=bo h t (a.drop (2^h))then bo h t (a.take (2^h))else if bo h t (a.take (2^h))=0 then bo h t (a.drop (2^h))else bo h t (a.take (2^h))*bo h t (aO h t a):=rfl
  have r1:=@dF h t (a.take (2^h));have r3:=@dF h t (aO h t a);obtain⟨s1,hs1⟩:∃s,s=bo h t (a.take (2^h)):=⟨_,rfl⟩;obtain⟨s2,hs2⟩:∃s,s=bo h t (a.drop (2^h)):=⟨_,rfl⟩;obtain⟨s3,hs3⟩:∃s,s=bo h t (aO h t a):=⟨_,rfl⟩;rw[←hs1,←hs2,←hs3]at e;rw[←hs1]at v1 r1;rw[←hs2]at v2;rw[←hs3]at v3 r3;rw[e];rw[←hnn]at v1 v2 m1 m2 su m3 hp;have w1:IntKind.i64.wrap (((h+1:Nat):Int)-1)=(h:Int):=by rw[IntWalk.i64_in _ (by omega)];omega
  have w2:IntKind.i64.wrap (((a.length:Nat):Int).tdiv 2)=(n:Int):=by
   rw[ha2,Int.tdiv_eq_ediv_of_nonneg (by omega),IntWalk.i64_in _ (by omega)];omega
  have w4:((a.length:Int)-(n:Int)).toNat=a.length-n:=by omega
  have w3:IntKind.i64.wrap (s1*s3)=s1*s3:=by
   rw[IntWalk.i64_in]
   have:s1= -1∨s1=0∨s1=1:=by omega
   rcases this with h|h|h<;>rw [h]<;>omega
  obtain⟨r,hrr⟩:∃r,r=t.getD h []:=⟨_,rfl⟩;rw[←hrr]at m3 su;clear hqa i1 i2 i3 la1 la2 q1 q2 g1 g2 g3 b1 b2 hge hr hrq hs1 hs2 hs3 cT cD W;refine pw func138 ⟨[0,1,4,5,6,7,8,9,10,11,12,15,41,50],[(4,.nil)]⟩ ?_;simp only[Tryz.f138,ntmps138,iz,seval];simp only[vx,T,seval,tV,tC,eV,aa,w1,w2];refine⟨fun h=>absurd h (by omega),fun _=>Lg ?_⟩;simp only[vx,T,seval,tV,tC,eV,aa,w1,w2];refine⟨⟨by omega,by omega⟩,⟨by omega,by omega⟩,⟨by omega,by omega,by omega⟩,Cg v1 ?_⟩;simp only[vx,T,seval,tV,tC,eV,aa,w1,w2,w4];refine Cg v2 ?_;simp only[vx,T,seval,tV,tC,eV,aa,w1,w2,w4];refine⟨fun k2=>Lg ?_,fun k2=>Lg ?_⟩
  ·rw[if_pos (.inl k2)];simp only[vx,T,seval,tV,tC,eV,aa,w1,w2,w4];exact Ve rfl
  simp only[vx,T,seval,tV,tC,eV,aa,w1,w2,w4];refine⟨fun k3=>Lg ?_,fun k3=>Lg ?_⟩
  ·rw[if_pos (.inr k3)];simp only[vx,T,seval,tV,tC,eV,aa,w1,w2,w4];exact Ve rfl
  rw[if_neg (not_or.2 ⟨k2,k3⟩)];simp only[vx,T,seval,tV,tC,eV,aa,w1,w2,w4];refine⟨fun k1=>Lg ?_,fun k1=>Lg ?_⟩
  ·rw[if_pos k1];simp only[vx,T,seval,tV,tC,eV,aa,w1,w2,w4];exact Ve rfl
  rw[if_neg k1];simp only[vx,T,seval,tV,tC,eV,aa,w1,w2,w4];refine Cg m1 ?_;simp only[vx,T,seval,tV,tC,eV,aa,w1,w2,w4,←hrr];refine⟨⟨by omega,by omega⟩,Cg m2 ?_⟩;simp only[vx,T,seval,tV,tC,eV,aa,w1,w2,w4,←hrr];refine Cg m3 ?_;simp only[vx,T,seval,tV,tC,eV,aa,w1,w2,w4,←hrr];refine Cg su ?_;simp only[vx,T,seval,tV,tC,eV,aa,w1,w2,w4,←hrr];refine Cg v3 ?_;simp only[vx,T,seval,tV,tC,eV,aa,w1,w2,w4,w3,←hrr];exact Ve rfl
open Go Go.Eng
open Go.Tw (El aC aJ zE ai au ar ao ae QB mS ah ag aO aI tB aX aG bo gT dF Rl val)
structure x6 (X h:Nat) (t:List El):Prop where
 tq:TQ h t
 s:∀i,i<h→gT X i t (t.getD i [])
 p:∀i,i<h→0<bo i t (t.getD i [])
theorem x6.le {X h k:Nat}{t:List El}(W:x6 X h t)(hk:k≤h):x6 X k t:=⟨W.tq.le hk,fun i hi=>W.s i (by omega),fun i hi=>W.p i (by omega)⟩
theorem EY {X h:Nat}(hX1:1≤X)(hX:X≤2^30){t:List El}(W:x6 X h t):Pr prog 175 [tV h t] (.one (.bool true)):=by
 have h3:=W.tq.h3;have z:=cP 0 (by decide) (by decide);have f:=eA W.tq.tk (Rat.ofInt 0) (by decide+kernel);have hqz:Qk (aX h (Rat.ofInt 0)):=fun x hx=>by
  unfold aX at hx
  rcases List.mem_cons.1 hx with rfl|hx
  ·decide+kernel
  rw[List.eq_of_mem_replicate hx];decide+kernel
 have g:=dD W.tq.tk (aX h (Rat.ofInt 0)) aG hqz;have v:∀i,i<h→Pr prog 138 [tV i t,eV (t.getD i [])] (.one (.int .i64 (bo i t (t.getD i [])))):=fun i hi=>
  jF hX1 hX (W.tq.le (by omega)) (W.tq.tk.len i hi) (W.s i hi)
 refine pw func175 ⟨[0,2,3,4,10,11,12,13,14,23],[]⟩ ?_;simp only[Tryz.f175,ntmps175,iz,seval];simp only[vx,T,seval,tV,tC,aa];refine Cg z ?_;simp only[vx,T,seval,tV,tC,QV,QC];refine Cg f ?_;simp only[vx,T,seval,tV,tC,eV,aa];refine Cg g ?_;simp only[vx,T,seval,tV,tC,eV,aa];have h0:h<2^60:=by omega
 refine Lk (fun y:{i:Nat//i≤h}=>⟨[(0,tV h t),(2,.one (.bool false)),(11,tV h t),(12,.one (.int .i64 h)),(13,.one (.int .i64 y.1))],[],2,25⟩) (fun y=>h-y.1) ⟨0,Nat.zero_le _⟩ ?_ (fun⟨i,hi⟩=>?_)
 ·refine Sa ?_;simp only[ry,seval,rz,tV,tC,aa]
 simp only;have wi:IntKind.i64.wrap ((i:Int)+1)=((i+1:Nat):Int):=by rw[IntWalk.i64_in _ (by omega)];omega
 simp only[vx,T,seval,tV,tC,aa];refine⟨fun k=>Lg ?_,fun k=>Lg ?_⟩
 ·have hlt:i<h:=by omega
  have vi:=v i hlt;have pi:=W.p i hlt;simp only[vx,T,seval,tV,tC,aa];refine⟨⟨by omega,by omega⟩,⟨by omega,by omega⟩,Cg vi ?_⟩;simp only[vx,T,seval,tV,tC,aa];refine⟨fun hh=>absurd hh (by omega),fun _=>Lg ?_⟩;simp only[vx,T,seval,tV,tC,aa,wi];refine Lq ⟨i+1,by omega⟩ ?_ (by show h-(i+1)<h-i;omega);refine Sa ?_;simp only[ry,seval,rz,tV,tC,aa]
 simp only[vx,T,seval,tV,tC,aa];exact Ve rfl
theorem Fi {X h:Nat}(hX1:1≤X)(hX:X≤2^30){t l:List El}(W:x6 X h t)(hl:l.length<2^60)(hf:∀i,i<l.length→(l.getD i []).length=2^h∧Qk (l.getD i [])):Pr prog 137 [tV h t,tV l.length l] (.one (.bool true)):=by
 have r:=EY hX1 hX W;have v:∀i,i<l.length→Pr prog 104 [tV h t,eV (l.getD i [])] (.one (.bool true)):=fun i hi=>dD W.tq.tk _ (hf i hi).1 (hf i hi).2;clear hf;refine pw func137 ⟨[0,1,4,6,7,8,9,10,16],[]⟩ ?_;simp only[Tryz.f137,ntmps137,iz,seval];simp only[vx,T,seval,tV,tC,aa];refine Lk (fun y:{i:Nat//i≤l.length}=>⟨[(0,tV h t),(1,tV l.length l),(4,.one (.bool false)),(7,tV l.length l),(8,.one (.int .i64 l.length)),(9,.one (.int .i64 y.1))],[],2,20⟩) (fun y=>l.length-y.1) ⟨0,Nat.zero_le _⟩ ?_ (fun⟨i,hi⟩=>?_)
 ·refine Sa ?_;simp only[ry,seval,rz,tV,tC,aa]
 simp only;have wi:IntKind.i64.wrap ((i:Int)+1)=((i+1:Nat):Int):=by rw[IntWalk.i64_in _ (by omega)];omega
 simp only[vx,T,seval,tV,tC,aa];refine⟨fun k=>Lg ?_,fun k=>Lg ?_⟩
 ·have hlt:i<l.length:=by omega
  have vi:=v i hlt;simp only[vx,T,seval,tV,tC,aa];refine⟨⟨by omega,by omega⟩,Cg vi ?_⟩;simp only[vx,T,seval,tV,tC,aa,wi];refine Lq ⟨i+1,by omega⟩ ?_ (by show l.length-(i+1)<l.length-i;omega);refine Sa ?_;simp only[ry,seval,rz,tV,tC,aa]
 simp only[vx,T,seval,tV,tC,aa];refine Cg r ?_;simp only[vx,T,seval,tV,tC,aa];exact Ve rfl
theorem ki {X h:Nat}(hX1:1≤X)(hX:X≤2^30){t:List El}{a:El}(W:x6 X h t)(ha:a.length=2^h)(hs:gT X h t a):Pr prog 96 [tV h t,eV a] (.one (.int .i64 (bo h t a))):=by
 have v:=jF hX1 hX W.tq ha hs;have g:=Fi hX1 hX (l:=[a]) W (by show(1:Nat)<2^60;decide) (fun i hi=>by
  obtain rfl:i=0:=by
               have:i<1:=hi
               omega
  exact⟨ha,.of hs.qb (by omega)⟩)
 refine pw func96 ⟨[0,1,4,9],[]⟩ ?_;simp only[Tryz.f96,ntmps96,iz,seval];simp only[vx,T,seval,tV,tC,eV,aa];refine Cg (g.args ⟨.refl _,.cell (.rows rfl fun i j hi hj=>.of_eq ?_),trivial⟩) ?_
 ·obtain rfl:i=0:=by omega
  obtain rfl:j=0:=by omega
  rfl
 simp only[vx,T,seval,tV,tC,eV,aa];refine Cg v ?_;simp only[vx,T,seval,tV,tC,eV,aa];exact Ve rfl
end Go.Proofs.YtgcmkdgpaibpeaaGreat
/-
  Square roots of natural numbers, rounded down.
-/
namespace Go.Eng
def cK:Nat→Nat
 |0=>0
 |n+1=>if(cK n+1)*(cK n+1)≤n+1 then cK n+1 else cK n
theorem jw:∀n,cK n*cK n≤n∧n<(cK n+1)*(cK n+1)
 |0=>by decide
 |n+1=>by
  have⟨h1,h2⟩:=jw n
  rw[cK]
  split
  ·rename_i h
   refine⟨h,?_⟩;have e:(cK n+1+1)*(cK n+1+1)=(cK n+1)*(cK n+1)+2*cK n+3:=by
    simp only[Nat.mul_add,Nat.add_mul,Nat.mul_one,Nat.one_mul];omega
   rw[e];omega
  rename_i h
  exact⟨by omega,by omega⟩
theorem tO {n s:Nat}(h1:s*s≤n)(h2:n<(s+1)*(s+1)):cK n=s:=by
 have⟨k1,k2⟩:=jw n
 rcases Nat.lt_trichotomy (cK n) s with h|h|h
 ·have:=Nat.mul_le_mul (show cK n+1≤s by omega) (show cK n+1≤s by omega)
  omega
 ·exact h
 have:=Nat.mul_le_mul (show s+1≤cK n by omega) (show s+1≤cK n by omega)
 omega
theorem Gj (s:Nat):cK (s*s)=s:=tO (Nat.le_refl _) (Nat.mul_lt_mul'' (Nat.lt_succ_self s) (Nat.lt_succ_self s))
theorem Aw (n:Nat):cK n≤n:=by
 have:=(jw n).1
 rcases Nat.eq_zero_or_pos (cK n)with h|h
 ·omega
 exact Nat.le_trans (Nat.le_mul_of_pos_left _ h) this
theorem vW {a x:Nat}(hx:0<x):cK a≤(x+a/x)/2:=by
 have h:=(jw a).1;obtain⟨s,hs⟩:∃s,s=cK a:=⟨_,rfl⟩;rw[←hs]at h⊢;have key:2*s-x≤a/x:=by
  rw[Nat.le_div_iff_mul_le hx];refine Nat.le_trans ?_ h
  by_cases h0:2*s≤x
  ·rw[show 2*s-x=0 by omega,Nat.zero_mul];exact Nat.zero_le _
  by_cases h1:x≤s
  ·obtain⟨d,rfl⟩:=Nat.exists_eq_add_of_le h1;rw[show 2*(x+d)-x=x+2*d by omega];simp only[Nat.mul_add,Nat.add_mul,Nat.mul_assoc,Nat.two_mul]
   have:=Nat.mul_comm x d
   omega
  obtain⟨d,rfl⟩:=Nat.exists_eq_add_of_le (show s≤x by omega);obtain⟨e,rfl⟩:=Nat.exists_eq_add_of_le (show d≤s by omega);rw[show 2*(d+e)-(d+e+d)=e by omega];simp only[Nat.mul_add,Nat.add_mul]
  have:=Nat.mul_comm d e
  omega
 omega
theorem Ak {a x:Nat}(hx:0<x)(h:x≤(x+a/x)/2):x*x≤a:=by
 have:x≤a/x:=by omega
 exact(Nat.le_div_iff_mul_le hx).1 this
theorem Nz {n b:Nat}(h:n<b*b):cK n<b:=by
 refine Nat.lt_of_not_le fun hl=>?_
 have:=Nat.mul_le_mul hl hl
 have:=(jw n).1
 omega
end Go.Eng
/-
  How many binary digits a number has; a power of 2 in words; where Newton's method begins.
-/
namespace Go.Eng
open Go
theorem qu (k:Nat):BB^k=2^(32*k):=by
 rw[show BB=2^32 from rfl,←Nat.pow_mul]
def kI (n:Nat):Nat:=32*(nl n-1)+bl (fa n)
theorem DG {n:Nat}(h:0<n):n<2^kI n:=by
 have h1:=(gO h).1;have h2:=(x7 _ h1).2.1;unfold kI;rw[Nat.pow_add,←qu];have h3:n<(fa n+1)*BB^(nl n-1):=by
  unfold fa;rw[Nat.add_mul,Nat.one_mul,Nat.mul_comm];exact Nat.lt_mul_div_succ n (Nat.pow_pos (by decide))
 refine Nat.lt_of_lt_of_le h3 ?_;rw[Nat.mul_comm];exact Nat.mul_le_mul_left _ (by omega)
theorem xn {n:Nat}(h:0<n):kI n≤32*nl n:=by
 have h1:=gO h;have h2:bl (fa n)≤32:=yB h1.2;have h3:=eC.2 h;unfold kI;omega
theorem EJ {n:Nat}(h:0<n):cK n<2^(kI n/2+1):=by
 refine Nz (Nat.lt_of_lt_of_le (DG h) ?_);rw[←Nat.pow_add];exact Nat.pow_le_pow_right (by decide) (by omega)
theorem E4 (n:Nat):(List.replicate (n/32+1) (0:Int)).set (n/32) ((2^(n%32):Nat):Int)=aj (2^n):=by
 have hw:2^(n%32)<2^32:=Nat.pow_lt_pow_right (by decide) (Nat.mod_lt _ (by decide));have hp:0<2^(n%32):=Nat.pow_pos (by decide);have hin:bK ((List.replicate (n/32+1) (0:Int)).set (n/32) ((2^(n%32):Nat):Int)):=(bK.replicate _).set _ ⟨by omega,by omega⟩;have hl:n/32<(List.replicate (n/32+1) (0:Int)).length:=by simp
 have hv:=dM (xs:=List.replicate (n/32+1) (0:Int)) (i:=n/32) (x:=((2^(n%32):Nat):Int)) hl;rw[cN,X7,List.getElem?_replicate]at hv;rw[if_pos (by omega),Int.toNat_natCast]at hv;have h0:((some (0:Int)).getD 0).toNat=0:=rfl;rw[h0,Nat.mul_zero,Nat.add_zero,Nat.zero_add,qu,←Nat.pow_add,Nat.div_add_mod]at hv;rw[←hv]
 refine(bX hin (.inr ?_)).symm
 rw[List.length_set,List.length_replicate,Nat.add_sub_cancel,X7,List.getElem?_set];rw[if_pos rfl,if_pos hl]
 show((2^(n%32):Nat):Int)≠0
 omega
end Go.Eng
/-
  Square roots of rational numbers.
-/
namespace Go.Eng
open Go
def zZ (x:Rat):Option Rat:=
 if 0≤x.num∧cK x.num.natAbs*cK x.num.natAbs=x.num.natAbs∧cK x.den*cK x.den=x.den then some (mkRat (cK x.num.natAbs) (cK x.den))else none
theorem II {a b n d:Nat}(ha:a*a=n)(hb:b*b=d)(h:n.Coprime d):a.Coprime b:=by
 subst ha hb;exact Nat.Coprime.coprime_dvd_left (Nat.dvd_mul_right a a) (Nat.Coprime.coprime_dvd_right (Nat.dvd_mul_right b b) h)
theorem Mw {a b:Nat}(h:a.Coprime b):(a*a).Coprime (b*b):=
 Nat.Coprime.mul_left (Nat.Coprime.mul_right h h) (Nat.Coprime.mul_right h h)
theorem pE {x r:Rat}(h:zZ x=some r):r*r=x∧0≤x.num∧cK x.num.natAbs*cK x.num.natAbs=x.num.natAbs∧cK x.den*cK x.den=x.den∧r.num=(cK x.num.natAbs:Int)∧r.den=cK x.den:=by
 unfold zZ at h
 split at h
 ·rename_i hc
  obtain⟨h0,h1,h2⟩:=hc;obtain rfl:=Option.some.inj h;have hb:cK x.den≠0:=fun e=>by rw[e]at h2;exact x.den_nz h2.symm
  have hcop:(cK x.num.natAbs).Coprime (cK x.den):=II h1 h2 x.reduced;obtain⟨r0,hr0⟩:∃r0:Rat,r0=⟨(cK x.num.natAbs:Int),cK x.den,hb,by simpa using hcop⟩:=⟨_,rfl⟩;have e1:r0.num=(cK x.num.natAbs:Int):=by rw[hr0]
  have e2:r0.den=cK x.den:=by rw[hr0]
  have e3:mkRat (cK x.num.natAbs) (cK x.den)=r0:=by rw[←e1,←e2];exact Rat.mkRat_self r0
  rw[e3];refine⟨?_,h0,h1,h2,e1,e2⟩;have e4:r0*r0=mkRat (r0.num*r0.num) (r0.den*r0.den):=Rat.mul_def' r0 r0;rw[e4,e1,e2,h2,←Int.natCast_mul,h1,Int.natAbs_of_nonneg h0];exact Rat.mkRat_self x
 cases h
theorem Ai {x:Rat}(h:zZ x=none)(r:Rat):r*r≠x:=by
 rintro rfl;have hcop:(r.num.natAbs*r.num.natAbs).Coprime (r.den*r.den):=Mw r.reduced;obtain⟨r1,hr1⟩:∃r1:Rat,r1=⟨r.num*r.num,r.den*r.den,Nat.mul_ne_zero r.den_nz r.den_nz,by rw[Int.natAbs_mul];exact hcop⟩:=⟨_,rfl⟩;have e1:r1.num=r.num*r.num:=by rw[hr1]
 have e2:r1.den=r.den*r.den:=by rw[hr1]
 have e3:r*r=r1:=by rw[Rat.mul_def',←e1,←e2];exact Rat.mkRat_self r1
 unfold zZ at h;rw[e3,if_pos]at h
 ·cases h
 rw[e1,e2,Int.natAbs_mul,Gj,Gj];refine⟨?_,rfl,rfl⟩
 rcases Int.le_total 0 r.num with h|h
 ·exact Int.mul_nonneg h h
 exact Int.mul_nonneg_of_nonpos_of_nonpos h h
end Go.Eng
namespace Go.Proofs.YtgcmkdgpaibpeaaGreat
open Go.Proofs.Tryz
open Go Go.Proofs Go.Eng
theorem BJ (x:Nat)(hx:x<BB):Pr prog 245 [.one (.int .u32 x)] (.one (.int .i64 (bl x:Nat))):=by
 refine⟨⟨_,func245,by rfl,by rfl⟩,fun ok w vs hok hr=>?_⟩;obtain⟨vs⟩:=vs
 match vs,hr with
 |[v],hr=>
  obtain⟨hv,_⟩:=hr;have hv:v= .int .u32 x:=hv;subst hv
  refine(Tryz.tE x w (by omega) (by unfold BB at hx;omega)).mono ?_
  rintro e W' ⟨rfl,rfl⟩;refine⟨_,rfl,Go.RowKit.Below.refl _ _,?_⟩;show Value.int .i64 ((Lib.bitLen (x:Int).toNat:Nat):Int)= .int .i64 ((bl x:Nat):Int);rw[Int.toNat_natCast,u5 x (by unfold BB at hx;omega)]
theorem AA (z:Int)(h0:z≠0)(hz:zn z<2^42):Pr prog 250 [ZV z] (.one (.int .i64 (kI z.natAbs:Nat))):=by
 have hp:0<z.natAbs:=by omega
 have c:=fK z (by omega);have ht:=gO hp;have d:=BJ (fa z.natAbs) ht.2;have htm:=kz hp;have hl:nl z.natAbs<2^42:=hz;have hl0:=eC.2 hp;have hg:(aj z.natAbs).getD (nl z.natAbs-1) 0=((fa z.natAbs:Nat):Int):=by rw[lG,htm]
 have hb:=xn hp;have w1:IntKind.i64.wrap ((nl z.natAbs:Int)-1)=((nl z.natAbs-1:Nat):Int):=by rw[IntWalk.i64_in _ (by omega)];omega
 have w2:IntKind.i64.wrap (32*((nl z.natAbs-1:Nat):Int))=((32*(nl z.natAbs-1):Nat):Int):=by rw[IntWalk.i64_in _ (by omega)];omega
 have w3:IntKind.i64.wrap (((32*(nl z.natAbs-1):Nat):Int)+(bl (fa z.natAbs):Nat))=((kI z.natAbs:Nat):Int):=by
  unfold kI at hb⊢;rw[IntWalk.i64_in _ (by omega)];omega
 refine pw func250 ⟨[0,1,2,3,9],[]⟩ ?_;simp only[Tryz.f250,ntmps250,iz,seval];simp only[vx,T,seval,ZV];refine Cg c ?_;simp only[vx,T,seval,ZV];refine⟨fun h=>absurd h (by omega),fun _=>Lg ?_⟩;simp only[vx,T,seval,ZV,w1,w2,hg,Int.toNat_natCast];refine⟨⟨by omega,by omega⟩,Cg d ?_⟩;simp only[vx,T,seval,ZV,w3];exact Ve rfl
theorem xN (n:Nat)(hn:n<2^50):Pr prog 251 [.one (.int .i64 n)] (.one (.ints .u32 (aj (2^n)))):=by
 have hlp:=E4 n;have hw:2^(n%32)<2^32:=Nat.pow_lt_pow_right (by decide) (Nat.mod_lt _ (by decide));have w1:IntKind.i64.wrap ((n:Int).tdiv 32)=((n/32:Nat):Int):=by rw[Int.tdiv_eq_ediv_of_nonneg (by omega),IntWalk.i64_in _ (by omega)];omega
 have w2:IntKind.i64.wrap (((n/32:Nat):Int)+1)=((n/32+1:Nat):Int):=by rw[IntWalk.i64_in _ (by omega)];omega
 have w3:(n:Int).tmod 32=((n%32:Nat):Int):=rfl;have w4:IntKind.u32.wrap (1*2^(if n%32≤32 then n%32 else 32))=((2^(n%32):Nat):Int):=by
  have e:(2:Int)^(n%32)=((2^(n%32):Nat):Int):=by rw[Int.natCast_pow];rfl
  rw[if_pos (by omega),Int.one_mul,e]
  generalize 2^(n%32)=k at hw
  rw[IntWalk.u32_in _ (by omega)]
 refine pw func251 ⟨[0,2,3],[]⟩ ?_;simp only[Tryz.f251,ntmps251,iz,seval];simp only[vx,T,seval,w1,w2,w3,Int.toNat_natCast];refine⟨⟨by omega,by omega,by omega,by omega⟩,by omega,⟨by omega,by omega⟩,Ve ?_⟩;rw[w4,List.take_of_length_le (by simp),hlp]
theorem Ew (a:Nat)(ha:nl a<2^43):Pr prog 252 [.one (.ints .u32 (aj a))] (.one (.ints .u32 (aj (a/2)))):=by
 have c:=(kj a 1 (by omega) (by decide)).ints;have hlt:a/2^1<BB^nl a:=Nat.lt_of_le_of_lt (Nat.div_le_self _ _) (cB a);have d:=dh (hO (nl a) (a/2^1)) (fU _ _) (by rw[aM];omega);rw[j4,Nat.mod_eq_of_lt hlt]at d;refine pw func252 ⟨[0,2],[]⟩ ?_;simp only[Tryz.f252,ntmps252,iz,seval];simp only[vx,T,seval];refine Cg c ?_;simp only[vx,T,seval];refine Cg d ?_;simp only[vx,T,seval];exact Ve rfl
theorem DY {a x:Nat}(h1:cK a≤x)(hx:0<x)(h:x≤(x+a/x)/2):x=cK a:=by
 have h2:=Ak hx h;have h3:=(jw a).2;refine Nat.le_antisymm ?_ h1;refine Nat.le_of_lt_succ (Nat.lt_of_not_le fun h4=>?_)
 have:(cK a+1)*(cK a+1)≤x*x:=Nat.mul_le_mul h4 h4
 omega
theorem Ls {a:Nat}(h:0<a):0<cK a:=by
 have h3:=(jw a).2
 rcases Nat.eq_zero_or_pos (cK a)with h0|h0
 ·rw[h0]at h3;omega
 exact h0
theorem A4 (z:Int)(h0:0<z)(hz:zn z<2^40):Pr prog 248 [ZV z] (.aA [ZV (cK z.natAbs:Nat),.one (.int .i64 0)]):=by
 have hs:bJ z=1:=by unfold bJ;rw[if_neg (by omega),if_neg (by omega)]
 have cs:=fJ z (by omega);rw[hs]at cs;have cb:=AA z (by omega) (by omega);have ct:=fK z (by omega);obtain⟨a,ha⟩:∃a,a=z.natAbs:=⟨_,rfl⟩;have hzs:zs z=false:=dC.2 (by omega);have ha0:0<a:=by omega
 have hal:nl a<2^40:=by rw[ha];exact hz
 rw[←ha]at cb ct⊢;have hb:=xn ha0;have hst:=EJ ha0;have hip:=Ls ha0;have w1:IntKind.i64.wrap (((kI a:Nat):Int).tdiv 2)=((kI a/2:Nat):Int):=by rw[Int.tdiv_eq_ediv_of_nonneg (by omega),IntWalk.i64_in _ (by omega)];omega
 have w2:IntKind.i64.wrap (((kI a/2:Nat):Int)+1)=((kI a/2+1:Nat):Int):=by rw[IntWalk.i64_in _ (by omega)];omega
 have csh:=xN (kI a/2+1) (by omega);have hpl:nl (2^(kI a/2+1))<2^42:=by
  have:2^(kI a/2+1)<BB^(nl a+1):=by
   rw[qu];exact Nat.pow_lt_pow_right (by decide) (by omega)
  have:=aD this
  omega
 refine pw func248 ⟨[0,1,2,3,4,5,6,8,10,11,14,38],[]⟩ ?_;simp only[Tryz.f248,ntmps248,iz,seval];simp only[vx,T,seval,ZV];refine Cg cs ?_;simp only[vx,T,seval,ZV];refine Cg cb ?_;simp only[vx,T,seval,ZV,w1,w2];refine Cg csh ?_;simp only[vx,T,seval,ZV];refine Lk (fun y:{x:Nat//cK a≤x∧0<x∧nl x<2^42}=>⟨[(0,ZV z),(1,.one (.ptr 1 0)),(2,.one (.ptr 2 0)),(3,.one (.int .i64 0)),(4,.one (.int .i64 (kI a/2+1:Nat))),(5,.one (.ints .u32 (aj y.1)))],[(1,⟨.var [.bool (zs z),.ints .u32 (zm z)],true⟩),(2,⟨.var [.bool false,.nil],true⟩)],3,42⟩) (fun y=>y.1) ⟨2^(kI a/2+1),Nat.le_of_lt hst,Nat.pow_pos (by decide),hpl⟩ ?_ (fun⟨x,hx1,hx0,hxl⟩=>?_)
 ·refine Sa ?_;simp only[ry,seval,rz,ZV]
 simp only;have hdl:nl (a/x)≤nl a:=bh (Nat.div_le_self _ _);simp only[vx,T,seval,ZV];refine Cg ct ?_;simp only[vx,T,seval,ZV];refine Cg (iI a x hx0 (by omega) (by omega)) ?_;simp only[vx,T,seval,ZV];have hsl:=ti x (a/x);have hhl:nl ((x+a/x)/2)≤nl (x+a/x):=bh (Nat.div_le_self _ _);refine Cg (oD x (a/x) (by omega) (by omega)) ?_;simp only[vx,T,seval,ZV];refine Cg (Ew (x+a/x) (by omega)) ?_;simp only[vx,T,seval,ZV];refine Cg (gK ((x+a/x)/2) x (by omega) (by omega)) ?_;simp only[vx,T,seval,ZV];have hcm:0≤eH ((x+a/x)/2:Nat) (x:Nat)↔x≤(x+a/x)/2:=by
  unfold eH
  constructor
  ·intro h
   by_cases h2:(((x+a/x)/2:Nat):Int)<(x:Int)
   ·rw[if_pos h2]at h;omega
   omega
  intro h;rw[if_neg (by omega)]
  split<;>omega
 refine⟨fun k1=>Lg ?_,fun k1=>Lg ?_⟩
 ·have hx:=DY hx1 hx0 (hcm.1 k1);simp only[vx,T,seval,ZV];refine Cg (bV false x (by omega)) ?_;have e2:fv false x=((cK a:Nat):Int):=by rw[←hx];rfl
  rw[e2];simp only[vx,T,seval,ZV];refine Va ?_;simp only[cV,aW,ry,seval,ZV]
 simp only[vx,T,seval,ZV];have hlt:(x+a/x)/2<x:=by
  refine Nat.lt_of_not_le fun h=>k1 (hcm.2 h)
 refine Lq ⟨(x+a/x)/2,vW hx0,Nat.lt_of_lt_of_le hip (vW hx0),Nat.lt_of_le_of_lt (bh (Nat.le_of_lt hlt)) hxl⟩ ?_ hlt;refine Sa ?_;simp only[ry,seval,rz,ZV]
end Go.Proofs.YtgcmkdgpaibpeaaGreat
/-
  Quotients with a negative denominator; the inverse of a rational number.
-/
namespace Go.Eng
open Go
theorem pB (a b:Int):a.fdiv (-b)=(-a).fdiv b:=by
 have:=Int.neg_fdiv_neg (a:= -a) (b:=b)
 rwa [Int.neg_neg]at this
theorem sQ (n d:Int):Int.gcd n (-d)=Int.gcd n d:=by unfold Int.gcd;rw[Int.natAbs_neg]
theorem oe (n d:Int):Int.gcd (-n) d=Int.gcd n d:=by unfold Int.gcd;rw[Int.natAbs_neg]
theorem KS {n:Int}{d:Nat}(hd:0<d):n.fdiv (-(Int.gcd n d:Int))=(mkRat (-n) d).num:=by
 rw[pB,←xJ hd,oe]
theorem Ko {n:Int}{d:Nat}(hd:0<d):(-(d:Int)).fdiv (-(Int.gcd n d:Int))=((mkRat (-n) d).den:Int):=by
 rw[pB,Int.neg_neg,←w9 hd,oe]
theorem inv_pos {x:Rat}{d:Nat}(h:x.num=(d:Int)):x⁻¹=mkRat x.den d:=by
 rw[Rat.inv_def,h];rfl
theorem inv_neg {x:Rat}{d:Nat}(h:x.num= -(d:Int)):x⁻¹=mkRat (-(x.den:Int)) d:=by
 rw[Rat.inv_def,h]
 cases d with
 |zero=>rfl
 |succ d=>rfl
end Go.Eng
namespace Go.Proofs.YtgcmkdgpaibpeaaGreat
open Go.Proofs.Tryz
open Go Go.Eng
open Go.Tw (El aC aJ zE ai au ar ao ae QB mS ah ag aO aI tB aX aG cA lS)
theorem uE (n:Int)(d:Nat)(hn:zn n<2^40)(hd:nl d<2^40)(h0:0<d):Pr prog 217 [ZV n,ZV (-(d:Int))] (QV (mkRat (-n) d)):=by
 have hg:(0:Int)<(Int.gcd n d:Nat):=by have:=wW (n:=n) h0;omega
 have hgn:zn (Int.gcd n d)≤nl d:=rC (b:=(d:Int)) (by
  have:=Nat.gcd_le_right n.natAbs (show 0<(d:Int).natAbs by omega)
  exact this)
 have hzd:zs (-(d:Int))=true:=lH.2 (by omega);have hzn:zn (-(d:Int))=nl d:=by unfold zn;rw[Int.natAbs_neg];rfl
 have c:=qt n (-(d:Int)) (by omega) (by rw[hzn];omega);rw[sQ]at c;have cn:=vo (Int.gcd n d) (by omega);have hgm:zn (-(Int.gcd n d:Int))≤nl d:=by unfold zn at hgn⊢;rw[Int.natAbs_neg];exact hgn
 refine pw func217 ⟨[0,1,2,3,4,5,10],[]⟩ ?_;simp only[Tryz.f217,ntmps217,iz,seval];simp only[vx,T,seval,ZV];refine Cg c ?_;simp only[vx,T,seval,ZV];refine⟨fun _=>Lg ?_,fun h=>absurd (hzd.symm.trans h) (by decide)⟩;simp only[vx,T,seval,ZV];refine Cg cn ?_;simp only[vx,T,seval,ZV];refine Cg (nj n (-(Int.gcd n d:Int)) (by omega) (by omega) (by omega)) ?_;rw[KS h0];simp only[vx,T,seval,ZV];refine Cg (nj (-(d:Int)) (-(Int.gcd n d:Int)) (by rw[hzn];omega) (by omega) (by omega)) ?_;rw[Ko h0];simp only[vx,T,seval,ZV];refine Va ?_;simp only[cV,aW,ry,seval,QV,QC]
theorem lY (z:Int):Pr prog 218 [ZV z] (.one (.bool (decide (z=0)))):=by
 refine pw func218 ⟨[0,1,2],[]⟩ ?_;simp only[Tryz.f218,ntmps218,iz,seval];simp only[vx,T,seval,ZV];refine Ve ?_;rw[aU]
 congr 2
 by_cases h:z=0
 ·rw[decide_eq_true h,decide_eq_true];rw[h,dU.2 rfl];rfl
 rw[decide_eq_false h,decide_eq_false];intro e;exact h (dU.1 (by omega))
theorem EA (x:Rat)(hx:qm x<2^38)(h0:x≠0):Pr prog 205 [QV 1,QV x] (.aA [QV x⁻¹,.one (.int .i64 0)]):=by
 have z:=lY x.num;have hn:x.num≠0:=fun h=>h0 (Rat.num_eq_zero.1 h);rw[decide_eq_false hn]at z;have q1:(1:Rat).num=1:=rfl;have q2:((1:Rat).den:Int)=1:=rfl;unfold qm at hx;have m1:=bO (1:Rat).num (x.den:Int) (by decide+kernel) (by rw[aE];omega);have m2:=bO ((1:Rat).den:Int) x.num (by decide+kernel) (by omega);rw[q1,Int.one_mul]at m1;rw[q2,Int.one_mul]at m2;have lo:Pr prog 217 [ZV (x.den:Int),ZV x.num] (QV x⁻¹):=by
  by_cases hp:0<x.num
  ·obtain⟨d,hd⟩:∃d:Nat,x.num=d:=⟨x.num.toNat,by omega⟩;rw[inv_pos hd,hd];rw[hd]at hx hp;rw[aE]at hx;exact fb _ d (by rw[aE];omega) (by omega) (by omega)
  obtain⟨d,hd⟩:∃d:Nat,x.num= -(d:Int):=⟨(-x.num).toNat,by omega⟩;rw[inv_neg hd,hd];have hzn:zn (-(d:Int))=nl d:=by unfold zn;rw[Int.natAbs_neg];rfl
  rw[hd,hzn]at hx;exact uE _ d (by rw[aE];omega) (by omega) (by omega)
 refine pw func205 ⟨[0,1,2,3,4,5,8],[]⟩ ?_;simp only[Tryz.f205,ntmps205,iz,seval];simp only[vx,T,seval,QV,QC];refine Cg z ?_;simp only[vx,T,seval,QV,QC];refine Cg m1 ?_;simp only[vx,T,seval,QV,QC,ZV];refine Cg m2 ?_;simp only[vx,T,seval,QV,QC,ZV];refine Cg lo ?_;simp only[vx,T,seval,QV,QC,ZV];exact Ve rfl
theorem EC (a x:Rat)(h0:x=0):Pr prog 205 [QV a,QV x] (.aA [.agg [.bool false,.nil,.bool false,.nil],.one (.int .i64 6)]):=by
 have z:=lY x.num;have hn:x.num=0:=by rw[h0];rfl
 rw[decide_eq_true hn]at z;refine pw func205 ⟨[0,1,2,3,4,5,8],[]⟩ ?_;simp only[Tryz.f205,ntmps205,iz,seval];simp only[vx,T,seval,QV,QC];refine Cg z ?_;simp only[vx,T,seval,QV,QC];exact Ve rfl
theorem fP.aA {xs ys:List V}(h:uP xs ys):fP (.aA xs) (.aA ys):=fun _ _ _ ⟨vs,e,hl⟩=>⟨vs,e,h.rep hl⟩
theorem ji {t:List El}:∀{h:Nat} {a n:El},cA h t a=some n→n.length=2^h
 |0,a,n,e=>by
  unfold cA at e
  split at e
  ·cases e
  obtain rfl:=Option.some.inj e;rfl
 |h+1,a,n,e=>by
  have e':((cA h t (aO h t a)).map fun n=>ai h t (a.take (2^h)) n++aJ (ai h t (a.drop (2^h)) n))=some n:=e;obtain⟨m,_,rfl⟩:=Option.map_eq_some_iff.1 e';rw[X6,ar,ae,ae,Nat.pow_succ];omega
def zR:C:=.rows 4 1 (fun i j=>[C.bool false,.nil,.bool false,.nil].getD (i*4+j) .any)
def Qt (c:C):Prop:=c= .nil∨c=zR
def CW (h:Nat)(t:List El)(a:El)(f:FuncId):Prop:=
 (∀n,cA h t a=some n→Pr prog f [tV h t,eV a] (.aA [eV n,.one (.bool true)]))∧
 (cA h t a=none→∃c,Qt c∧Pr prog f [tV h t,eV a] (.aA [.one c,.one (.bool false)]))
theorem G3 {X:Nat}{t:List El}(hX:X≤2^30){a:El}(ha:a.length=2^0)(hq:QB X a):CW 0 t a 180:=by
 obtain⟨x,rfl⟩:=Go.Tw.bB ha;have hx:qm x≤X:=hq x (by simp);have one:=cP 1 (by decide) (by decide);have e:cA 0 t [x]=if x=0 then none else some [x⁻¹]:=rfl
 unfold CW;rw[e]
 by_cases h0:x=0
 ·rw[if_pos h0];refine⟨fun n h=>(by cases h),fun _=>?_⟩;have d:=EC 1 x h0;refine⟨_,.inr rfl,?_⟩;refine pw func180 ⟨[0,1,4,5,6,7,8,10,11,12,13,16,43],[(2,(.cons 9 [7] (.cons 10 [] .nil .nil) .nil))]⟩ ?_;simp only[Tryz.f180,ntmps180,iz,seval];simp only[vx,T,seval,tV,tC,eV,aa];refine Cg one ?_;simp only[vx,T,seval,QV,QC,tV,tC,eV,aa,qC,X0];refine Cg d ?_;simp only[vx,T,seval,QV,QC,tV,tC,eV,aa,qC,X0];exact Ve rfl
 rw[if_neg h0];refine⟨fun n h=>?_,fun h=>(by cases h)⟩;obtain rfl:=Option.some.inj h;have d:=EA x (by omega) h0;refine pw func180 ⟨[0,1,4,5,6,7,8,10,11,12,13,16,43],[(2,(.cons 9 [7] (.cons 10 [] .nil .nil) .nil))]⟩ ?_;simp only[Tryz.f180,ntmps180,iz,seval];simp only[vx,T,seval,tV,tC,eV,aa];refine Cg one ?_;simp only[vx,T,seval,QV,QC,tV,tC,eV,aa,qC,X0];refine Cg d ?_;simp only[vx,T,seval,QV,QC,tV,tC,eV,aa,qC,X0];refine fP.aA ⟨.cell (.rows rfl fun i j hi _=>.of_eq ?_),.refl _,trivial⟩;obtain rfl:i=0:=by omega
 rw[Nat.zero_mul,Nat.zero_add];exact dA x⁻¹ rfl j
theorem pM {X:Nat}(hX1:1≤X)(hX:X≤2^30){t:List El}:∀{h:Nat} {a:El},TQ h t→a.length=2^h→lS X h t a→CW h t a 180
 |0,a,_,ha,hi=>G3 hX ha hi
 |h+1,a,W,ha,hi=>by
  have W':=W.le (Nat.le_succ h);have hqa:=hi.qb;obtain⟨_,_,i3,_,i5⟩:=hi;have ih:=pM hX1 hX W' aI i3;have h3:=W.h3;have hp:=aN W'.tk.le8;have cs:=l6 (h:=h) (t:=t) (by omega);have ch:=iU (h:=h) (by omega) ha;have cn:=(tZ W a ha hX1 hX hqa).rows;have la1:=ah ha;have la2:=ag ha;have e:cA (h+1) t a=(cA h t (aO h t a)).map fun n=>ai h t (a.take (2^h)) n++aJ (ai h t (a.drop (2^h)) n):=rfl;unfold CW at ih⊢;rw[e]
  cases hn:cA h t (aO h t a)with
  |none=>
   refine⟨fun n h=>(by cases h),fun _=>?_⟩;obtain⟨c,hcc,hc⟩:=ih.2 hn;refine⟨.nil,.inl rfl,?_⟩
   rcases hcc with rfl|rfl
   ·refine pw func180 ⟨[0,1,4,5,6,7,8,10,11,12,13,16,43],[(2,(.cons 9 [7] (.cons 10 [] .nil .nil) .nil))]⟩ ?_;simp only[Tryz.f180,ntmps180,iz,seval];simp only[vx,T,seval,tV,tC,eV,aa];refine⟨fun h=>absurd h (by omega),fun _=>Lg ?_⟩;simp only[vx,T,seval,tV,tC,eV,aa];refine Cg cs ?_;simp only[vx,T,seval,tV,tC,eV,aa];refine Cg cn ?_;simp only[vx,T,seval,tV,tC,eV,aa];refine Cg hc ?_;simp only[vx,T,seval,tV,tC,eV,aa];exact Ve rfl
   refine pw func180 ⟨[0,1,4,5,6,7,8,10,11,12,13,16,43],[(2,(.cons 9 [7] (.cons 10 [] .nil .nil) .nil))]⟩ ?_;simp only[Tryz.f180,ntmps180,iz,seval];simp only[vx,T,seval,tV,tC,eV,aa];refine⟨fun h=>absurd h (by omega),fun _=>Lg ?_⟩;simp only[vx,T,seval,tV,tC,eV,aa];refine Cg cs ?_;simp only[vx,T,seval,tV,tC,eV,aa];refine Cg cn ?_;simp only[vx,T,seval,tV,tC,eV,aa];refine Cg hc ?_;simp only[vx,T,seval,tV,tC,eV,aa,zR];exact Ve rfl
  |some n=>
   refine⟨fun n' hh=>?_,fun hh=>(by cases hh)⟩;obtain rfl:=Option.some.inj hh;have hc:=ih.1 n hn;have hqn:=i5 n hn;have ln:=ji hn;have m1:=LM W' la1 ln hX1 hX1 (by omega) (hqa.take _) hqn;have m2:=(LM W' la2 ln hX1 hX1 (by omega) (hqa.drop _) hqn).rows;have g2:=QB.mul fS W'.q hX1 hX1 (hqa.drop (2^h)) hqn;have b2:=lv W'.h3 (S:=X+X) (by omega);have nn:=(nF _ (by rw[ae];omega) (Qk.of g2 (by omega))).rows;obtain⟨x,hx⟩:∃x,x=a.take (2^h):=⟨_,rfl⟩;obtain⟨y,hy⟩:∃y,y=a.drop (2^h):=⟨_,rfl⟩;rw[←hx,←hy]at ch⊢;rw[←hx]at m1;rw[←hy]at m2 nn;refine pw func180 ⟨[0,1,4,5,6,7,8,10,11,12,13,16,43],[(2,(.cons 9 [7] (.cons 10 [] .nil .nil) .nil))]⟩ ?_;simp only[Tryz.f180,ntmps180,iz,seval];simp only[vx,T,seval,tV,tC,eV,aa];refine⟨fun h=>absurd h (by omega),fun _=>Lg ?_⟩;simp only[vx,T,seval,tV,tC,eV,aa];refine Cg cs ?_;simp only[vx,T,seval,tV,tC,eV,aa];refine Cg cn ?_;simp only[vx,T,seval,tV,tC,eV,aa];refine Cg hc ?_;simp only[vx,T,seval,tV,tC,eV,aa];refine Cg ch ?_;simp only[vx,T,seval,tV,tC,eV,aa];refine cF.fresh m1 ?_;simp only[vx,T,seval,tV,tC,eV,aa];refine Cg m2 ?_;simp only[vx,T,seval,tV,tC,eV,aa];refine Cg nn ?_;simp only[vx,T,seval,tV,tC,eV,aa];exact⟨by rw[ae,ar,ae];omega,fP.aA ⟨.cell (.rows List.length_append.symm fun i j _ _=>.of_eq (kS _ _ i j)),.refl _,trivial⟩⟩
open Go Go.Proofs Go.Eng
theorem D9 {a a' b b':C}(h1:dr a a')(h2:dr b b'):tQ (.agg [a,b]) (.agg [a',b']):=by
 intro ok w v hr;obtain⟨vs,e,hl⟩:=hr;refine⟨vs,e,?_⟩
 generalize vs.toList=l at hl⊢
 match l,hl with
 |[x,y],⟨k1,k2,_⟩=>exact⟨aB.ba (h1 ok w x (aP.dX k1)),aB.ba (h2 ok w y (aP.dX k2)),trivial⟩
theorem Qj:tQ (.agg [.bool false,.nil]) (ZV 0):=D9 (.refl _) (by
 have:zm 0=[]:=by decide+kernel
 rw[this];exact .zB _)
theorem FD (z:Int)(h0:0<z)(hz:zn z<2^38):Pr prog 241 [ZV z] (.aA [ZV (cK z.natAbs:Nat),.one (.bool (decide (cK z.natAbs*cK z.natAbs=z.natAbs)))]):=by
 have c:=A4 z h0 (by omega);obtain⟨s,hs⟩:∃s,s=cK z.natAbs:=⟨_,rfl⟩;have hsz:zn (s:Int)≤zn z:=rC (by rw[hs];exact Aw _);rw[←hs]at c⊢;have m:=bO (s:Int) (s:Int) (by omega) (by omega);have hm:zn ((s:Int)*s)≤zn (s:Int)+zn (s:Int):=cQ _ _;have cc:=qp ((s:Int)*s) z (by omega) (by omega);have e:decide (eH ((s:Int)*s) z=0)=decide (s*s=z.natAbs):=decide_eq_decide.2 (by rw[Cz];omega);refine pw func241 ⟨[0,1,2,3,4,5],[(2,(.cons 11 [9,10] (.cons 12 [] .nil .nil) .nil))]⟩ ?_;simp only[Tryz.f241,ntmps241,iz,seval];simp only[vx,T,seval,ZV];refine Cg c ?_;simp only[vx,T,seval,ZV];refine Cg m ?_;simp only[vx,T,seval,ZV];refine Cg cc ?_;simp only[vx,T,seval,ZV];rw[e];exact Ve rfl
theorem Bw:Pr prog 248 [ZV 0] (.aA [.agg [.bool false,.nil],.one (.int .i64 0)]):=by
 have cs:=fJ 0 (by decide+kernel);have hs:bJ 0=0:=rfl;rw[hs]at cs;refine pw func248 ⟨[0,1,2,3,4,5,6,8,10,11,14,38],[]⟩ ?_;simp only[Tryz.f248,ntmps248,iz,seval];simp only[vx,T,seval,ZV];refine Cg cs ?_;simp only[vx,T,seval,ZV];exact Ve rfl
theorem EN (z:Int)(h0:z<0)(hz:zn z<2^38):Pr prog 248 [ZV z] (.aA [.agg [.bool false,.nil],.one (.int .i64 7)]):=by
 have cs:=fJ z (by omega);have hs:bJ z= -1:=by unfold bJ;rw[if_neg (by omega),if_pos h0]
 rw[hs]at cs;refine pw func248 ⟨[0,1,2,3,4,5,6,8,10,11,14,38],[]⟩ ?_;simp only[Tryz.f248,ntmps248,iz,seval];simp only[vx,T,seval,ZV];refine Cg cs ?_;simp only[vx,T,seval,ZV];exact Ve rfl
theorem FR (z:Int)(h0:z<0)(hz:zn z<2^38):Pr prog 241 [ZV z] (.aA [.agg [.bool false,.nil],.one (.bool false)]):=by
 have c:=EN z h0 hz;refine pw func241 ⟨[0,1,2,3,4,5],[(2,(.cons 11 [9,10] (.cons 12 [] .nil .nil) .nil))]⟩ ?_;simp only[Tryz.f241,ntmps241,iz,seval];simp only[vx,T,seval,ZV];refine Cg c ?_;simp only[vx,T,seval,ZV];exact Ve rfl
theorem D7:Pr prog 241 [ZV 0] (.aA [.agg [.bool false,.nil],.one (.bool true)]):=by
 have c:=Bw;have m:=bO 0 0 (by decide+kernel) (by decide+kernel);have m:=m.args (xs:=[.agg [.bool false,.nil],.agg [.bool false,.nil]]) ⟨Qj,Qj,trivial⟩;have cc:=qp 0 0 (by decide+kernel) (by decide+kernel);rw[pX rfl]at cc;rw[Int.mul_zero]at m;refine pw func241 ⟨[0,1,2,3,4,5],[(2,(.cons 11 [9,10] (.cons 12 [] .nil .nil) .nil))]⟩ ?_;simp only[Tryz.f241,ntmps241,iz,seval];simp only[vx,T,seval,ZV];refine Cg c ?_;simp only[vx,T,seval,ZV];refine Cg m ?_;simp only[vx,T,seval,ZV];refine Cg cc ?_;simp only[vx,T,seval,ZV];exact Ve rfl
theorem nE (z:Int)(hz:zn z<2^38):∃m,(m= .nil∨∃xs,m= .ints .u32 xs)∧Pr prog 241 [ZV z] (.aA [.agg [.bool false,m],.one (.bool (decide (0≤z∧cK z.natAbs*cK z.natAbs=z.natAbs)))])∧
  (0≤z→dr m (.ints .u32 (zm (cK z.natAbs:Nat)))):=by
 rcases Int.lt_trichotomy z 0 with h|h|h
 ·refine⟨.nil,.inl rfl,?_,fun h2=>absurd h2 (by omega)⟩;rw[decide_eq_false (by omega)];exact FR z h hz
 ·subst h;refine⟨.nil,.inl rfl,?_,fun _=>?_⟩
  ·rw[decide_eq_true (by decide)];exact D7
  have:zm (cK (0:Int).natAbs:Nat)=[]:=by decide+kernel
  rw[this];exact .zB _
 refine⟨_,.inr ⟨_,rfl⟩,?_,fun _=>.refl _⟩;have e:decide (0≤z∧cK z.natAbs*cK z.natAbs=z.natAbs)=decide (cK z.natAbs*cK z.natAbs=z.natAbs):=decide_eq_decide.2 ⟨fun h=>h.2,fun h2=>⟨by omega,h2⟩⟩;rw[e];have r:=FD z h hz;have hzs:zs (cK z.natAbs:Nat)=false:=dC.2 (by omega);unfold ZV at r⊢;rw[hzs]at r;exact r
theorem Ah {a b c d a' b' c' d':C}(h1:dr a a')(h2:dr b b')(h3:dr c c')(h4:dr d d'):tQ (.agg [a,b,c,d]) (.agg [a',b',c',d']):=by
 intro ok w v hr;obtain⟨vs,e,hl⟩:=hr;refine⟨vs,e,?_⟩
 generalize vs.toList=l at hl⊢
 match l,hl with
 |[x,y,z,u],⟨k1,k2,k3,k4,_⟩=>exact⟨aB.ba (h1 ok w x (aP.dX k1)),aB.ba (h2 ok w y (aP.dX k2)),aB.ba (h3 ok w z (aP.dX k3)),aB.ba (h4 ok w u (aP.dX k4)),trivial⟩
theorem Ft {x:Rat}{b1 b2:Bool}{m1 m2:C}(k1:m1= .nil∨∃xs,m1= .ints .u32 xs)(k2:m2= .nil∨∃xs,m2= .ints .u32 xs)(c1:Pr prog 241 [ZV x.num] (.aA [.agg [.bool false,m1],.one (.bool b1)]))
  (c2:Pr prog 241 [ZV (x.den:Int)] (.aA [.agg [.bool false,m2],.one (.bool b2)])) (h:¬(b1=true∧b2=true)):Pr prog 225 [QV x] (.aA [.agg [.bool false,.nil,.bool false,.nil],.one (.bool false)]):=by
 rcases k1 with rfl|⟨x1,rfl⟩<;>rcases k2 with rfl|⟨x2,rfl⟩<;>cases b1<;>cases b2
 ·refine pw func225 ⟨[0,1,2,3,4,5,6,7,25],[]⟩ ?_;simp only[Tryz.f225,ntmps225,iz,seval];simp only[vx,T,seval,QV,QC,ZV];refine Cg c1 ?_;simp only[vx,T,seval,QV,QC,ZV];refine Cg c2 ?_;simp only[vx,T,seval,QV,QC,ZV];exact Ve rfl
 ·refine pw func225 ⟨[0,1,2,3,4,5,6,7,25],[]⟩ ?_;simp only[Tryz.f225,ntmps225,iz,seval];simp only[vx,T,seval,QV,QC,ZV];refine Cg c1 ?_;simp only[vx,T,seval,QV,QC,ZV];refine Cg c2 ?_;simp only[vx,T,seval,QV,QC,ZV];exact Ve rfl
 ·refine pw func225 ⟨[0,1,2,3,4,5,6,7,25],[]⟩ ?_;simp only[Tryz.f225,ntmps225,iz,seval];simp only[vx,T,seval,QV,QC,ZV];refine Cg c1 ?_;simp only[vx,T,seval,QV,QC,ZV];refine Cg c2 ?_;simp only[vx,T,seval,QV,QC,ZV];exact Ve rfl
 ·exact absurd ⟨rfl,rfl⟩ h
 ·refine pw func225 ⟨[0,1,2,3,4,5,6,7,25],[]⟩ ?_;simp only[Tryz.f225,ntmps225,iz,seval];simp only[vx,T,seval,QV,QC,ZV];refine Cg c1 ?_;simp only[vx,T,seval,QV,QC,ZV];refine Cg c2 ?_;simp only[vx,T,seval,QV,QC,ZV];exact Ve rfl
 ·refine pw func225 ⟨[0,1,2,3,4,5,6,7,25],[]⟩ ?_;simp only[Tryz.f225,ntmps225,iz,seval];simp only[vx,T,seval,QV,QC,ZV];refine Cg c1 ?_;simp only[vx,T,seval,QV,QC,ZV];refine Cg c2 ?_;simp only[vx,T,seval,QV,QC,ZV];exact Ve rfl
 ·refine pw func225 ⟨[0,1,2,3,4,5,6,7,25],[]⟩ ?_;simp only[Tryz.f225,ntmps225,iz,seval];simp only[vx,T,seval,QV,QC,ZV];refine Cg c1 ?_;simp only[vx,T,seval,QV,QC,ZV];refine Cg c2 ?_;simp only[vx,T,seval,QV,QC,ZV];exact Ve rfl
 ·exact absurd ⟨rfl,rfl⟩ h
 ·refine pw func225 ⟨[0,1,2,3,4,5,6,7,25],[]⟩ ?_;simp only[Tryz.f225,ntmps225,iz,seval];simp only[vx,T,seval,QV,QC,ZV];refine Cg c1 ?_;simp only[vx,T,seval,QV,QC,ZV];refine Cg c2 ?_;simp only[vx,T,seval,QV,QC,ZV];exact Ve rfl
 ·refine pw func225 ⟨[0,1,2,3,4,5,6,7,25],[]⟩ ?_;simp only[Tryz.f225,ntmps225,iz,seval];simp only[vx,T,seval,QV,QC,ZV];refine Cg c1 ?_;simp only[vx,T,seval,QV,QC,ZV];refine Cg c2 ?_;simp only[vx,T,seval,QV,QC,ZV];exact Ve rfl
 ·refine pw func225 ⟨[0,1,2,3,4,5,6,7,25],[]⟩ ?_;simp only[Tryz.f225,ntmps225,iz,seval];simp only[vx,T,seval,QV,QC,ZV];refine Cg c1 ?_;simp only[vx,T,seval,QV,QC,ZV];refine Cg c2 ?_;simp only[vx,T,seval,QV,QC,ZV];exact Ve rfl
 ·exact absurd ⟨rfl,rfl⟩ h
 ·refine pw func225 ⟨[0,1,2,3,4,5,6,7,25],[]⟩ ?_;simp only[Tryz.f225,ntmps225,iz,seval];simp only[vx,T,seval,QV,QC,ZV];refine Cg c1 ?_;simp only[vx,T,seval,QV,QC,ZV];refine Cg c2 ?_;simp only[vx,T,seval,QV,QC,ZV];exact Ve rfl
 ·refine pw func225 ⟨[0,1,2,3,4,5,6,7,25],[]⟩ ?_;simp only[Tryz.f225,ntmps225,iz,seval];simp only[vx,T,seval,QV,QC,ZV];refine Cg c1 ?_;simp only[vx,T,seval,QV,QC,ZV];refine Cg c2 ?_;simp only[vx,T,seval,QV,QC,ZV];exact Ve rfl
 ·refine pw func225 ⟨[0,1,2,3,4,5,6,7,25],[]⟩ ?_;simp only[Tryz.f225,ntmps225,iz,seval];simp only[vx,T,seval,QV,QC,ZV];refine Cg c1 ?_;simp only[vx,T,seval,QV,QC,ZV];refine Cg c2 ?_;simp only[vx,T,seval,QV,QC,ZV];exact Ve rfl
 exact absurd ⟨rfl,rfl⟩ h
theorem AF {x:Rat}(hx:qm x<2^38)(h:zZ x=none):Pr prog 225 [QV x] (.aA [.agg [.bool false,.nil,.bool false,.nil],.one (.bool false)]):=by
 unfold qm at hx;obtain⟨m1,k1,c1,_⟩:=nE x.num (by omega);obtain⟨m2,k2,c2,_⟩:=nE (x.den:Int) (by rw[aE];omega);refine Ft k1 k2 c1 c2 fun⟨h1,h2⟩=>?_;have h1:=of_decide_eq_true h1;have h2:=of_decide_eq_true h2;unfold zZ at h;rw[if_pos ⟨h1.1,h1.2,h2.2⟩]at h;cases h
theorem BL {x r:Rat}(hx:qm x<2^38)(h:zZ x=some r):Pr prog 225 [QV x] (.aA [QV r,.one (.bool true)]):=by
 obtain⟨_,s1,s2,s3,s4,s5⟩:=pE h;unfold qm at hx;obtain⟨m1,k1,c1,l1⟩:=nE x.num (by omega);obtain⟨m2,k2,c2,l2⟩:=nE (x.den:Int) (by rw[aE];omega);rw[decide_eq_true ⟨s1,s2⟩]at c1;rw[decide_eq_true ⟨by omega,s3⟩]at c2;have l1:=l1 s1;have l2:=l2 (by omega);have hz1:zs r.num=false:=dC.2 (by omega);have hz2:zs (r.den:Int)=false:=dC.2 (by omega);have fin:fP (.aA [.agg [.bool false,m1,.bool false,m2],.one (.bool true)]) (.aA [QV r,.one (.bool true)]):=by
  refine fP.aA ⟨?_,.refl _,trivial⟩;unfold QV QC;rw[hz1,hz2,s4,s5];exact Ah (.refl _) l1 (.refl _) l2
 rcases k1 with rfl|⟨x1,rfl⟩<;>rcases k2 with rfl|⟨x2,rfl⟩
 ·refine pw func225 ⟨[0,1,2,3,4,5,6,7,25],[]⟩ ?_;simp only[Tryz.f225,ntmps225,iz,seval];simp only[vx,T,seval,QV,QC,ZV];refine Cg c1 ?_;simp only[vx,T,seval,QV,QC,ZV];refine Cg c2 ?_;simp only[vx,T,seval,QV,QC,ZV];exact fin
 ·refine pw func225 ⟨[0,1,2,3,4,5,6,7,25],[]⟩ ?_;simp only[Tryz.f225,ntmps225,iz,seval];simp only[vx,T,seval,QV,QC,ZV];refine Cg c1 ?_;simp only[vx,T,seval,QV,QC,ZV];refine Cg c2 ?_;simp only[vx,T,seval,QV,QC,ZV];exact fin
 ·refine pw func225 ⟨[0,1,2,3,4,5,6,7,25],[]⟩ ?_;simp only[Tryz.f225,ntmps225,iz,seval];simp only[vx,T,seval,QV,QC,ZV];refine Cg c1 ?_;simp only[vx,T,seval,QV,QC,ZV];refine Cg c2 ?_;simp only[vx,T,seval,QV,QC,ZV];exact fin
 refine pw func225 ⟨[0,1,2,3,4,5,6,7,25],[]⟩ ?_;simp only[Tryz.f225,ntmps225,iz,seval];simp only[vx,T,seval,QV,QC,ZV];refine Cg c1 ?_;simp only[vx,T,seval,QV,QC,ZV];refine Cg c2 ?_;simp only[vx,T,seval,QV,QC,ZV];exact fin
open Go Go.Eng
open Go.Tw (El aC aJ zE ai au ar ao ae QB mS ah ag aO aI tB aX aG cA lS)
theorem qY {X h:Nat}(hX1:1≤X)(hX:X≤2^30){t:List El}{a n:El}(W:TQ h t)(ha:a.length=2^h)(hi:lS X h t a)(hn:cA h t a=some n):
  Pr prog 141 [tV h t,eV a] (.aA [eV n,.one (.int .i64 0)]):=by
 have f:=dD W.tk a ha (.of hi.qb (by omega));have c:=(pM hX1 hX W ha hi).1 n hn;refine pw func141 ⟨[0,1,4,5,6,7,11,19],[]⟩ ?_;simp only[Tryz.f141,ntmps141,iz,seval];simp only[vx,T,seval,tV,tC,eV,aa];refine Cg f ?_;simp only[vx,T,seval,tV,tC,eV,aa];refine Cg c ?_;simp only[vx,T,seval,tV,tC,eV,aa];exact Ve rfl
open Go Go.Eng
open Go.Tw (El aC aJ zE ai au ar ao ae QB mS ah ag aO aI tB aX aG)
theorem sK (z:Int)(hz:zn z<2^40):Pr prog 253 [ZV z] (ZV z):=by
 have c:=fK z (by omega);have d:=xz z.natAbs (by show nl z.natAbs<_;unfold zn at hz;omega);have s:=bV (zs z) z.natAbs (by unfold zn at hz;omega);have e:fv (zs z) z.natAbs=z:=bY z;rw[e]at s;refine pw func253 ⟨[0,1,2],[]⟩ ?_;simp only[Tryz.f253,ntmps253,iz,seval];simp only[vx,T,seval,ZV];refine Cg c ?_;simp only[vx,T,seval,ZV];refine Cg d ?_;simp only[vx,T,seval,ZV];refine Cg s ?_;simp only[vx,T,seval,ZV];exact Ve rfl
theorem BA (n:Int)(d:Nat)(hn:zn n<2^39)(hd:nl d<2^39)(h0:0<d):Pr prog 249 [ZV n,ZV (d:Int)] (.aA [QV (mkRat n d),.one (.int .i64 0)]):=by
 have n1:=sK n (by omega);have n2:=sK (d:Int) (by rw[aE];omega);have z:=lY (d:Int);rw[decide_eq_false (by omega)]at z;have lo:=fb n d (by omega) (by omega) h0;refine pw func249 ⟨[0,1,2,3,4,5,11],[]⟩ ?_;simp only[Tryz.f249,ntmps249,iz,seval];simp only[vx,T,seval,ZV];refine Cg n1 ?_;simp only[vx,T,seval,ZV];refine Cg n2 ?_;simp only[vx,T,seval,ZV];refine Cg z ?_;simp only[vx,T,seval,ZV];refine Cg lo ?_;simp only[vx,T,seval,ZV,QV,QC];exact Ve rfl
theorem Bm (n:Int)(d:Nat)(hn: -9223372036854775808≤n∧n≤9223372036854775807)(hd:d≤9223372036854775807)(h0:0<d)(k1:zn n<2^39)(k2:nl d<2^39):
  Pr prog 243 [.one (.int .i64 n),.one (.int .i64 d)] (QV (mkRat n d)):=by
 have c1:=gM n hn.1 hn.2;have c2:=gM (d:Int) (by omega) (by omega);have m:=BA n d k1 k2 h0;refine pw func243 ⟨[0,1,4,5,6,16],[]⟩ ?_;simp only[Tryz.f243,ntmps243,iz,seval];simp only[vx,T,seval,ZV];refine Cg c1 ?_;simp only[vx,T,seval,ZV];refine Cg c2 ?_;simp only[vx,T,seval,ZV];refine Cg m ?_;simp only[vx,T,seval,ZV,QV,QC];exact Ve rfl
theorem It {X h:Nat}{q:Rat}(h0:qm 0≤X)(hq:qm q≤X):QB X (aX h q):=fun x hx=>by
 unfold aX at hx
 rcases List.mem_cons.1 hx with rfl|hx
 ·exact hq
 rw[List.eq_of_mem_replicate hx];exact h0
theorem BE {X h:Nat}{t:List El}{a:El}(hX1:1≤X)(hX:X≤2^31)(W:TQ h t)(ha:a.length=2^h)(hq:QB X a):
  Pr prog 228 [tV h t,eV a] (eV (ai h t a (aX h (mkRat 1 2)))):=by
 have c:=Bm 1 2 (by decide) (by decide) (by decide) (by decide+kernel) (by decide+kernel);have f:=eA W.tk (mkRat 1 2) (by decide+kernel);have m:=Hn W ha aG hX1 (by decide) (by omega) hq (It (X:=8) (h:=h) (q:=mkRat 1 2) (by decide+kernel) (by decide+kernel));refine pw func228 ⟨[0,1,4],[]⟩ ?_;simp only[Tryz.f228,ntmps228,iz,seval];simp only[vx,T,seval,tV,tC,eV,aa];refine Cg c ?_;simp only[vx,T,seval,tV,tC,eV,aa,QV,QC];refine Cg f ?_;simp only[vx,T,seval,tV,tC,eV,aa];refine Cg m ?_;simp only[vx,T,seval,tV,tC,eV,aa];exact Ve rfl
open Go Go.Proofs Go.RowKit Go.Eng
set_option maxRecDepth 100000 in
theorem Ca (k:Nat)(h0:0<k)(hb:k*64≤140737488355328)(w:World)(i:TypeInfo)(z:Value)(hi:prog.info? 62=some i)(hz:i.zero=some z)(hs:i.size=4)(hby:i.bytes=64):
  Calls prog 242 #[.slice none 0 0,.int .i64 k] w fun e w'=>e= .returned (.slice (some ⟨w.heap.size,0,none⟩) 0 (grownCap w k 0 62))∧
   w'=w.drew.alloc (.cells (Builtin.zeroCells z.cells k++Builtin.zeroCells z.cells (grownCap w k 0 62-k)) 62):=by
 have h1:¬((k:Int)<0):=by omega
 have h3:wrap64 ((k:Int)-(((0:Nat):Int)-((0:Nat):Int)))=(k:Int):=by unfold wrap64;omega
 have h4:(k:Int)>0:=by omega
 have hrz:∀ty,(Builtin.append_ #[50,3] ty #[.slice none 0 0,.int .i64 (k:Int)]).run prog w=
   .ok (.slice (some ⟨w.heap.size,0,none⟩) k (grownCap w k 0 62)) (w.drew.alloc (.cells (Builtin.zeroCells z.cells k++Builtin.zeroCells z.cells (grownCap w k 0 62-k)) 62)):=fun ty=>
  Lib.run_append_nil_zeros w 50 3 ty 62 i z .i64 .i64 (by rfl) (by rfl) hi hz k h0 (by omega) (by omega) (by rw[hby];omega)
 obtain⟨G,hG⟩:∃G,G=grownCap w k 0 62:=⟨_,rfl⟩;rw[←hG]at hrz⊢;have hGn:k≤G:=by rw[hG];exact grownCap_ge w _ _ _
 clear hG
 go_enter func242,ntmps242
 go_wp2_with (at_builtin;refine Lib.wpList_append_run _ rfl _ _ _ _ rfl _ _ rfl rfl _ _ (hrz _) ?_)
 all_goals(go_ret;exact⟨rfl,rfl⟩)
set_option maxRecDepth 100000 in
theorem BT (w:World):Calls prog 242 #[.slice none 0 0,.int .i64 0] w fun e w'=>e= .returned (.slice none 0 0)∧w'=w:=by
 go_enter func242,ntmps242
 go_wp2
 go_ret
 exact⟨rfl,rfl⟩
theorem AR (k:Nat)(hb:k*64≤140737488355328):Fr prog 242 [.one .nil,.one (.int .i64 k)] (.rows 62 4 0 (fun _ _=>.any)):=by
 obtain⟨i,d,z,hi,hu,hz,_,hs,hby,hzl,_⟩:=bD yV (show T 62=some _ from rfl);have hs:i.size=4:=hs.symm;have hby:i.bytes=64:=hby.symm;refine⟨⟨_,func242,by rfl,by rfl⟩,trivial,fun ok w vs hok hr=>?_⟩;obtain⟨vs⟩:=vs
 match vs,hr with
 |[v,u],hr=>
  obtain⟨hv,hu,_⟩:=hr;have hv:v= .slice none 0 0:=hv;have hu:u= .int .i64 k:=hu;subst hv hu
  by_cases h0:k=0
  ·subst h0
   refine(BT w).mono ?_
   rintro e w' ⟨rfl,rfl⟩;exact⟨_,⟨none,0⟩,rfl,Go.RowKit.Below.refl _ _,rfl,(fun g o h=>by cases h),(fun j=>by simp[Bk.cell]),trivial,Nat.le_refl _,0,Nat.le_refl _,.inr ⟨rfl,rfl,rfl,rfl⟩⟩
  refine(Ca k (by omega) hb w i z hi hz hs hby).mono ?_
  rintro e w' ⟨rfl,rfl⟩;have hzc:z.cells.size=4:=by
   have:=congrArg List.length hzl
   simpa[T]using this.symm
  have hGn:k≤grownCap w k 0 62:=grownCap_ge w _ _ _;refine⟨_,⟨some (w.heap.size,0),0⟩,rfl,((Go.RowKit.Below.refl _ w).drew).alloc (Nat.le_refl _) _,rfl,fun g o h=>?_,?_,trivial,Nat.le_refl _,grownCap w k 0 62,Nat.zero_le _,.inl ⟨w.heap.size,0,0,rfl,rfl,.inr (by simp),?_⟩⟩
  ·have:w.heap.size=g:=by simpa using congrArg (Option.map Prod.fst) h
   subst this;exact⟨Nat.le_refl _,by simp⟩
  ·unfold aL;refine⟨_,62,heap_alloc_new w.drew _,fun j c hj=>?_⟩
   simp[Bk.cell]at hj
  have hrs:bU (w.drew.alloc (.cells (Builtin.zeroCells z.cells k++Builtin.zeroCells z.cells (grownCap w k 0 62-k)) 62)) w.heap.size=(Builtin.zeroCells z.cells k++Builtin.zeroCells z.cells (grownCap w k 0 62-k)).size:=dH (heap_alloc_new w.drew _);rw[hrs];simp only[Array.size_append,size_zeroCells,hzc,Bk.wd];omega
end Go.Proofs.YtgcmkdgpaibpeaaGreat
namespace Go.Eng
open Go
theorem fR {P:Program}{f:FuncId}{xs ys:List V}{B:Bk}(h:Fr P f ys B)(ha:uP xs ys):Fr P f xs B:=
 ⟨h.1,h.2.1,fun ok w vs hok hvs=>h.2.2 ok w vs hok (ha.rep hvs)⟩
theorem nJ {α:Type}{ps:List (List α)}{i:Nat}(h:i<ps.length):(ps.take (i+1)).flatten=(ps.take i).flatten++ps.getD i default:=by
 rw[List.take_add_one,List.flatten_append,X7,X8 h];simp
theorem jM {α:Type}(ps:List (List α))(i:Nat):(ps.take i).flatten.length≤ps.flatten.length:=by
 conv=>rhs;rw[←List.take_append_drop i ps,List.flatten_append,X6]
 exact Nat.le_add_right _ _
end Go.Eng
namespace Go.Proofs.YtgcmkdgpaibpeaaGreat
open Go.Proofs.Tryz
open Go Go.Eng
open Go.Tw (El)
def fG (l:List (Nat→C))(i j:Nat):C:=l.getD i (fun _=>.any) j
def GC (l:List (Nat→C)):C:=.rows 4 l.length (fG l)
theorem OH (p q:List (Nat→C)):∀(i j:Nat),i<p.length+q.length→j<4→(if i<p.length then fG p i j else fG q (i-p.length) j)=fG (p++q) i j:=by
 intro i j _ _;unfold fG
 by_cases h:i<p.length
 ·rw[if_pos h,X7,X7,List.getElem?_append_left h]
 rw[if_neg h,X7,X7,List.getElem?_append_right (by omega)]
theorem xq (ps:List (List (Nat→C)))(hl:ps.flatten.length<2^38)(hk:ps.length<2^38):Fr prog 226 [.one (.rows 1 ps.length (fun i _=>GC (ps.getD i default)))] (.rows 62 4 (ps.flatten).length (fG (ps.flatten))):=by
 refine fw func226 ⟨[0,2,3,5,6,8,9,10,11,12,20,25,26,27,28],[]⟩ ?_;simp only[Tryz.f226,ntmps226,iz,seval];simp only[vx,T,seval];refine Lk (fun y:{i:Nat//i≤ps.length}=>⟨[(0,.one (.rows 1 ps.length (fun i _=>GC (ps.getD i default)))),(3,.one (.int .i64 (ps.take y.1).flatten.length)),(9,.one (.rows 1 ps.length (fun i _=>GC (ps.getD i default)))),(10,.one (.int .i64 ps.length)),(11,.one (.int .i64 y.1))],[],1,36⟩) (fun y=>ps.length-y.1) ⟨0,Nat.zero_le _⟩ ?_ (fun⟨i,hi⟩=>?_)
 ·refine Sa ?_;simp only[ry,seval,rz]
 have h0:=jM ps i;have i1:=wI i (by omega);simp only[vx,T,seval];refine⟨fun h1=>Lg ?_,fun h1=>Lg ?_⟩
 ·have hs:=nJ (ps:=ps) (i:=i) (by omega);have h2:=jM ps (i+1);have hsl:(ps.take (i+1)).flatten.length=(ps.take i).flatten.length+(ps.getD i default).length:=by rw[hs,X6]
  obtain⟨a,ha⟩:∃a,a=ps.getD i default:=⟨_,rfl⟩;rw[←ha]at hsl;have w1:IntKind.i64.wrap (((ps.take i).flatten.length:Int)+a.length)=((ps.take (i+1)).flatten.length:Int):=by rw[IntWalk.i64_in _ (by omega)];omega
  simp only[vx,T,seval,GC,←ha];simp only[w1];refine⟨by omega,fun h=>absurd h (by omega),fun _=>Lg ?_⟩;simp only[vx,T,seval,GC,←ha];simp only[i1];refine Lq ⟨i+1,by omega⟩ ?_ ?_
  ·refine Sa ?_;simp only[ry,seval,rz]
  simp only;omega
 have hip:i=ps.length:=by omega
 subst hip;rw[List.take_length];simp only[vx,T,seval];refine cF.fresh (AR ps.flatten.length (by omega)) ?_;simp only[vx,T,seval];refine Lk (fun y:{i:Nat//i≤ps.length}=>⟨[(0,.one (.rows 1 ps.length (fun i _=>GC (ps.getD i default)))),(6,.one (.own 1 4 0 (ps.take y.1).flatten.length)),(25,.one (.rows 1 ps.length (fun i _=>GC (ps.getD i default)))),(26,.one (.int .i64 ps.length)),(27,.one (.int .i64 y.1))],[(1,⟨(.rows 62 4 ((ps.take y.1).flatten).length (fG ((ps.take y.1).flatten))),true⟩)],2,36⟩) (fun y=>ps.length-y.1) ⟨0,Nat.zero_le _⟩ ?_ (fun⟨i,hi⟩=>?_)
 ·refine Sa ?_;simp only[ry,seval,rz];exact fun i j h=>absurd h (by omega)
 have h0:=jM ps i;have i1:=wI i (by omega);simp only[vx,T,seval];refine⟨fun h1=>Lg ?_,fun h1=>Lg ?_⟩
 ·have hs:=nJ (ps:=ps) (i:=i) (by omega);have h2:=jM ps (i+1);have hsl:(ps.take (i+1)).flatten.length=(ps.take i).flatten.length+(ps.getD i default).length:=by rw[hs,X6]
  obtain⟨a,ha⟩:∃a,a=ps.getD i default:=⟨_,rfl⟩;rw[←ha]at hsl hs;simp only[vx,T,seval,GC,←ha];simp only[i1];refine⟨by omega,by rw[←X6,←hs];omega,Lq ⟨i+1,by omega⟩ ?_ ?_⟩
  ·refine Sa ?_;simp only[ry,seval,rz,hs];exact⟨by simp,by simp,OH _ _⟩
  simp only;omega
 have hip:i=ps.length:=by omega
 subst hip;rw[List.take_length];simp only[vx,T,seval];exact⟨rfl,rfl,fun _ _ _ _=>rfl⟩
theorem yc (l:El):dr (aa l) (GC (l.map qC)):=dr.rows (List.length_map _).symm fun i j hi _=>.of_eq (by
 unfold fG;rw[X7,X7,List.getElem?_map,X8 hi];rfl)
theorem Hi (l:El):dr (GC (l.map qC)) (aa l):=dr.rows (List.length_map _) fun i j hi _=>.of_eq (by
 have hi:i<l.length:=by rw[List.length_map]at hi;exact hi
 unfold fG;rw[X7,X7,List.getElem?_map,X8 hi];rfl)
theorem Da {x y:C}{p q:List (Nat→C)}(hx:dr x (GC p))(hy:dr y (GC q))(hl:p.length+q.length<2^38):
  Pr prog 226 [.one (.rows 1 2 (fun i j=>[x,y].getD (i*1+j) .any))] (.one (GC (p++q))):=by
 have c:=(xq [p,q] (by simpa using hl) (by simp)).rows;have e:[p,q].flatten=p++q:=by simp
 rw[e]at c;refine c.args ⟨.cell (.rows rfl fun i j hi hj=>?_),trivial⟩;obtain rfl:j=0:=by omega
 match i,hi with
 |0,_=>exact hx
 |1,_=>exact hy
theorem OZ (a b:El)(hl:a.length+b.length<2^38):Pr prog 226 [.one (.rows 1 2 (fun i j=>[aa a,aa b].getD (i*1+j) .any))] (eV (a++b)):=by
 have c:=Da (yc a) (yc b) (by simpa using hl);rw[←List.map_append]at c;exact c.res (fP.cell (Hi _))
end Go.Proofs.YtgcmkdgpaibpeaaGreat
/-
  SQUARE ROOTS IN TOWERS: the steps from a floor to the next.
-/
namespace Go.R
open Go.Re
theorem nu (x:R):x*q (mkRat 1 2)+x*q (mkRat 1 2)=x:=by
 induction x using ind with|h x=>
 exact pt fun n=>by
  simp only[Sq.add,Sq.mul,Sq.const]
  have:(mkRat 1 2:Rat)+mkRat 1 2=1:=by decide+kernel
  grind
theorem MJ (p g r:R):p*p+g*g*r+(p*p+ -(g*g*r))=p*p+p*p:=by
 induction p using ind with|h p=>induction g using ind with|h g=>induction r using ind with|h r=>
 exact pt fun n=>by simp only[Sq.add,Sq.mul,Sq.neg];grind
end Go.R
namespace Go.Tw
open Go Go.R
section
variable {h:Nat}{t:List El}{a:El}
def nW (h:Nat)(t:List El)(x:R):Prop:=∀z,In h t z→z*z≠x
theorem r9 (hv:a.drop (2^h)=zE (2^h)):val (h+1) t a=val h t (a.take (2^h)):=by
 rw[val,hv,val_zero,zero_mul,add_zero]
theorem yR (hv:a.drop (2^h)=zE (2^h)){w:El}(hw:w.length=2^h)(e:val h t w*val h t w=val h t (a.take (2^h))):
  (w++zE (2^h)).length=2^(h+1)∧val (h+1) t (w++zE (2^h))*val (h+1) t (w++zE (2^h))=val (h+1) t a:=by
 refine⟨by rw[X6,hw,au,Nat.pow_succ];omega,?_⟩;rw[kV hw,r9 hv,e]
theorem yZ (H:Rl (h+1) t)(ha:a.length=2^(h+1))(hv:a.drop (2^h)=zE (2^h)){i:El}(hi:cA h t (t.getD h [])=some i){w:El}(hw:w.length=2^h)(e:val h t w*val h t w=val h t (ai h t (a.take (2^h)) i)):
  (zE (2^h)++w).length=2^(h+1)∧val (h+1) t (zE (2^h)++w)*val (h+1) t (zE (2^h)++w)=val (h+1) t a:=by
 have H':=H.le (Nat.le_succ h);obtain⟨hl,hm⟩:=dc H' (H h (by omega)).1 hi;refine⟨by rw[X6,hw,au,Nat.pow_succ];omega,?_⟩;rw[val_mul H' (ah ha) hl]at e;rw[gn au,val_zero,zero_add,r9 hv,jT,H.root,e,mul_assoc,mul_comm (val h t i),hm,mul_one]
theorem yQ (D:Rd (h+1) t)(ha:a.length=2^(h+1))(hv:a.drop (2^h)=zE (2^h)){i:El}(hi:cA h t (t.getD h [])=some i)
  (n1:nW h t (val h t (a.take (2^h)))) (n2:nW h t (val h t (ai h t (a.take (2^h)) i))):nW (h+1) t (val (h+1) t a):=by
 have H':=D.rl.le (Nat.le_succ h);obtain⟨hl,hm⟩:=dc H' (D.rl h (by omega)).1 hi;intro z hz e;rw[r9 hv]at e
 rcases M8 D (.of (ah ha)) hz e with⟨k1,k2⟩|⟨g,k1,_,k3⟩
 ·exact n1 z k1 k2
 refine n2 g k1 ?_;rw[val_mul H' (ah ha) hl,←k3,mul_assoc,hm,mul_one]
theorem wG (D:Rd (h+1) t)(ha:a.length=2^(h+1))(hv:a.drop (2^h)≠zE (2^h))(n1:nW h t (val h t (aO h t a))):nW (h+1) t (val (h+1) t a):=by
 have D':=D.le (Nat.le_succ h);have h0:val h t (a.drop (2^h))≠q 0:=fun e=>hv (mG D' (ag ha) e);intro z hz e;obtain⟨p,g,hp,hg,_,_,_,_,k⟩:=Dh D (.of (ah ha)) (.of (ag ha)) h0 hz e;refine n1 _ ((In.mul D'.rl hp hp).add (In.mul D'.rl (In.mul D'.rl hg hg) (.of (D.rl h (by omega)).1)).neg) ?_;rw[k,fh D.rl ha,D.rl.root]
theorem wL (D:Rd (h+1) t)(ha:a.length=2^(h+1))(hv:a.drop (2^h)≠zE (2^h)){m:El}(hm:m.length=2^h)(em:val h t m*val h t m=val h t (aO h t a)){w:El}
  (ew:val h t w*val h t w=val h t (ai h t (aC (a.take (2^h)) m) (aX h (mkRat 1 2)))):val h t w≠q 0:=by
 have D':=D.le (Nat.le_succ h);intro e;rw[e,mul_zero,val_mul D'.rl (ao (ah ha) hm) aG,cG,val_add (ah ha) hm]at ew;have k:=nu (val h t (a.take (2^h))+val h t m);rw[←ew,add_zero]at k;have k2:val h t m= -val h t (a.take (2^h)):=nw (by rw[add_comm];exact k.symm);rw[k2,neg_mul,mul_neg,neg_neg,fh D.rl ha,D.rl.root]at em;have k3: -(val h t (a.drop (2^h))*val h t (a.drop (2^h))*val h t (t.getD h []))=q 0:=by
  have k4:q 0+val h t (a.take (2^h))*val h t (a.take (2^h))= -(val h t (a.drop (2^h))*val h t (a.drop (2^h))*val h t (t.getD h []))+val h t (a.take (2^h))*val h t (a.take (2^h)):=by
   rw[zero_add,add_comm];exact em
  exact(BU k4).symm
 have k5:=congrArg (- ·) k3;simp only[neg_neg,iB]at k5
 rcases gR k5 with k5|k5
 ·exact hv (mG D' (ag ha) (Ps k5))
 exact kY (D.rl h (by omega)).2 k5
theorem wg (D:Rd (h+1) t)(ha:a.length=2^(h+1))(hv:a.drop (2^h)≠zE (2^h)){m:El}(hm:m.length=2^h)(em:val h t m*val h t m=val h t (aO h t a)){w:El}(hw:w.length=2^h)
  (ew:val h t w*val h t w=val h t (ai h t (aC (a.take (2^h)) m) (aX h (mkRat 1 2)))) {g:El} (hg:g.length=2^h) (eg:val h t w*val h t g+val h t w*val h t g=val h t (a.drop (2^h))):
  (w++g).length=2^(h+1)∧val (h+1) t (w++g)*val (h+1) t (w++g)=val (h+1) t a:=by
 have D':=D.le (Nat.le_succ h);have h0:=wL D ha hv hm em ew;rw[val_mul D'.rl (ao (ah ha) hm) aG,cG,val_add (ah ha) hm]at ew;rw[fh D.rl ha,D.rl.root]at em;refine⟨by rw[X6,hw,hg,Nat.pow_succ];omega,?_⟩;rw[gn hw,val];exact I5 D.rl.root em (by rw[ew,nu]) h0 eg
theorem vD (D:Rd (h+1) t)(ha:a.length=2^(h+1))(hv:a.drop (2^h)≠zE (2^h)){n:El}(hn:n.length=2^h)(en:val h t n*val h t n=val h t (aO h t a))
  (n1:nW h t (val h t (ai h t (aC (a.take (2^h)) n) (aX h (mkRat 1 2))))) (n2:nW h t (val h t (ai h t (aC (a.take (2^h)) (aJ n)) (aX h (mkRat 1 2))))):nW (h+1) t (val (h+1) t a):=by
 have D':=D.le (Nat.le_succ h);have h0:val h t (a.drop (2^h))≠q 0:=fun e=>hv (mG D' (ag ha) e);have ln:(aJ n).length=2^h:=by rw[ar,hn]
 intro z hz e;obtain⟨p,g,hp,hg,_,_,_,k1,k⟩:=Dh D (.of (ah ha)) (.of (ag ha)) h0 hz e;rw[val_mul D'.rl (ao (ah ha) hn) aG,cG,val_add (ah ha) hn]at n1;rw[val_mul D'.rl (ao (ah ha) ln) aG,cG,val_add (ah ha) ln,val_neg hn]at n2;have e2:val h t n*val h t n=(p*p+ -(g*g*val h t (t.getD h [])))*(p*p+ -(g*g*val h t (t.getD h []))):=by
  rw[en,k,fh D.rl ha,D.rl.root]
 have key:val h t (a.take (2^h))+(p*p+ -(g*g*val h t (t.getD h [])))=p*p+p*p:=by
  rw[←k1,MJ]
 have key2:(p*p+p*p)*q (mkRat 1 2)=p*p:=by rw[add_mul,nu]
 rcases Du e2 with e3|e3
 ·exact n1 p hp (by rw[e3,key,key2])
 exact n2 p hp (by rw[e3,neg_neg,key,key2])
end
end Go.Tw
namespace Go.Proofs.YtgcmkdgpaibpeaaGreat
open Go.Proofs.Tryz
open Go Go.Eng
open Go.Tw (El aC aJ zE ai au ar ao ae QB mS ah ag aO aI tB aX aG cA lS kM gT val In)
def Kx (h:Nat)(t:List El)(a:El)(f:FuncId):Prop:=
 (∃b,b.length=2^h∧val h t b*val h t b=val h t a∧Pr prog f [tV h t,eV a] (.aA [eV b,.one (.bool true)]))∨
 (Go.Tw.nW h t (val h t a)∧∃l:List (Nat→C),l.length≤2^h∧Pr prog f [tV h t,eV a] (.aA [.one (GC l),.one (.bool false)]))
theorem xO {t:List El}{x r:Rat}(hx:qm x<2^38)(h:zZ x=some r):Pr prog 216 [tV 0 t,eV [x]] (.aA [eV [r],.one (.bool true)]):=by
 have c:=BL hx h;refine pw func216 ⟨[0,1,4,5,6,7,8,9,10,11,12,13,14,15,16,17,18,19,21,22,23,24,28,61,68,82,108,117,118,119,120,136],[(4,.nil),(5,.nil)]⟩ ?_;simp only[Tryz.f216,ntmps216,iz,seval];simp only[vx,T,seval,QV,QC,tV,tC,eV,aa,qC,X0];refine Cg c ?_;simp only[vx,T,seval,QV,QC,tV,tC,eV,aa,qC,X0];refine fP.aA ⟨.cell (.rows rfl fun i j hi _=>.of_eq ?_),.refl _,trivial⟩;obtain rfl:i=0:=by omega
 rw[Nat.zero_mul,Nat.zero_add];exact dA r rfl j
theorem yb {t:List El}{x:Rat}(hx:qm x<2^38)(h:zZ x=none):Pr prog 216 [tV 0 t,eV [x]] (.aA [.one zR,.one (.bool false)]):=by
 have c:=AF hx h;refine pw func216 ⟨[0,1,4,5,6,7,8,9,10,11,12,13,14,15,16,17,18,19,21,22,23,24,28,61,68,82,108,117,118,119,120,136],[(4,.nil),(5,.nil)]⟩ ?_;simp only[Tryz.f216,ntmps216,iz,seval];simp only[vx,T,seval,QV,QC,tV,tC,eV,aa,qC,X0];refine Cg c ?_;simp only[vx,T,seval,QV,QC,tV,tC,eV,aa,qC,X0];exact Ve rfl
theorem JY {t:List El}{a:El}(ha:a.length=2^0)(hq:Qk a):Kx 0 t a 216:=by
 obtain⟨x,rfl⟩:=Go.Tw.bB ha;have hx:qm x<2^38:=hq x (by simp)
 cases h:zZ x with
 |some r=>
  refine .inl ⟨[r],rfl,?_,xO hx h⟩;show R.q r*R.q r=R.q x;rw[←R.dT,(pE h).1]
 |none=>
  refine .inr ⟨?_,[fun j=>[C.bool false,.nil,.bool false,.nil].getD j .any],Nat.le_refl _,(yb hx h).res (fP.aA ⟨.cell (.rows rfl fun i j hi _=>.of_eq ?_),.refl _,trivial⟩)⟩
  rotate_left
  ·obtain rfl:i=0:=by omega
   rw[Nat.zero_mul,Nat.zero_add];rfl
  rintro z ⟨b,hb,rfl⟩ e;obtain⟨y,rfl⟩:=Go.Tw.bB hb;have e:R.q y*R.q y=R.q x:=e;rw[←R.dT]at e;exact Ai h y (R.ku e)
open Go Go.Eng
open Go.Tw (El aC aJ zE ai au ar ao ae QB mS ah ag aO aI tB aX aG cA lS kM gT val In)
theorem Bg {h:Nat}:aX h (Rat.ofInt 0)=zE (2^h):=by
 have:=Nat.two_pow_pos h
 show(0:Rat)::List.replicate (2^h-1) 0=List.replicate (2^h) 0
 rw[←List.replicate_succ];congr 1;omega
theorem LO {f:FuncId}{r:V}{h n:Nat}{t:List El}{a:El}(c:Pr prog f [tV h t,eV (a.take n)] r)(hn:n≤a.length):Pr prog f [tV h t,.one (.rows 4 n (fun i=>qC (a.getD i default)))] r:=
 c.args ⟨.refl _,.cell (fk hn),trivial⟩
theorem Es {X h:Nat}(hX:X≤2^30){t:List El}{a w:El}(W:TQ (h+1) t)(ha:a.length=2^(h+1))(hq:QB X a)(hv:a.drop (2^h)=zE (2^h))(hw:w.length=2^h)
  (c:Pr prog 216 [tV h t,eV (a.take (2^h))] (.aA [eV w,.one (.bool true)])):
  Pr prog 216 [tV (h+1) t,eV a] (.aA [eV (w++zE (2^h)),.one (.bool true)]):=by
 have W':=W.le (Nat.le_succ h);have h3:=W.h3;have hp:2^h≤8:=Nat.pow_le_pow_right (n:=2) (by decide) (show h≤3 by omega);have z:=dj (a.drop (2^h)) (by rw[ag ha];omega) (.of (hq.drop _) (by omega));rw[decide_eq_true (by rw[ag ha];exact hv)]at z;have i0:=cP 0 (by decide) (by decide);have f:=eA W'.tk (Rat.ofInt 0) (by decide+kernel);rw[Bg]at f;have k:=OZ w (zE (2^h)) (by rw[hw,au];omega);have hn:(2^h:Nat)≤a.length:=by rw[ha,Nat.pow_succ];omega
 have z:=z.args (xs:=[.one (.rows 4 (a.length-2^h) (fun i=>qC (a.getD (2^h+i) default)))]) ⟨.cell eQ,trivial⟩;have c:=LO c hn;obtain⟨n,hnn⟩:∃n,n=2^h:=⟨_,rfl⟩;have ha2:a.length=2*n:=by rw[ha,Nat.pow_succ,hnn];omega
 have w1:IntKind.i64.wrap (((h+1:Nat):Int)-1)=(h:Int):=by rw[IntWalk.i64_in _ (by omega)];omega
 have w2:IntKind.i64.wrap (((a.length:Nat):Int).tdiv 2)=(n:Int):=by
  rw[ha2,Int.tdiv_eq_ediv_of_nonneg (by omega),IntWalk.i64_in _ (by omega)];omega
 have w4:((a.length:Int)-(n:Int)).toNat=a.length-n:=by omega
 rw[←hnn]at z f c k hp⊢;refine pw func216 ⟨[0,1,4,5,6,7,8,9,10,11,12,13,14,15,16,17,18,19,21,22,23,24,28,61,68,82,108,117,118,119,120,136],[(4,.nil),(5,.nil)]⟩ ?_;simp only[Tryz.f216,ntmps216,iz,seval];simp only[vx,T,seval,tV,tC,eV,aa,QV,QC,w1,w2,w4];refine⟨fun h=>absurd h (by omega),fun _=>Lg ?_⟩;simp only[vx,T,seval,tV,tC,eV,aa,QV,QC,w1,w2,w4];refine⟨⟨by omega,by omega⟩,⟨by omega,by omega⟩,⟨by omega,by omega⟩,⟨by omega,by omega,by omega⟩,Cg z ?_⟩;simp only[vx,T,seval,tV,tC,eV,aa,QV,QC,w1,w2,w4];refine Cg c ?_;simp only[vx,T,seval,tV,tC,eV,aa,QV,QC,w1,w2,w4];refine Cg i0 ?_;simp only[vx,T,seval,tV,tC,eV,aa,QV,QC,w1,w2,w4];refine Cg f ?_;simp only[vx,T,seval,tV,tC,eV,aa,QV,QC,w1,w2,w4];refine Cg k ?_;simp only[vx,T,seval,tV,tC,eV,aa,QV,QC,w1,w2,w4];exact Ve rfl
theorem wx {X h:Nat}(hX:X≤2^30){t:List El}{a i:El}(W:TQ (h+1) t)(ha:a.length=2^(h+1))(hq:QB X a)(hv:a.drop (2^h)=zE (2^h)){p l:List (Nat→C)}{b:Bool}(hpl:p.length≤2^h)(hX1:1≤X)
  (c:Pr prog 216 [tV h t,eV (a.take (2^h))] (.aA [.one (GC l),.one (.bool false)])) (hr:lS X h t (t.getD h [])) (hi:cA h t (t.getD h [])=some i) (qi:QB X i)
  (c2:Pr prog 216 [tV h t,eV (ai h t (a.take (2^h)) i)] (.aA [.one (GC p),.one (.bool b)])):
  Pr prog 216 [tV (h+1) t,eV a] (.aA [.one (GC ((zE (2^h)).map qC++p)),.one (.bool b)]):=by
 have W':=W.le (Nat.le_succ h);have h3:=W.h3;have hp:2^h≤8:=Nat.pow_le_pow_right (n:=2) (by decide) (show h≤3 by omega);have z:=dj (a.drop (2^h)) (by rw[ag ha];omega) (.of (hq.drop _) (by omega));rw[decide_eq_true (by rw[ag ha];exact hv)]at z;have i0:=cP 0 (by decide) (by decide);have f:=eA W'.tk (Rat.ofInt 0) (by decide+kernel);rw[Bg]at f;have k:=Da (yc (zE (2^h))) (dr.refl (GC p)) (by rw[List.length_map,au];omega);have lr:=W.tk.len h (by omega);have iv:=qY hX1 hX W' lr hr hi;have m:=Hn W' (ah ha) (Go.Proofs.YtgcmkdgpaibpeaaGreat.ji hi) hX1 hX1 (by omega) (hq.take _) qi;have hn:(2^h:Nat)≤a.length:=by rw[ha,Nat.pow_succ];omega
 have z:=z.args (xs:=[.one (.rows 4 (a.length-2^h) (fun i=>qC (a.getD (2^h+i) default)))]) ⟨.cell eQ,trivial⟩;have c:=LO c hn;have m:=m.args (xs:=[tV h t,.one (.rows 4 (2^h) (fun i=>qC (a.getD i default))),eV i]) ⟨.refl _,.cell (fk hn),.refl _,trivial⟩;obtain⟨n,hnn⟩:∃n,n=2^h:=⟨_,rfl⟩;have ha2:a.length=2*n:=by rw[ha,Nat.pow_succ,hnn];omega
 have w1:IntKind.i64.wrap (((h+1:Nat):Int)-1)=(h:Int):=by rw[IntWalk.i64_in _ (by omega)];omega
 have w2:IntKind.i64.wrap (((a.length:Nat):Int).tdiv 2)=(n:Int):=by
  rw[ha2,Int.tdiv_eq_ediv_of_nonneg (by omega),IntWalk.i64_in _ (by omega)];omega
 have w4:((a.length:Int)-(n:Int)).toNat=a.length-n:=by omega
 obtain⟨r,hrr⟩:∃r,r=t.getD h []:=⟨_,rfl⟩;rw[←hrr]at iv;obtain⟨y,hy⟩:∃y,y=ai h t (a.take (2^h)) i:=⟨_,rfl⟩;rw[←hy]at m c2;rw[←hnn]at z f c k m hp⊢;refine pw func216 ⟨[0,1,4,5,6,7,8,9,10,11,12,13,14,15,16,17,18,19,21,22,23,24,28,61,68,82,108,117,118,119,120,136],[(4,.nil),(5,.nil)]⟩ ?_;simp only[Tryz.f216,ntmps216,iz,seval];simp only[vx,T,seval,tV,tC,eV,aa,QV,QC,w1,w2,w4,←hrr,GC];refine⟨fun h=>absurd h (by omega),fun _=>Lg ?_⟩;simp only[vx,T,seval,tV,tC,eV,aa,QV,QC,w1,w2,w4,←hrr,GC];refine⟨⟨by omega,by omega⟩,⟨by omega,by omega⟩,⟨by omega,by omega⟩,⟨by omega,by omega,by omega⟩,Cg z ?_⟩;simp only[vx,T,seval,tV,tC,eV,aa,QV,QC,w1,w2,w4,←hrr,GC];refine Cg c ?_;simp only[vx,T,seval,tV,tC,eV,aa,QV,QC,w1,w2,w4,←hrr,GC];refine Cg iv ?_;simp only[vx,T,seval,tV,tC,eV,aa,QV,QC,w1,w2,w4,←hrr,GC];refine Cg m ?_;simp only[vx,T,seval,tV,tC,eV,aa,QV,QC,w1,w2,w4,←hrr,GC];refine Cg c2 ?_;simp only[vx,T,seval,tV,tC,eV,aa,QV,QC,w1,w2,w4,←hrr,GC];refine Cg i0 ?_;simp only[vx,T,seval,tV,tC,eV,aa,QV,QC,w1,w2,w4,←hrr,GC];refine Cg f ?_;simp only[vx,T,seval,tV,tC,eV,aa,QV,QC,w1,w2,w4,←hrr,GC];refine Cg k ?_;simp only[vx,T,seval,tV,tC,eV,aa,QV,QC,w1,w2,w4,←hrr,GC];exact Ve rfl
theorem EL {X h:Nat}(hX:X≤2^30){t:List El}{a:El}(W:TQ (h+1) t)(ha:a.length=2^(h+1))(hq:QB X a)(hv:a.drop (2^h)≠zE (2^h)){l:List (Nat→C)}(hX1:1≤X)
  (c:Pr prog 216 [tV h t,eV (aO h t a)] (.aA [.one (GC l),.one (.bool false)])):
  Pr prog 216 [tV (h+1) t,eV a] (.aA [.one .nil,.one (.bool false)]):=by
 have W':=W.le (Nat.le_succ h);have h3:=W.h3;have hp:2^h≤8:=Nat.pow_le_pow_right (n:=2) (by decide) (show h≤3 by omega);have z:=dj (a.drop (2^h)) (by rw[ag ha];omega) (.of (hq.drop _) (by omega));rw[decide_eq_false (by rw[ag ha];exact hv)]at z;have cn:=sY W a ha hX1 hX hq;have hn:(2^h:Nat)≤a.length:=by rw[ha,Nat.pow_succ];omega
 have z:=z.args (xs:=[.one (.rows 4 (a.length-2^h) (fun i=>qC (a.getD (2^h+i) default)))]) ⟨.cell eQ,trivial⟩;obtain⟨n,hnn⟩:∃n,n=2^h:=⟨_,rfl⟩;have ha2:a.length=2*n:=by rw[ha,Nat.pow_succ,hnn];omega
 have w1:IntKind.i64.wrap (((h+1:Nat):Int)-1)=(h:Int):=by rw[IntWalk.i64_in _ (by omega)];omega
 have w2:IntKind.i64.wrap (((a.length:Nat):Int).tdiv 2)=(n:Int):=by
  rw[ha2,Int.tdiv_eq_ediv_of_nonneg (by omega),IntWalk.i64_in _ (by omega)];omega
 have w4:((a.length:Int)-(n:Int)).toNat=a.length-n:=by omega
 rw[←hnn]at z;refine pw func216 ⟨[0,1,4,5,6,7,8,9,10,11,12,13,14,15,16,17,18,19,21,22,23,24,28,61,68,82,108,117,118,119,120,136],[(4,.nil),(5,.nil)]⟩ ?_;simp only[Tryz.f216,ntmps216,iz,seval];simp only[vx,T,seval,tV,tC,eV,aa,QV,QC,w1,w2,w4,GC];refine⟨fun h=>absurd h (by omega),fun _=>Lg ?_⟩;simp only[vx,T,seval,tV,tC,eV,aa,QV,QC,w1,w2,w4,GC];refine⟨⟨by omega,by omega⟩,⟨by omega,by omega⟩,⟨by omega,by omega⟩,⟨by omega,by omega,by omega⟩,Cg z ?_⟩;simp only[vx,T,seval,tV,tC,eV,aa,QV,QC,w1,w2,w4,GC];refine Cg cn ?_;simp only[vx,T,seval,tV,tC,eV,aa,QV,QC,w1,w2,w4,GC];refine Cg c ?_;simp only[vx,T,seval,tV,tC,eV,aa,QV,QC,w1,w2,w4,GC];exact Ve rfl
def uR (u n:El)(j:Nat):El:=[aC u n,aC u (aJ n)].getD j []
theorem rk {X h:Nat}(hX:X≤2^30){t:List El}{a m w i:El}(W:TQ (h+1) t)(ha:a.length=2^(h+1))(hq:QB X a)(hv:a.drop (2^h)≠zE (2^h))(hX1:1≤X){k:Nat}{r:V}(hk:k≤2)
  (c:Pr prog 216 [tV h t,eV (aO h t a)] (.aA [eV m,.one (.bool true)])) (hm:m.length=2^h) (qm:QB X m) (qx:∀j,j<2→QB X (uR (a.take (2^h)) m j))
  (no:∀j,j<k→∃l:List (Nat→C),Pr prog 216 [tV h t,eV (ai h t (uR (a.take (2^h)) m j) (aX h (mkRat 1 2)))] (.aA [.one (GC l),.one (.bool false)]))
  (yes:k<2→r= .aA [eV (w++ai h t (a.drop (2^h)) i),.one (.bool true)]∧w.length=2^h∧w≠zE (2^h)∧QB X w∧lS X h t (aC w w)∧cA h t (aC w w)=some i∧QB X i∧
   Pr prog 216 [tV h t,eV (ai h t (uR (a.take (2^h)) m k) (aX h (mkRat 1 2)))] (.aA [eV w,.one (.bool true)]))
  (end':k=2→r= .aA [.one .nil,.one (.bool false)]):
  Pr prog 216 [tV (h+1) t,eV a] r:=by
 have W':=W.le (Nat.le_succ h);have h3:=W.h3;have hp:2^h≤8:=Nat.pow_le_pow_right (n:=2) (by decide) (show h≤3 by omega);have z:=dj (a.drop (2^h)) (by rw[ag ha];omega) (.of (hq.drop _) (by omega));rw[decide_eq_false (by rw[ag ha];exact hv)]at z;have cn:=sY W a ha hX1 hX hq;have lu:=ah ha;have sa:=kD W'.tk (a.take (2^h)) m lu hm (.of (hq.take _) (by omega)) (.of qm (by omega));have sb:=rm W'.tk (a.take (2^h)) m lu hm (.of (hq.take _) (by omega)) (.of qm (by omega));have lx:∀j,j<2→(uR (a.take (2^h)) m j).length=2^h:=fun j hj=>by
  match j,hj with
  |0,_=>exact ao lu hm
  |1,_=>exact ao lu (by rw[ar,hm])
 have hf:∀j,j<2→Pr prog 228 [tV h t,eV (uR (a.take (2^h)) m j)] (eV (ai h t (uR (a.take (2^h)) m j) (aX h (mkRat 1 2)))):=fun j hj=>BE hX1 (by omega) W' (lx j hj) (qx j hj);have hn:(2^h:Nat)≤a.length:=by rw[ha,Nat.pow_succ];omega
 have z:=z.args (xs:=[.one (.rows 4 (a.length-2^h) (fun i=>qC (a.getD (2^h+i) default)))]) ⟨.cell eQ,trivial⟩;have sa:=sa.args (xs:=[tV h t,.one (.rows 4 (2^h) (fun i=>qC (a.getD i default))),eV m]) ⟨.refl _,.cell (fk hn),.refl _,trivial⟩;have sb:=sb.args (xs:=[tV h t,.one (.rows 4 (2^h) (fun i=>qC (a.getD i default))),eV m]) ⟨.refl _,.cell (fk hn),.refl _,trivial⟩;obtain⟨n,hnn⟩:∃n,n=2^h:=⟨_,rfl⟩;have ha2:a.length=2*n:=by rw[ha,Nat.pow_succ,hnn];omega
 have w1:IntKind.i64.wrap (((h+1:Nat):Int)-1)=(h:Int):=by rw[IntWalk.i64_in _ (by omega)];omega
 have w2:IntKind.i64.wrap (((a.length:Nat):Int).tdiv 2)=(n:Int):=by
  rw[ha2,Int.tdiv_eq_ediv_of_nonneg (by omega),IntWalk.i64_in _ (by omega)];omega
 have w4:((a.length:Int)-(n:Int)).toNat=a.length-n:=by omega
 obtain⟨u,hu⟩:∃u,u=a.take (2^h):=⟨_,rfl⟩;rw[←hu]at sa sb hf no yes lx qx;rw[←hnn]at z sa sb;refine pw func216 ⟨[0,1,4,5,6,7,8,9,10,11,12,13,14,15,16,17,18,19,21,22,23,24,28,61,68,82,108,117,118,119,120,136],[(4,.nil),(5,.nil)]⟩ ?_;simp only[Tryz.f216,ntmps216,iz,seval];simp only[vx,T,seval,tV,tC,eV,aa,QV,QC,w1,w2,w4,GC];refine⟨fun h=>absurd h (by omega),fun _=>Lg ?_⟩;simp only[vx,T,seval,tV,tC,eV,aa,QV,QC,w1,w2,w4,GC];refine⟨⟨by omega,by omega⟩,⟨by omega,by omega⟩,⟨by omega,by omega⟩,⟨by omega,by omega,by omega⟩,Cg z ?_⟩;simp only[vx,T,seval,tV,tC,eV,aa,QV,QC,w1,w2,w4,GC];refine Cg cn ?_;simp only[vx,T,seval,tV,tC,eV,aa,QV,QC,w1,w2,w4,GC];refine Cg c ?_;simp only[vx,T,seval,tV,tC,eV,aa,QV,QC,w1,w2,w4,GC];refine Cg sa ?_;simp only[vx,T,seval,tV,tC,eV,aa,QV,QC,w1,w2,w4,GC];refine Cg sb ?_;simp only[vx,T,seval,tV,tC,eV,aa,QV,QC,w1,w2,w4,GC];refine Lk (fun y:{j:Nat//j≤k}=>⟨[(4,.one .nil),(5,.one (.bool false)),(8,tV h t),(11,.one (.rows 4 (a.length-n) (fun i=>qC (a.getD (n+i) default)))),(117,.one (.own 1 1 0 2)),(118,.one (.int .i64 2)),(119,.one (.int .i64 y.1))],[(1,⟨.rows 50 1 2 (fun j _=>aa (uR u m j)),true⟩)],2,154⟩) (fun y=>k-y.1) ⟨0,Nat.zero_le _⟩ ?_ (fun⟨j,hj⟩=>?_)
 ·refine Sa ?_;simp only[ry,seval,rz,tV,tC,eV,aa,GC];refine fun i j hi hj=>?_;obtain rfl:j=0:=by omega
  match i,hi with
  |0,_=>rfl
  |1,_=>rfl
 simp only;have wi:IntKind.i64.wrap ((j:Int)+1)=((j+1:Nat):Int):=by rw[IntWalk.i64_in _ (by omega)];omega
 simp only[vx,T,seval,tV,tC,eV,aa,QV,QC,w1,w2,w4,GC];refine⟨fun g=>Lg ?_,fun g=>Lg ?_⟩
 ·have hfj:=hf j (by omega);have hnoj:=no j;obtain⟨x,hx⟩:∃x,x=uR u m j:=⟨_,rfl⟩;rw[←hx]at hfj hnoj;obtain⟨y,hy⟩:∃y,y=ai h t x (aX h (mkRat 1 2)):=⟨_,rfl⟩;rw[←hy]at hfj hnoj
  by_cases hjk:j<k
  ·obtain⟨l,hl⟩:=hnoj hjk;simp only[vx,T,seval,tV,tC,eV,aa,QV,QC,w1,w2,w4,wi,←hx,GC];refine⟨⟨by omega,by omega⟩,Cg hfj ?_⟩;simp only[vx,T,seval,tV,tC,eV,aa,QV,QC,w1,w2,w4,wi,←hx,GC];refine Cg hl ?_;simp only[vx,T,seval,tV,tC,eV,aa,QV,QC,w1,w2,w4,wi,←hx,GC];refine Lq ⟨j+1,by omega⟩ ?_ (by show k-(j+1)<k-j;omega);refine Sa ?_;simp only[ry,seval,rz,tV,tC,eV,aa,GC]
  obtain rfl:j=k:=by omega
  obtain⟨hr,hw,hw0,qw,iw,hi,qi,cw⟩:=yes (by omega);rw[←hx,←hy]at cw;rw[hr];have zw:=dj w (by omega) (.of qw (by omega));rw[decide_eq_false (by rw[hw];exact hw0)]at zw;have aw:=kD W'.tk w w hw hw (.of qw (by omega)) (.of qw (by omega));have iv:=qY hX1 hX W' (ao hw hw) iw hi;have mw:=Hn W' (ag ha) (Go.Proofs.YtgcmkdgpaibpeaaGreat.ji hi) hX1 hX1 (by omega) (hq.drop _) qi;have mw:=mw.args (xs:=[tV h t,.one (.rows 4 (a.length-2^h) (fun i=>qC (a.getD (2^h+i) default))),eV i]) ⟨.refl _,.cell eQ,.refl _,trivial⟩;have kw:=OZ w (ai h t (a.drop (2^h)) i) (by rw[hw,ae];omega);rw[←hnn]at mw kw⊢;simp only[vx,T,seval,tV,tC,eV,aa,QV,QC,w1,w2,w4,wi,←hx,GC];refine⟨⟨by omega,by omega⟩,Cg hfj ?_⟩;simp only[vx,T,seval,tV,tC,eV,aa,QV,QC,w1,w2,w4,wi,←hx,GC];refine Cg cw ?_;simp only[vx,T,seval,tV,tC,eV,aa,QV,QC,w1,w2,w4,wi,←hx,GC];refine Cg zw ?_;simp only[vx,T,seval,tV,tC,eV,aa,QV,QC,w1,w2,w4,wi,←hx,GC];refine Cg aw ?_;simp only[vx,T,seval,tV,tC,eV,aa,QV,QC,w1,w2,w4,wi,←hx,GC];refine Cg iv ?_;simp only[vx,T,seval,tV,tC,eV,aa,QV,QC,w1,w2,w4,wi,←hx,GC];refine Cg mw ?_;simp only[vx,T,seval,tV,tC,eV,aa,QV,QC,w1,w2,w4,wi,←hx,GC];refine Cg kw ?_;simp only[vx,T,seval,tV,tC,eV,aa,QV,QC,w1,w2,w4,wi,←hx,GC];exact Ve rfl
 have hk2:k=2:=by omega
 rw[end' hk2];simp only[vx,T,seval,tV,tC,eV,aa,QV,QC,w1,w2,w4,GC];exact Ve rfl
theorem yE {h:Nat}:Go.Tw.wE h=aX h (mkRat 1 2):=by
 unfold Go.Tw.wE;rw[show (2:Rat)⁻¹=mkRat 1 2 from by decide+kernel]
theorem PF {f:FuncId}{zs:List V}{w:El}{b:Bool}(c:Pr prog f zs (.aA [eV w,.one (.bool b)])):Pr prog f zs (.aA [.one (GC (w.map qC)),.one (.bool b)]):=
 c.res (fP.aA ⟨.cell (yc w),.refl _,trivial⟩)
theorem P1 {f:FuncId}{zs:List V}{w:El}{b:Bool}(c:Pr prog f zs (.aA [.one (GC (w.map qC)),.one (.bool b)])):Pr prog f zs (.aA [eV w,.one (.bool b)]):=
 c.res (fP.aA ⟨.cell (Hi w),.refl _,trivial⟩)
theorem EI {f:FuncId}{zs:List V}(c:Pr prog f zs (.aA [.one .nil,.one (.bool false)])):Pr prog f zs (.aA [.one (GC []),.one (.bool false)]):=
 c.res (fP.aA ⟨.cell (.pc _ _),.refl _,trivial⟩)
theorem l7 {X:Nat}(hX1:1≤X)(hX:X≤2^30){t:List El}:∀{h:Nat} {a:El},TQ h t→Go.Tw.Rd h t→a.length=2^h→kM X h t a→Kx h t a 216
 |0,a,_,_,ha,hs=>JY ha (.of hs.qb (by omega))
 |h+1,a,W,D,ha,hs=>by
  have W':=W.le (Nat.le_succ h);have D':=D.le (Nat.le_succ h);have ih:=fun{b:El} (hb:b.length=2^h) (k:kM X h t b)=>l7 hX1 hX (a:=b) W' D' hb k;have hq:=hs.qb;have lz:(zE (2^h)).length=2^h:=au;have eP:2^(h+1)=2^h+2^h:=by rw[Nat.pow_succ];omega
  obtain⟨_,s2,s3⟩:=hs
  by_cases hv:a.drop (2^h)=zE (2^h)
  ·obtain⟨g1,g2,g3⟩:=s2 hv
   rcases ih (ah ha) g1 with⟨w,lw,ew,cw⟩|⟨n1,l,hl,c⟩
   ·obtain⟨k1,k2⟩:=Go.Tw.yR hv lw ew;exact .inl ⟨_,k1,k2,Es hX W ha hq hv lw cw⟩
   obtain⟨i,hi,_,_⟩:=Go.Tw.jy D' (D.rl h (by omega)).1 (R.kY (D.rl h (by omega)).2);obtain⟨qi,sq⟩:=g3 i hi
   rcases ih ae sq with⟨w,lw,ew,cw⟩|⟨n2,p,hp,c2⟩
   ·obtain⟨k1,k2⟩:=Go.Tw.yZ D.rl ha hv hi lw ew;refine .inl ⟨_,k1,k2,P1 ?_⟩;rw[List.map_append];exact wx hX W ha hq hv (by rw[List.length_map,lw];exact Nat.le_refl _) hX1 c g2 hi qi (PF cw)
   refine .inr ⟨Go.Tw.yQ D ha hv hi n1 n2,_,?_,wx hX W ha hq hv hp hX1 c g2 hi qi c2⟩;rw[X6,List.length_map,lz];omega
  obtain⟨g1,g2⟩:=s3 hv
  rcases ih aI g1 with⟨n,ln,en,cn⟩|⟨n1,l,hl,c⟩
  ·have lm:(aJ n).length=2^h:=by rw[ar,ln]
   have em:val h t (aJ n)*val h t (aJ n)=val h t (aO h t a):=by rw[Go.Tw.val_neg ln,R.neg_mul,R.mul_neg,R.neg_neg,en]
   obtain⟨k1,k2,k3,k4⟩:=g2 n ln en;obtain⟨k1',k2',k3',k4'⟩:=g2 (aJ n) lm em;rw[yE]at k3 k4 k3' k4';have qx:∀j,j<2→QB X (uR (a.take (2^h)) n j):=fun j hj=>by
    match j,hj with
    |0,_=>exact k2
    |1,_=>exact k2'
   have fin:∀{m w:El},m.length=2^h→val h t m*val h t m=val h t (aO h t a)→w.length=2^h→val h t w*val h t w=val h t (ai h t (aC (a.take (2^h)) m) (aX h (mkRat 1 2)))→
     w≠zE (2^h)∧∃i,cA h t (aC w w)=some i∧(w++ai h t (a.drop (2^h)) i).length=2^(h+1)∧
      val (h+1) t (w++ai h t (a.drop (2^h)) i)*val (h+1) t (w++ai h t (a.drop (2^h)) i)=val (h+1) t a:=by
    intro m w lm em lw ew;have h0:=Go.Tw.wL D ha hv lm em ew;have h1:val h t (aC w w)≠R.q 0:=by
     rw[Go.Tw.val_add lw lw];exact fun e=>h0 (R.Ib e)
    obtain⟨i,hi,li,vi⟩:=Go.Tw.jy D' (ao lw lw) h1;refine⟨fun e=>h0 (by rw[e,Go.Tw.val_zero]),i,hi,Go.Tw.wg D ha hv lm em lw ew ae ?_⟩;rw[Go.Tw.val_add lw lw]at vi;rw[Go.Tw.val_mul D'.rl (ag ha) li,←R.add_mul,R.mul_comm (val h t (a.drop (2^h))),←R.mul_assoc,vi,R.one_mul]
   rcases ih ae k3 with⟨w,lw,ew,cw⟩|⟨n1,l1,_,c1⟩
   ·obtain⟨w0,i,hi,f1,f2⟩:=fin ln en lw ew;obtain⟨m1,_,m3,_,m5⟩:=k4 w lw ew;exact .inl ⟨_,f1,f2,rk hX W ha hq hv hX1 (k:=0) (by omega) cn ln k1 qx (fun j hj=>absurd hj (Nat.not_lt_zero _)) (fun _=>⟨rfl,lw,w0,m1,m3,hi,m5 i hi,cw⟩) (fun e=>absurd e (by decide))⟩
   have no1:∀j,j<1→∃l:List (Nat→C),Pr prog 216 [tV h t,eV (ai h t (uR (a.take (2^h)) n j) (aX h (mkRat 1 2)))] (.aA [.one (GC l),.one (.bool false)]):=fun j hj=>by
    obtain rfl:j=0:=by omega
    exact⟨l1,c1⟩
   rcases ih ae k3' with⟨w,lw,ew,cw⟩|⟨n2,l2,_,c2⟩
   ·obtain⟨w0,i,hi,f1,f2⟩:=fin lm em lw ew;obtain⟨m1,_,m3,_,m5⟩:=k4' w lw ew;exact .inl ⟨_,f1,f2,rk hX W ha hq hv hX1 (k:=1) (by omega) cn ln k1 qx no1 (fun _=>⟨rfl,lw,w0,m1,m3,hi,m5 i hi,cw⟩) (fun e=>absurd e (by decide))⟩
   refine .inr ⟨Go.Tw.vD D ha hv ln en n1 n2,[],Nat.zero_le _,EI (rk (w:=[]) (i:=[]) hX W ha hq hv hX1 (k:=2) (by omega) cn ln k1 qx (fun j hj=>?_) (fun e=>absurd e (by decide)) (fun _=>rfl))⟩
   match j,hj with
   |0,_=>exact⟨l1,c1⟩
   |1,_=>exact⟨l2,c2⟩
  exact .inr ⟨Go.Tw.wG D ha hv n1,[],Nat.zero_le _,EI (EL hX W ha hq hv hX1 c)⟩
end Go.Proofs.YtgcmkdgpaibpeaaGreat
/-
  EXTENSIONS OF TOWERS: a further radicand; the images of elements of another tower.
-/
namespace Go.Tw
open Go Go.R
theorem dy {T S:List El}{j:Nat}(h:j<T.length):(T++S).getD j []=T.getD j []:=by
 rw[X7,List.getElem?_append_left h,←X7]
theorem eN {T S:List El}{h:Nat}(hh:h≤T.length)(a:El):val h (T++S) a=val h T a:=val_congr (fun j hj=>dy (by omega)) a
theorem jP {T S:List El}{h:Nat}(hh:h≤T.length)(x:R):In h (T++S) x↔In h T x:=
 ⟨fun⟨a,ha,e⟩=>⟨a,ha,by rw[←e,eN hh]⟩,fun⟨a,ha,e⟩=>⟨a,ha,by rw[eN hh,e]⟩⟩
theorem gg {T:List El}{e:El}:(T++[e]).getD T.length []=e:=by
 rw[X7,List.getElem?_append_right (Nat.le_refl _),Nat.sub_self];rfl
theorem TG.snoc {A:List R}{T:List El}{e:El}(G:TG A T)(he:e.length=2^T.length)(hv:val T.length T e∈A)(hp:R.pos (val T.length T e))(hn:nW T.length T (val T.length T e)):TG A (T++[e]):=by
 have hl:(T++[e]).length=T.length+1:=by simp
 have key:∀i,i<T.length+1→i<T.length∨i=T.length:=fun i hi=>by omega
 refine⟨⟨fun i hi=>?_,fun i hi x hx=>?_⟩,fun j hj=>?_⟩
 ·rcases key i (by omega)with h|rfl
  ·rw[dy h,eN (Nat.le_of_lt h)];exact G.rd.rl i h
  rw[gg,eN (Nat.le_refl _)];exact⟨he,hp⟩
 ·rcases key i (by omega)with h|rfl
  ·rw[dy h,eN (Nat.le_of_lt h)];exact G.rd.ns i h x ((jP (Nat.le_of_lt h) x).1 hx)
  rw[gg,eN (Nat.le_refl _)];exact hn x ((jP (Nat.le_refl _) x).1 hx)
 rcases key j (by omega)with h|rfl
 ·rw[dy h,eN (Nat.le_of_lt h)];exact G.mem j h
 rw[gg,eN (Nat.le_refl _)];exact hv
def dK (h:Nat):El:=zE (2^h)++aX h 1
theorem kv {h:Nat}:(dK h).length=2^(h+1):=by unfold dK;rw[X6,au,aG,Nat.pow_succ];omega
theorem qy {T:List El}{e:El}:val (T.length+1) (T++[e]) (dK T.length)=R.sqrt (val T.length T e):=by
 unfold dK;rw[gn au,val_zero,cG,zero_add,one_mul,gg,eN (Nat.le_refl _)]
def cE (H:Nat)(a:El):El:=a++zE (2^H-a.length)
theorem Ba (m n:Nat):zE m++zE n=zE (m+n):=by unfold zE;rw[List.replicate_append_replicate]
theorem bC {H:Nat}{a:El}(h:a.length≤2^H):(cE H a).length=2^H:=by unfold cE;rw[X6,au];omega
theorem vt {H:Nat}{a:El}(h:a.length=2^H):cE H a=a:=by unfold cE;rw[h,Nat.sub_self];exact List.append_nil _
theorem EP {H:Nat}{a:El}(h:a.length≤2^H):cE (H+1) a=cE H a++zE (2^H):=by
 unfold cE;rw[List.append_assoc,Ba,Nat.pow_succ];congr 2;omega
theorem sr {T:List El}{m:Nat}{a:El}(ha:a.length=2^m):∀{H:Nat},m≤H→val H T (cE H a)=val m T a
 |0,h=>by
        obtain rfl:m=0:=by omega
        rw[vt ha]
 |H+1,h=>by
  by_cases e:m=H+1
  ·subst e;rw[vt ha]
  have hl:a.length≤2^H:=by rw[ha];exact Nat.pow_le_pow_right (by decide) (by omega)
  rw[EP hl,kV (bC hl),sr ha (by omega)]
theorem QB.pad {B H:Nat}{a:El}(h1:1≤B)(h:QB B a):QB B (cE H a):=h.app (QB.zero.mono h1)
def a8 (H:Nat)(T rs:List El):Nat→El→El
 |0,a=>aX H (a.getD 0 0)
 |k+1,a=>aC (a8 H T rs k (a.take (2^k))) (ai H T (a8 H T rs k (a.drop (2^k))) (cE H (rs.getD k [])))
theorem a5 {H:Nat}{T rs:List El}:∀{k:Nat} {a:El},(a8 H T rs k a).length=2^H
 |0,_=>aG
 |_+1,_=>ao a5 ae
theorem iY:∀{a:El} {n:Nat},a.length=n→aC a (zE n)=a
 |[],n,h=>by subst h;rfl
 |x::a,n,h=>by
  subst h
  show(x+0)::aC a (zE a.length)=x::a
  rw[iY rfl,Rat.add_zero]
theorem vm {H:Nat}{T rs:List El}:∀{k:Nat},a8 H T rs k (zE (2^k))=zE (2^H)
 |0=>by
  rw[a8];show aX H 0=_;unfold aX zE
  have:=Nat.two_pow_pos H
  rw[←List.replicate_succ];congr 1;omega
 |k+1=>by rw[a8,pD,py,vm,bF,iY au]
theorem yu {H:Nat}{T rs:List El}{k:Nat}{a:El}(hv:a.drop (2^k)=zE (2^k)):a8 H T rs (k+1) a=a8 H T rs k (a.take (2^k)):=by
 rw[a8,hv,vm,bF,iY a5]
structure Ext (A:List R) (u:List El) (k:Nat) (T rs:List El):Prop where
 tg:TG A T
 len:rs.length=k
 root:∀i,i<k→∃m,m≤T.length∧(rs.getD i []).length=2^m∧val m T (rs.getD i [])=R.sqrt (val i u (u.getD i []))
theorem kN {A:List R}{u T rs:List El}{K:Nat}(E:Ext A u K T rs):∀{k:Nat} {a:El},k≤K→a.length=2^k→val T.length T (a8 T.length T rs k a)=val k u a
 |0,a,_,ha=>by
  obtain⟨x,rfl⟩:=bB ha;rw[a8,cG];rfl
 |k+1,a,hk,ha=>by
  obtain⟨m,hm,hl,hv⟩:=E.root k (by omega);have hpl:(cE T.length (rs.getD k [])).length=2^T.length:=bC (by rw[hl];exact Nat.pow_le_pow_right (by decide) hm);rw[a8,val_add a5 ae,val_mul E.tg.rd.rl a5 hpl,kN E (by omega) (ah ha),kN E (by omega) (ag ha),sr hl hm,hv,val]
theorem Ext.up {A:List R}{u T S rs:List El}{k:Nat}(E:Ext A u k T rs)(G:TG A (T++S)){r:El}{m:Nat}(hm:m≤(T++S).length)(hl:r.length=2^m)(hv:val m (T++S) r=R.sqrt (val k u (u.getD k []))):Ext A u (k+1) (T++S) (rs++[r]):=by
 refine⟨G,by rw[X6,E.len];rfl,fun i hi=>?_⟩
 by_cases h:i<k
 ·obtain⟨m',h1,h2,h3⟩:=E.root i h;have e:(rs++[r]).getD i []=rs.getD i []:=dy (by rw[E.len];exact h);refine⟨m',by rw[X6];omega,by rw[e,h2],by rw[e,eN h1,h3]⟩
 obtain rfl:i=k:=by omega
 have e:(rs++[r]).getD i []=r:=by rw[←E.len];exact gg
 exact⟨m,hm,by rw[e,hl],by rw[e,hv]⟩
theorem In.tH {A:List R}{u T rs:List El}{K:Nat}(E:Ext A u K T rs){k:Nat}(hk:k≤K){x:R}(hx:In k u x):In T.length T x:=by
 obtain⟨a,ha,rfl⟩:=hx;exact⟨a8 T.length T rs k a,a5,kN E hk ha⟩
end Go.Tw
/-
  What adjoining a root needs to be short.
-/
namespace Go.Tw
open Go Go.R
theorem kM.sg {X h:Nat}{t:List El}{a:El}(H:kM X h t a):gT X h t a:=by
 cases h with
 |zero=>exact H
 |succ h=>exact H.1
structure Fk (X h:Nat) (t:List El) (a:El):Prop where
 sq:kM X h t a
 rt:∀b,b.length=2^h→val h t b*val h t b=val h t a→gT X h t b
theorem xI:∀h,h≤3→bW h (Aq h)≤jK∧bW h 0≤jK:=by
 intro h hh
 match h,hh with
 |0,_=>decide+kernel
 |1,_=>decide+kernel
 |2,_=>decide+kernel
 |3,_=>decide+kernel
section
variable {A:List R}
theorem TG.Qa (S:Src 64 A)(hA:A.length≤3){t:List El}(T:TG A t){e:El}(he:e.length=2^t.length)(hv:val t.length t e∈A)(hp:R.pos (val t.length t e)):Fk jK t.length t e:=by
 refine⟨T.QN S hA he hv,fun b hb eb=>?_⟩;obtain⟨z,w,d,E,h1,_⟩:=T.ev S hA;have hs:=R.dN (bx.2 (.inr hp));have hx:Ht t.length z w (val t.length t b) (Aq t.length):=by
  rcases R.Du (eb.trans hs.symm)with k|k
  ·rw[k];exact h1 _ hv (by rw[←k];exact .of hb)
  rw[k]
  have:In t.length t (R.sqrt (val t.length t e)):=by
   have:=(In.of (t:=t) hb).neg
   rwa [k,R.neg_neg]at this
  exact(h1 _ hv this).neg
 exact(gT.of E hb hx).mono (xI _ (T.j6 S hA)).1
theorem iC.zero {B n:Nat}:iC B (zE n):=fun c hc=>by
 rw[List.eq_of_mem_replicate hc];exact⟨Nat.zero_le _,Nat.one_le_two_pow⟩
theorem TG.PU (S:Src 64 A)(hA:A.length≤3){t:List El}(T:TG A t)(h2:t.length≤2){e:El}(he:e.length=2^t.length)(hv:val t.length t e=q 0):Fk jK t.length t e:=by
 have ez:=mG T.rd he hv;refine⟨by rw[ez];exact T.PW S hA h2 (by rw[au]) .zero,fun b hb eb=>?_⟩;obtain⟨z,w,d,E,_,_⟩:=T.ev S hA;rw[hv]at eb;have hx:Ht t.length z w (val t.length t b) 0:=by
  rw[R.Ps eb];exact Ht.rat (by decide) (by decide)
 exact(gT.of E hb hx).mono (xI _ (T.j6 S hA)).2
end
end Go.Tw
namespace Go.Proofs.YtgcmkdgpaibpeaaGreat
open Go.Proofs.Tryz
open Go Go.Eng
open Go.Tw (El aC aJ zE ai au ar ao ae QB mS ah ag aO aI tB aX aG cA lS kM gT val In Fk Rd nW TG jK bo dK b6 dF)
structure GQ (X h:Nat) (t:List El):Prop where
 rq:x6 X h t
 rd:Rd h t
 sq:∀i,i<h→kM X i t (t.getD i [])
theorem GQ.le {X h k:Nat}{t:List El}(W:GQ X h t)(hk:k≤h):GQ X k t:=⟨W.rq.le hk,W.rd.le hk,fun i hi=>W.sq i (by omega)⟩
theorem vZ {A:List R}(S:Go.Tw.Src 64 A)(hA:A.length≤3){t:List El}(G:TG A t){h:Nat}(hh:h≤t.length):GQ jK h t:=by
 have h3:=G.j6 S hA;have hs:=fun i (hi:i<t.length)=>G.OT S hA hi;have hb:=fun i (hi:i<t.length)=>G.qb S hA hi;refine GQ.le (h:=t.length) ⟨⟨⟨⟨by omega,fun i hi=>(G.rd.rl i hi).1,fun i hi=>.of (hb i hi) (by decide)⟩,h3,fun i hi=>hb i hi⟩,fun i hi=>(hs i hi).sg,fun i hi=>?_⟩,G.rd,hs⟩ hh;rw[b6 (G.rd.rl.le (by omega)) (G.rd.rl i hi).1,R.gP (G.rd.rl i hi).2];decide
section
variable {X h:Nat}(hX1:1≤X)(hX:X≤2^30){t:List El}{a:El}
include hX1 hX
theorem uJ {w:El}(W:GQ X h t)(hw:w.length=2^h)(sw:gT X h t w)(c:Pr prog 216 [tV h t,eV a] (.aA [eV w,.one (.bool true)])):
  Pr prog 195 [tV h t,eV a] (.aA [eV (if bo h t w<0 then aJ w else w),.one (.bool true)]):=by
 have s:=ki hX1 hX W.rq hw sw;have n:=v5 W.rq.tq.tk w hw (.of sw.qb (by omega));refine pw func195 ⟨[0,1,4,5,6,7,15,19],[]⟩ ?_;simp only[Tryz.f195,ntmps195,iz,seval];simp only[vx,T,seval,tV,tC,eV,aa];refine Cg c ?_;simp only[vx,T,seval,tV,tC,eV,aa];refine Cg s ?_;simp only[vx,T,seval,tV,tC,eV,aa];refine⟨fun g=>Lg ?_,fun g=>Lg ?_⟩
 ·rw[if_pos g];simp only[vx,T,seval,tV,tC,eV,aa];refine Cg n ?_;simp only[vx,T,seval,tV,tC,eV,aa];exact Ve rfl
 rw[if_neg g];simp only[vx,T,seval,tV,tC,eV,aa];exact Ve rfl
omit hX1 hX in
theorem uF {l:List (Nat→C)}(c:Pr prog 216 [tV h t,eV a] (.aA [.one (GC l),.one (.bool false)])):
  Pr prog 195 [tV h t,eV a] (.aA [.one .nil,.one (.bool false)]):=by
 refine pw func195 ⟨[0,1,4,5,6,7,15,19],[]⟩ ?_;simp only[Tryz.f195,ntmps195,iz,seval];simp only[vx,T,seval,tV,tC,eV,aa];refine Cg c ?_;simp only[vx,T,seval,tV,tC,eV,aa,GC];exact Ve rfl
theorem uK (W:GQ X h t)(ha:a.length=2^h)(hB:Fk X h t a):
  (∃w,w.length=2^h∧val h t w=R.sqrt (val h t a)∧Pr prog 195 [tV h t,eV a] (.aA [eV w,.one (.bool true)]))∨
  (nW h t (val h t a)∧Pr prog 195 [tV h t,eV a] (.aA [.one .nil,.one (.bool false)])):=by
 rcases l7 hX1 hX W.rq.tq W.rd ha hB.sq with⟨b,lb,eb,cb⟩|⟨no,l,_,c⟩
 ·refine .inl ⟨_,?_,?_,uJ hX1 hX W lb (hB.rt b lb eb) cb⟩
  ·split
   ·rw[ar,lb]
   exact lb
  have e:=b6 W.rd.rl lb;have nn:∀x,x=val h t b∨x= -val h t b→R.nn x→x=R.sqrt (val h t a):=by
   intro x hx hn;rw[←eb]
   rcases hx with rfl|rfl
   ·exact(R.pR hn).symm
   rw[show val h t b*val h t b= -val h t b* -val h t b by rw[R.neg_mul,R.mul_neg,R.neg_neg]];exact(R.pR hn).symm
  split
  ·rename_i g
   rw[Go.Tw.val_neg lb];refine nn _ (.inr rfl) ?_
   rcases R.df (val h t b)with⟨k,k2⟩|⟨k,k2⟩|⟨k,k2⟩
   ·rw[k,R.iB];exact R.bx.2 (.inl rfl)
   ·omega
   exact R.bx.2 (.inr k)
  rename_i g
  refine nn _ (.inl rfl) ?_
  rcases R.df (val h t b)with⟨k,k2⟩|⟨k,k2⟩|⟨k,k2⟩
  ·rw[k];exact R.bx.2 (.inl rfl)
  ·exact R.bx.2 (.inr k)
  omega
 exact .inr ⟨no,uF c⟩
theorem xH (W:GQ X h t):Pr prog 194 [tV h t] (.one (.bool true)):=by
 have h3:=W.rq.tq.h3;have f:∀i,i<h→Pr prog 104 [tV i t,eV (t.getD i [])] (.one (.bool true)):=fun i hi=>dD (W.rq.tq.tk.le (by omega)) _ (W.rd.rl i hi).1 (W.rq.tq.tk.q i hi);have s:∀i,i<h→Pr prog 96 [tV i t,eV (t.getD i [])] (.one (.int .i64 1)):=fun i hi=>by
  have c:=ki hX1 hX (W.rq.le (show i≤h by omega)) (W.rd.rl i hi).1 (W.sq i hi).sg
  rwa [b6 (W.rd.rl.le (by omega)) (W.rd.rl i hi).1,R.gP (W.rd.rl i hi).2]at c
 have q:∀i,i<h→∃l,Pr prog 216 [tV i t,eV (t.getD i [])] (.aA [.one (GC l),.one (.bool false)]):=fun i hi=>by
  rcases l7 hX1 hX (W.rq.tq.le (show i≤h by omega)) (W.rd.le (by omega)) (W.rd.rl i hi).1 (W.sq i hi)with⟨b,lb,eb,_⟩|⟨_,l,_,c⟩
  ·exact absurd eb (W.rd.ns i hi _ (.of lb))
  exact⟨l,c⟩
 refine pw func194 ⟨[0,2,3,4,6,7,8,9,10,27,36],[]⟩ ?_;simp only[Tryz.f194,ntmps194,iz,seval];simp only[vx,T,seval,tV,tC,aa];refine Lk (fun y:{i:Nat//i≤h}=>⟨[(0,tV h t),(2,.one (.bool false)),(7,tV h t),(8,.one (.int .i64 h)),(9,.one (.int .i64 y.1))],[],1,38⟩) (fun y=>h-y.1) ⟨0,Nat.zero_le _⟩ ?_ (fun⟨i,hi⟩=>?_)
 ·refine Sa ?_;simp only[ry,seval,rz,tV,tC,aa]
 simp only;have wi:IntKind.i64.wrap ((i:Int)+1)=((i+1:Nat):Int):=by rw[IntWalk.i64_in _ (by omega)];omega
 simp only[vx,T,seval,tV,tC,aa];refine⟨fun k=>Lg ?_,fun k=>Lg ?_⟩
 ·have hlt:i<h:=by omega
  have fi:=f i hlt;have si:=s i hlt;obtain⟨l,qi⟩:=q i hlt;obtain⟨r,hr⟩:∃r,r=t.getD i []:=⟨_,rfl⟩;rw[←hr]at fi si qi;simp only[vx,T,seval,tV,tC,aa,←hr];refine⟨⟨by omega,by omega⟩,⟨by omega,by omega⟩,Cg fi ?_⟩;simp only[vx,T,seval,tV,tC,aa,←hr];refine⟨⟨by omega,by omega⟩,Cg si ?_⟩;simp only[vx,T,seval,tV,tC,aa,←hr];refine⟨⟨by omega,by omega⟩,Cg qi ?_⟩;simp only[vx,T,seval,tV,tC,aa,GC,wi];refine Lq ⟨i+1,by omega⟩ ?_ (by show h-(i+1)<h-i;omega);refine Sa ?_;simp only[ry,seval,rz,tV,tC,aa]
 simp only[vx,T,seval,tV,tC,aa];exact Ve rfl
end
def wT (t:List El)(k:Nat)(i:Nat)(_:Nat):C:=if i<k then aa (t.getD i [])else .nil
theorem Ns {t:List El}{i k j:Nat}{r:El}(hr:r=t.getD i [])(hj:j<1):bt (wT t i) i 0 [aa r] k j=wT t (i+1) k j:=by
 obtain rfl:j=0:=by omega
 unfold bt wT
 by_cases hk:k=i
 ·subst hk;rw[if_pos rfl,if_pos (Nat.le_refl _),if_pos (by simp),if_pos (by omega),hr,Nat.sub_self];rfl
 rw[if_neg hk]
 by_cases h2:k<i
 ·rw[if_pos h2,if_pos (by omega)]
 rw[if_neg h2,if_neg (by omega)]
theorem MT {t:List El}{e:TypeId}{n:Nat}:Y5 [] 0 (Bk.rows e 1 n (wT t n)) (Bk.rows e 1 n (fun i _=>aa (t.getD i []))):=⟨rfl,rfl,fun i j hi _=>by
 rw[wT,if_pos hi]⟩
theorem Br {h:Nat}(hh:h≤8)(t:List El)(hl:∀i,i<h→(t.getD i []).length<2^38):Fr prog 196 [tV h t] (.rows 50 1 h (fun i _=>aa (t.getD i []))):=by
 refine fw func196 ⟨[0,2,3,4,5,9,10,11,12],[]⟩ ?_;simp only[Tryz.f196,ntmps196,iz,seval];simp only[vx,T,seval,tV,tC,aa];refine⟨by omega,Lk (fun y:{i:Nat//i≤h}=>⟨[(0,tV h t),(3,.one (.own 1 1 0 h)),(9,tV h t),(10,.one (.int .i64 h)),(11,.one (.int .i64 y.1))],[(1,⟨.rows 50 1 h (wT t y.1),true⟩)],2,23⟩) (fun y=>h-y.1) ⟨0,Nat.zero_le _⟩ ?_ (fun⟨i,hi⟩=>?_)⟩
 ·refine Sa ?_;simp only[ry,seval,rz,tV,tC,aa];exact fun i j _ hj=>by
               obtain rfl:j=0:=by omega
               rw[wT,if_neg (Nat.not_lt_zero _)];rfl
 simp only;have wi:IntKind.i64.wrap ((i:Int)+1)=((i+1:Nat):Int):=by rw[IntWalk.i64_in _ (by omega)];omega
 simp only[vx,T,seval,tV,tC,aa];refine⟨fun g=>Lg ?_,fun g=>Lg ?_⟩
 ·have ci:=ru (t.getD i []) (hl i (by omega));obtain⟨r,hr⟩:∃r,r=t.getD i []:=⟨_,rfl⟩;rw[←hr]at ci;simp only[vx,T,seval,tV,tC,aa,←hr];refine⟨by omega,Cg ci ?_⟩;simp only[vx,T,seval,eV,tV,tC,aa,wi];refine⟨by omega,Lq ⟨i+1,by omega⟩ ?_ (by show h-(i+1)<h-i;omega)⟩;refine Sa ?_;simp only[ry,seval,rz,tV,tC,aa];exact fun k j _ hj=>Ns hr hj
 have hil:i=h:=by omega
 subst hil;simp only[vx,T,seval,tV,tC,aa];exact MT
open Go Go.Eng
open Go.Tw (El aC aJ zE ai au ar ao ae QB mS ah ag aO aI tB aX aG cA lS kM gT val In Fk Rd nW TG jK bo dK b6 dF)
theorem yy (h:Nat)(k j:Nat)(hj:j<4):
  bt (fQ (zE (2^(h+1)))) (2^h) 0 [C.bool (zs (Rat.ofInt 1).num),C.ints .u32 (zm (Rat.ofInt 1).num),C.bool (zs ((Rat.ofInt 1).den:Int)),C.ints .u32 (zm ((Rat.ofInt 1).den:Int))] k j=fQ (dK h) k j:=by
 have hp:0<2^h:=Nat.pow_pos (by decide);have e1:(dK h).getD (2^h) default=Rat.ofInt 1:=by
  unfold dK;rw[X7,List.getElem?_append_right (by rw[au];exact Nat.le_refl _),au,Nat.sub_self];rfl
 unfold bt
 by_cases hk:k=2^h
 ·subst hk;rw[if_pos rfl,if_pos (Nat.zero_le _),if_pos (by simpa using hj),Nat.sub_zero];exact dA _ e1 j
 rw[if_neg hk];unfold fQ
 congr 1
 have e2:∀{n:Nat},(zE n).getD k default=0:=by
  intro n;unfold zE;rw[X7,List.getElem?_replicate]
  split<;>rfl
 rw[e2];unfold dK;rw[X7]
 by_cases hl:k<2^h
 ·rw[List.getElem?_append_left (by rw[au];exact hl),←X7,e2]
 rw[List.getElem?_append_right (by rw[au];omega),au];unfold aX;obtain⟨d,hd⟩:∃d,k-2^h=d+1:=⟨k-2^h-1,by omega⟩;rw[hd,List.getElem?_cons_succ];unfold zE;rw[List.getElem?_replicate]
 split<;>rfl
theorem DZ {h:Nat}{U:List El}(tk:Tk (h+1) U):Pr prog 197 [tV (h+1) U,.one (.int .i64 h)] (eV (dK h)):=by
 have h8:=tk.le8;have r:=jt tk;have hs:=dL (h:=h+1) h8;have hs':=dL (h:=h) (by omega);have hp:=aN h8;have z:=oN (2^(h+1)) hp;have o:=cP 1 (by decide) (by decide);have hlt:2^h<2^(h+1):=Nat.pow_lt_pow_right (by decide) (by omega);have hlen:(zE (2^(h+1))).length=2^(h+1):=au;obtain⟨N,hN⟩:∃N,N=2^(h+1):=⟨_,rfl⟩;obtain⟨M,hM⟩:∃M,M=2^h:=⟨_,rfl⟩;have st:=yy h;rw[←hN]at hs z hlt hlen hp st;rw[←hM]at hs' hlt st;have hs:IntKind.i64.wrap (1*2^(if h≤63 then h+1 else 64))=(N:Int):=by
  rw[if_pos (by omega)]at hs⊢;exact hs
 refine pw func197 ⟨[0,1,4,5,18],[]⟩ ?_;simp only[Tryz.f197,ntmps197,iz,seval];simp only[vx,T,seval,tV,tC,aa];refine Cg r ?_;simp only[vx,T,seval,tV,tC,aa];refine⟨fun h=>absurd h (by omega),fun _=>Lg ?_⟩;simp only[vx,T,seval,tV,tC,aa,hs,hs'];refine⟨fun h=>absurd h (by omega),fun _=>Lg ?_⟩;simp only[vx,T,seval,tV,tC,aa,hs,hs'];refine⟨by omega,cF.fresh z ?_⟩;simp only[vx,T,seval,tV,tC,aa,hs,hs'];refine⟨by omega,Cg o ?_⟩;simp only[vx,T,seval,tV,tC,aa,QV,QC,hs,hs',hlen];exact⟨⟨by omega,by omega⟩,fP.cell (dr.rows (by rw[Go.Tw.kv,hN]) fun i j _ hj=>.of_eq (st i j hj))⟩
open Go Go.Eng
open Go.Tw (El aC aJ zE ai au ar ao ae QB mS ah ag aO aI tB aX aG cA lS kM gT val In Fk Rd nW TG jK bo dK b6 dF)
section
variable {A:List R}(S:Go.Tw.Src 64 A)(hA:A.length≤3){t:List El}{a:El}
include S hA
theorem zy (G:TG A t)(ha:a.length=2^t.length)(hn:R.nn (val t.length t a))(hB:Fk jK t.length t a):
  (∃w,w.length=2^t.length∧val t.length t w=R.sqrt (val t.length t a)∧Pr prog 169 [tV t.length t,eV a] (.aA [tV t.length t,eV w,.one (.int .i64 0)]))∨
  (nW t.length t (val t.length t a)∧Pr prog 169 [tV t.length t,eV a] (.aA [tV (t.length+1) (t++[a]),eV (dK t.length),.one (.int .i64 0)])):=by
 have W:=vZ S hA G (Nat.le_refl _);have hX1:1≤jK:=by decide
 have hX:jK≤2^30:=by decide
 have h3:=W.rq.tq.h3;have f:=dD W.rq.tq.tk a ha (.of hB.sq.qb (by omega));have rd:=xH hX1 hX W;have sg:=ki hX1 hX W.rq ha hB.sq.sg;have hs:¬bo t.length t a<0:=by
  rw[b6 W.rd.rl ha]
  rcases R.df (val t.length t a)with⟨k,k2⟩|⟨k,k2⟩|⟨k,k2⟩
  ·omega
  ·omega
  exact absurd k hn
 have cl:=Br (h:=t.length) (by omega) t (fun i hi=>by rw[(W.rd.rl i hi).1];exact aN (by omega));obtain⟨n,hnn⟩:∃n,n=t.length:=⟨_,rfl⟩
 rcases uK hX1 hX W ha hB with⟨w,lw,ew,cw⟩|⟨no,c⟩
 ·refine .inl ⟨w,lw,ew,?_⟩;rw[←hnn]at f rd sg cl cw hs⊢;have cl:=cl.rows;refine pw func169 ⟨[0,1,4,5,6,7,8,9,10,20,31,37],[]⟩ ?_;simp only[Tryz.f169,ntmps169,iz,seval];simp only[vx,T,seval,tV,tC,eV,aa];refine Cg f ?_;simp only[vx,T,seval,tV,tC,eV,aa];refine Cg rd ?_;simp only[vx,T,seval,tV,tC,eV,aa];refine Cg sg ?_;simp only[vx,T,seval,tV,tC,eV,aa];refine⟨fun h=>absurd h hs,fun _=>Lg ?_⟩;simp only[vx,T,seval,tV,tC,eV,aa];refine Cg cw ?_;simp only[vx,T,seval,tV,tC,eV,aa];refine Cg cl ?_;simp only[vx,T,seval,tV,tC,eV,aa];exact Ve rfl
 refine .inr ⟨no,?_⟩;have q:=ru a (by rw[ha];exact aN (by omega));have tk:Tk (t.length+1) (t++[a]):=by
  have key:∀i,i<t.length+1→i<t.length∨i=t.length:=fun i hi=>by omega
  refine⟨by omega,fun i hi=>?_,fun i hi=>?_⟩
  ·rcases key i hi with h|rfl
   ·rw[Go.Tw.dy h];exact(W.rd.rl i h).1
   rw[Go.Tw.gg];exact ha
  rcases key i hi with h|rfl
  ·rw[Go.Tw.dy h];exact W.rq.tq.tk.q i h
  rw[Go.Tw.gg];exact .of hB.sq.qb (by omega)
 have ro:=DZ tk;obtain⟨u,hu⟩:∃u,u=t++[a]:=⟨_,rfl⟩;have eu:∀i j,i<n+1→j<1→(if i<n then aa (t.getD i [])else[aa a].getD ((i-n)*1+j) .any)=aa (u.getD i []):=fun i j hi hj=>by
  obtain rfl:j=0:=by omega
  rw[hnn,hu]
  by_cases h:i<t.length
  ·rw[if_pos h,Go.Tw.dy h]
  obtain rfl:i=t.length:=by omega
  rw[if_neg h,Go.Tw.gg,Nat.sub_self];rfl
 rw[←hu]at ro⊢;rw[←hnn]at f rd sg cl c ro hs h3⊢;refine pw func169 ⟨[0,1,4,5,6,7,8,9,10,20,31,37],[]⟩ ?_;simp only[Tryz.f169,ntmps169,iz,seval];simp only[vx,T,seval,tV,tC,eV,aa];refine Cg f ?_;simp only[vx,T,seval,tV,tC,eV,aa];refine Cg rd ?_;simp only[vx,T,seval,tV,tC,eV,aa];refine Cg sg ?_;simp only[vx,T,seval,tV,tC,eV,aa];refine⟨fun h=>absurd h hs,fun _=>Lg ?_⟩;simp only[vx,T,seval,tV,tC,eV,aa];refine Cg c ?_;simp only[vx,T,seval,tV,tC,eV,aa];refine⟨fun h=>absurd h (by omega),fun _=>Lg ?_⟩;simp only[vx,T,seval,tV,tC,eV,aa];refine cF.fresh cl ?_;simp only[vx,T,seval,tV,tC,eV,aa];refine Cg q ?_;simp only[vx,T,seval,tV,tC,eV,aa];refine⟨⟨by omega,by omega⟩,Cg (ro.args ⟨.cell (.rows rfl fun i j hi hj=>.of_eq (eu i j hi hj)),.refl _,trivial⟩) ?_⟩;simp only[vx,T,seval,tV,tC,eV,aa];exact fP.aA ⟨.cell (.rows rfl fun i j hi hj=>.of_eq (eu i j hi hj)),.refl _,.refl _,trivial⟩
end
open Go Go.Eng
open Go.Tw (El aC aJ zE ai au ar ao ae QB mS ah ag tB aX aG val In Rd TG cE a8)
theorem JX (a:El)(h0:0<a.length)(hl:a.length<2^38):Fr prog 168 [eV a] (.rows 62 4 a.length (fQ a)):=by
 refine fw func168 ⟨[0,2,4],[]⟩ ?_;simp only[Tryz.f168,ntmps168,iz,seval];simp only[vx,T,seval,eV,aa];intro b hb;obtain rfl:=hb h0;refine Lg ?_;simp only[vx,T,seval];exact⟨⟨by omega,by omega⟩,rfl,rfl,fun i j _ _=>if_neg (Nat.not_lt_zero _)⟩
theorem LL {ks:El}{k:Nat}(hk:ks.length=k):∀(i j:Nat),i<k+1→j<4→
  (if i<k then fQ ks i j else[C.bool (zs (Rat.ofInt 0).num),C.ints .u32 (zm (Rat.ofInt 0).num),C.bool (zs ((Rat.ofInt 0).den:Int)),C.ints .u32 (zm ((Rat.ofInt 0).den:Int))].getD ((i-k)*4+j) C.any)=fQ (ks++[0]) i j:=by
 subst hk;intro i j hi hj
 by_cases h:i<ks.length
 ·rw[if_pos h];unfold fQ;rw[X7,X7,List.getElem?_append_left h]
 have:i=ks.length:=by omega
 subst this;rw[if_neg h,Nat.sub_self,Nat.zero_mul,Nat.zero_add];exact dA (Rat.ofInt 0) (by rw[X7,List.getElem?_append_right (Nat.le_refl _),Nat.sub_self];rfl) j
theorem CN (a:El)(k:Nat):a++zE (k+1)=(a++zE k)++[0]:=by
 rw[←Go.Tw.Ba,List.append_assoc];rfl
theorem lV {h:Nat}{t:List El}{a:El}(hh:h≤8)(h0:0<a.length)(hl:a.length≤2^h):Pr prog 131 [tV h t,eV a] (eV (cE h a)):=by
 have hp:=aN hh;have c:=JX a h0 (by omega);have z:=cP 0 (by decide) (by decide);have hs:=dL (h:=h) hh;have e:cE h a=a++zE (2^h-a.length):=rfl;rw[e];obtain⟨N,hN⟩:∃N,N=2^h:=⟨_,rfl⟩;rw[←hN]at hs hl hp⊢;refine pw func131 ⟨[0,1,4,5,13],[]⟩ ?_;simp only[Tryz.f131,ntmps131,iz,seval];simp only[vx,T,seval,tV,tC,eV,aa];refine cF.fresh c ?_;simp only[vx,T,seval,tV,tC,eV,aa];refine Lk (fun y:{k:Nat//a.length+k≤N}=>⟨[(0,tV h t),(4,.one .nil),(5,.one (.own 1 4 0 (a.length+y.1)))],[(1,⟨.rows 62 4 (a.length+y.1) (fQ (a++zE y.1)),true⟩)],2,19⟩) (fun y=>N-(a.length+y.1)) ⟨0,by omega⟩ ?_ (fun⟨k,hk⟩=>?_)
 ·refine Sa ?_;simp only[ry,seval,rz,tV,tC,eV,aa];exact fun i j _ _=>by rw[show a++zE 0=a from List.append_nil a]
 simp only;simp only[vx,T,seval,tV,tC,eV,aa,hs];refine⟨by omega,?_⟩;refine⟨fun g=>Lg ?_,fun g=>Lg ?_⟩
 ·simp only[vx,T,seval,tV,tC,eV,aa,hs];refine Cg z ?_;simp only[vx,T,seval,tV,tC,eV,aa,hs,QV,QC];refine⟨⟨by omega,by omega⟩,Lq ⟨k+1,by omega⟩ ?_ (by show N-(a.length+(k+1))<N-(a.length+k);omega)⟩;refine Sa ?_;simp only[ry,seval,rz,tV,tC,eV,aa,hs];exact⟨by omega,by omega,by rw[CN];exact LL (by rw[X6,au])⟩
 simp only[vx,T,seval,tV,tC,eV,aa,hs];have ek:k=N-a.length:=by omega
 rw[←ek];exact fP.cell (dr.rows (by rw[X6,au]) fun i j _ _=>.refl _)
open Go Go.Eng
open Go.Tw (El aC aJ zE ai au ar ao ae QB mS ah ag tB aX aG val In Rd TG cE bC a8 a5)
structure Fl (B Y Z H K:Nat) (U rs:List El):Prop where
 tq:TQ H U
 hB:B<2^38
 hY:1≤Y
 hZ:1≤Z
 y:∀j,j<K→∀b,b.length=2^j→QB B b→QB Y (a8 H U rs j b)
 r:∀i,i<K→(∃m,m≤H∧(rs.getD i []).length=2^m)∧QB Z (rs.getD i [])
 s:mS H (Y+Z) tB<2^38
theorem Fl.le {B Y Z H K k:Nat}{U rs:List El}(I:Fl B Y Z H K U rs)(hk:k≤K):Fl B Y Z H k U rs:=⟨I.tq,I.hB,I.hY,I.hZ,fun j hj=>I.y j (by omega),fun i hi=>I.r i (by omega),I.s⟩
def eM (H:Nat)(U rs:List El):V:=.agg [tC H U,tC rs.length rs]
theorem MY {B Y Z H:Nat}{U rs:List El}{a:El}(I:Fl B Y Z H 0 U rs)(ha:a.length=2^0)(hq:QB B a):Pr prog 133 [eM H U rs,eV a] (eV (a8 H U rs 0 a)):=by
 obtain⟨x,rfl⟩:=Go.Tw.bB ha;have hB:=I.hB;have hx:qm x≤B:=hq x (by simp);have f:=eA I.tq.tk x (by omega);have e:a8 H U rs 0 [x]=aX H x:=rfl;rw[e];refine pw func133 ⟨[0,1,2,4,5,6,7,8,11,26,37],[]⟩ ?_;simp only[Tryz.f133,ntmps133,iz,seval];simp only[vx,T,seval,eM,tV,tC,eV,aa,qC,X0];refine Cg f ?_;simp only[vx,T,seval,eM,tV,tC,eV,aa];exact Ve rfl
theorem lM {B Y Z H:Nat}{U rs:List El}:∀{k:Nat} {a:El},Fl B Y Z H k U rs→k≤rs.length→k≤8→a.length=2^k→QB B a→Pr prog 133 [eM H U rs,eV a] (eV (a8 H U rs k a))
 |0,a,I,_,_,ha,hq=>MY I ha hq
 |k+1,a,I,hkr,hk8,ha,hq=>by
  have I':=I.le (Nat.le_succ k);have la1:=ah ha;have la2:=ag ha;have c1:=lM I' (by omega) (by omega) la1 (hq.take _);have c2:=lM I' (by omega) (by omega) la2 (hq.drop _);have hB:=I.hB;have h3:=I.tq.h3;have hp:=aN (h:=k+1) hk8;have hlt:2^k<2^(k+1):=Nat.pow_lt_pow_right (by decide) (by omega);have z:=dj (a.drop (2^k)) (by omega) (.of (hq.drop _) hB);have hn:(2^k:Nat)≤a.length:=by omega
  have cT:=fk hn;have cD:=eQ (a:=a) (n:=2^k);have c1:=c1.args (xs:=[eM H U rs,.one (.rows 4 (2^k) (fun i=>qC (a.getD i default)))]) ⟨.refl _,.cell cT,trivial⟩;have c2:=c2.args (xs:=[eM H U rs,.one (.rows 4 (a.length-2^k) (fun i=>qC (a.getD (2^k+i) default)))]) ⟨.refl _,.cell cD,trivial⟩;have z:=z.args (xs:=[.one (.rows 4 (a.length-2^k) (fun i=>qC (a.getD (2^k+i) default)))]) ⟨.cell cD,trivial⟩;have hg:∀i,i≤k→(IntKind.i64.wrap (1*2^(if i≤63 then i+1 else 64))<((a.length:Nat):Int)↔i<k):=fun i hi=>by
   have hs:=dL (h:=i+1) (by omega);rw[if_pos (by omega)]at hs⊢;rw[hs,ha]
   constructor
   ·intro h;refine Nat.lt_of_not_le fun h2=>?_
    have:=Nat.pow_le_pow_right (n:=2) (by decide) (show k+1≤i+1 by omega)
    omega
   intro h
   have:=Nat.pow_lt_pow_right (a:=2) (by decide) (show i+1<k+1 by omega)
   omega
  obtain⟨n,hnn⟩:∃n,n=2^k:=⟨_,rfl⟩;have ha2:a.length=2*n:=by rw[ha,Nat.pow_succ,hnn];omega
  have w2:IntKind.i64.wrap (((a.length:Nat):Int).tdiv 2)=(n:Int):=by
   rw[ha2,Int.tdiv_eq_ediv_of_nonneg (by omega),IntWalk.i64_in _ (by omega)];omega
  have w4:((a.length:Int)-(n:Int)).toNat=a.length-n:=by omega
  have hne:¬((a.length:Nat):Int)=1:=by
   have:=Nat.two_pow_pos k
   omega
  have st:∀(hv:¬a.drop (2^k)=zE (2^k)),True:=fun _=>trivial;refine pw func133 ⟨[0,1,2,4,5,6,7,8,11,26,37],[]⟩ ?_;simp only[Tryz.f133,ntmps133,iz,seval];simp only[vx,T,seval,eM,tV,tC,eV,aa,w2,w4];refine⟨fun h=>absurd h hne,fun _=>Lg ?_⟩;simp only[vx,T,seval,eM,tV,tC,eV,aa,w2,w4];refine Lk (fun y:{i:Nat//i≤k}=>⟨[(1,eV a),(2,.one (.ptr 1 0)),(4,.one .nil),(5,.one (.int .i64 n)),(6,.one (.int .i64 y.1))],[(1,⟨.var [tC H U,tC rs.length rs],true⟩)],2,60⟩) (fun y=>k-y.1) ⟨0,Nat.zero_le _⟩ ?_ (fun⟨i,hi⟩=>?_)
  ·refine Sa ?_;simp only[ry,seval,rz,tV,tC,eV,aa]
  simp only;have hgi:=hg i hi;have wi:IntKind.i64.wrap ((i:Int)+1)=((i+1:Nat):Int):=by rw[IntWalk.i64_in _ (by omega)];omega
  simp only[vx,T,seval,tV,tC,eV,aa,wi];refine⟨by omega,?_⟩;refine⟨fun g=>Lg ?_,fun g=>Lg ?_⟩
  ·have hik:=hgi.1 g;simp only[vx,T,seval,tV,tC,eV,aa,wi];refine Lq ⟨i+1,by omega⟩ ?_ (by show k-(i+1)<k-i;omega);refine Sa ?_;simp only[ry,seval,rz,tV,tC,eV,aa]
  have hik:i=k:=by
   have:¬i<k:=fun h=>g (hgi.2 h)
   omega
  subst hik;obtain⟨⟨m,hm,lr⟩,qr⟩:=I.r i (by omega);have q2:=I.y i (by omega) _ la2 (hq.drop _);have hlm:(rs.getD i []).length≤2^H:=by rw[lr];exact Nat.pow_le_pow_right (by decide) hm
  have pd:=lV (t:=U) (a:=rs.getD i []) (by omega) (by rw[lr];exact Nat.two_pow_pos _) hlm;have mu:=gz fS I.tq.tk I.tq.q I.hY I.hZ (a8 H U rs i (a.drop (2^i))) (cE H (rs.getD i [])) a5 (bC hlm) q2 (Go.Tw.QB.pad I.hZ qr) I.s;have gm:=QB.mul (h:=H) (t:=U) fS I.tq.q I.hY I.hZ q2 (Go.Tw.QB.pad (H:=H) I.hZ qr);have hge:=Go.Tw.gV (h:=H) (S:=Y+Z) (C:=tB);have hs:=I.s;have q1:=I.y i (by omega) _ la1 (hq.take _);have ad:=kD I.tq.tk (a8 H U rs i (a.take (2^i))) _ a5 ae (.of q1 (by omega)) (.of gm hs);have el:=Go.Tw.yu (H:=H) (T:=U) (rs:=rs) (k:=i) (a:=a);have er:a8 H U rs (i+1) a=aC (a8 H U rs i (a.take (2^i))) (ai H U (a8 H U rs i (a.drop (2^i))) (cE H (rs.getD i []))):=rfl;rw[←er]at ad;obtain⟨r,hr⟩:∃r,r=a8 H U rs (i+1) a:=⟨_,rfl⟩;obtain⟨x,hx⟩:∃x,x=a8 H U rs i (a.take (2^i)):=⟨_,rfl⟩;obtain⟨y,hy⟩:∃y,y=a8 H U rs i (a.drop (2^i)):=⟨_,rfl⟩;obtain⟨v,hv⟩:∃v,v=rs.getD i []:=⟨_,rfl⟩;obtain⟨p,hpp⟩:∃p,p=cE H v:=⟨_,rfl⟩;rw[←hr,←hx]at el ad;rw[←hx]at c1;rw[←hy]at c2;rw[←hr];rw[←hv]at pd;rw[←hy,←hv,←hpp]at ad mu;rw[←hpp]at pd;have hil:i<rs.length:=by omega
  by_cases hz:a.drop (2^i)=zE (2^i)
  ·rw[decide_eq_true (by rw[la2];exact hz)]at z;rw[el hz];rw[←hnn]at c1 z;simp only[vx,T,seval,tV,tC,eV,aa,wi,w4];refine⟨⟨by omega,by omega⟩,Cg c1 ?_⟩;simp only[vx,T,seval,eM,tV,tC,eV,aa,wi,w4];refine⟨⟨by omega,by omega,by omega⟩,Cg z ?_⟩;simp only[vx,T,seval,eM,tV,tC,eV,aa,wi,w4];exact Ve rfl
  rw[decide_eq_false (by rw[la2];exact hz)]at z;rw[←hnn]at c1 c2 z;simp only[vx,T,seval,tV,tC,eV,aa,wi,w4];refine⟨⟨by omega,by omega⟩,Cg c1 ?_⟩;simp only[vx,T,seval,eM,tV,tC,eV,aa,wi,w4];refine⟨⟨by omega,by omega,by omega⟩,Cg z ?_⟩;simp only[vx,T,seval,eM,tV,tC,eV,aa,wi,w4];refine⟨⟨by omega,by omega,by omega⟩,Cg c2 ?_⟩;simp only[vx,T,seval,eM,tV,tC,eV,aa,wi,w4,←hv];refine⟨⟨by omega,by omega⟩,Cg pd ?_⟩;simp only[vx,T,seval,eM,tV,tC,eV,aa,wi,w4,←hv];refine Cg mu ?_;simp only[vx,T,seval,eM,tV,tC,eV,aa,wi,w4,←hv];refine Cg ad ?_;simp only[vx,T,seval,eM,tV,tC,eV,aa,wi,w4,←hv];exact Ve rfl
open Go Go.Eng
open Go.Tw (El aC aJ zE ai au ar ao ae QB mS ah ag tB aX aG val In Rd TG cE bC a8 a5)
def oM (H:Nat)(U:List El)(n:Nat):V:=.agg [tC H U,.own 0 1 0 n]
def rB (n:Nat)(rs:List El):Bk:=.rows 50 1 n (fun j _=>aa (rs.getD j []))
theorem Db {P:Program}{fn:FuncId}{x:V}{w n n':Nat}{f g:Nat→Nat→C}{B:Bk}{R:V→Bk→Prop}(h:Mc P fn [x,.one (.rows w n' g)] B R)(hc:dr (.rows w n f) (.rows w n' g)):Mc P fn [x,.one (.rows w n f)] B R:=
 ⟨h.1,fun ok W vs l h1 h2 h3 h4 hvs=>h.2 ok W vs l h1 h2 h3 h4 (by
  generalize vs.toList=ls at hvs⊢
  match ls,hvs with
  |[_,v2],⟨a,b,_⟩=>exact⟨a,hc ok W v2 b,trivial⟩)⟩
def L1 (rs:List El)(n:Nat)(x:V)(r:V)(B:Bk):Prop:=r=x∧B=rB n rs
theorem JA {B Y Z H:Nat}{U rs:List El}{n:Nat}{a:El}(I:Fl B Y Z H 0 U rs)(ha:a.length=2^0)(hq:QB B a):Mc prog 133 [oM H U n,eV a] (rB n rs) (L1 rs n (eV (a8 H U rs 0 a))):=by
 obtain⟨x,rfl⟩:=Go.Tw.bB ha;have hB:=I.hB;have hx:qm x≤B:=hq x (by simp);have f:=eA I.tq.tk x (by omega);have e:a8 H U rs 0 [x]=aX H x:=rfl;rw[e];refine mw func133 ⟨[0,1,2,4,5,6,7,8,11,26,37],[(6,(.cons 4 [] (.cons 5 [] .nil .nil) .nil)),(9,(.cons 6 [0,1,7,8,9,10,11,12,13] (.cons 14 [0,1] (.cons 15 [] (.cons 16 [] .nil .nil) .nil) .nil) .nil))]⟩ ?_;simp only[Tryz.f133,ntmps133,iz,seval];simp only[vx,T,seval,oM,rB,tV,tC,eV,aa,qC,X0];refine Cg f ?_;simp only[vx,T,seval,oM,rB,tV,tC,eV,aa];exact⟨rfl,rfl⟩
theorem my {B Y Z H:Nat}{U rs:List El}{N:Nat}(hN:rs.length=N):∀{k:Nat} {a:El},Fl B Y Z H k U rs→k≤rs.length→k≤8→a.length=2^k→QB B a→Mc prog 133 [oM H U N,eV a] (rB N rs) (L1 rs N (eV (a8 H U rs k a)))
 |0,a,I,_,_,ha,hq=>JA I ha hq
 |k+1,a,I,hkr,hk8,ha,hq=>by
  have I':=I.le (Nat.le_succ k);have la1:=ah ha;have la2:=ag ha;have c1:=my hN I' (by omega) (by omega) la1 (hq.take _);have c2:=my hN I' (by omega) (by omega) la2 (hq.drop _);have hB:=I.hB;have h3:=I.tq.h3;have hp:=aN (h:=k+1) hk8;have hlt:2^k<2^(k+1):=Nat.pow_lt_pow_right (by decide) (by omega);have z:=dj (a.drop (2^k)) (by omega) (.of (hq.drop _) hB);have hn:(2^k:Nat)≤a.length:=by omega
  have cT:=fk hn;have cD:=eQ (a:=a) (n:=2^k);have c1:=Db c1 cT;have c2:=Db c2 cD;have z:=z.args (xs:=[.one (.rows 4 (a.length-2^k) (fun i=>qC (a.getD (2^k+i) default)))]) ⟨.cell cD,trivial⟩;have hg:∀i,i≤k→(IntKind.i64.wrap (1*2^(if i≤63 then i+1 else 64))<((a.length:Nat):Int)↔i<k):=fun i hi=>by
   have hs:=dL (h:=i+1) (by omega);rw[if_pos (by omega)]at hs⊢;rw[hs,ha]
   constructor
   ·intro h;refine Nat.lt_of_not_le fun h2=>?_
    have:=Nat.pow_le_pow_right (n:=2) (by decide) (show k+1≤i+1 by omega)
    omega
   intro h
   have:=Nat.pow_lt_pow_right (a:=2) (by decide) (show i+1<k+1 by omega)
   omega
  obtain⟨n,hnn⟩:∃n,n=2^k:=⟨_,rfl⟩;have ha2:a.length=2*n:=by rw[ha,Nat.pow_succ,hnn];omega
  have w2:IntKind.i64.wrap (((a.length:Nat):Int).tdiv 2)=(n:Int):=by
   rw[ha2,Int.tdiv_eq_ediv_of_nonneg (by omega),IntWalk.i64_in _ (by omega)];omega
  have w4:((a.length:Int)-(n:Int)).toNat=a.length-n:=by omega
  have hne:¬((a.length:Nat):Int)=1:=by
   have:=Nat.two_pow_pos k
   omega
  have st:∀(hv:¬a.drop (2^k)=zE (2^k)),True:=fun _=>trivial;refine mw func133 ⟨[0,1,2,4,5,6,7,8,11,26,37],[(6,(.cons 4 [] (.cons 5 [] .nil .nil) .nil)),(9,(.cons 6 [0,1,7,8,9,10,11,12,13] (.cons 14 [0,1] (.cons 15 [] (.cons 16 [] .nil .nil) .nil) .nil) .nil))]⟩ ?_;simp only[Tryz.f133,ntmps133,iz,seval];simp only[vx,T,seval,oM,rB,tV,tC,eV,aa,w2,w4];refine⟨fun h=>absurd h hne,fun _=>Lg ?_⟩;simp only[vx,T,seval,oM,rB,tV,tC,eV,aa,w2,w4];refine Lk (fun y:{i:Nat//i≤k}=>⟨[(1,eV a),(2,.one (.ptr 1 0)),(4,.one .nil),(5,.one (.int .i64 n)),(6,.one (.int .i64 y.1))],[(0,⟨rB N rs,true⟩),(1,⟨.var [tC H U,.own 0 1 0 N],true⟩)],2,60⟩) (fun y=>k-y.1) ⟨0,Nat.zero_le _⟩ ?_ (fun⟨i,hi⟩=>?_)
  ·refine Sa ?_;simp only[ry,seval,rz,rB,tV,tC,eV,aa]
  simp only;have hgi:=hg i hi;have wi:IntKind.i64.wrap ((i:Int)+1)=((i+1:Nat):Int):=by rw[IntWalk.i64_in _ (by omega)];omega
  simp only[vx,T,seval,rB,tV,tC,eV,aa,wi];refine⟨by omega,?_⟩;refine⟨fun g=>Lg ?_,fun g=>Lg ?_⟩
  ·have hik:=hgi.1 g;simp only[vx,T,seval,rB,tV,tC,eV,aa,wi];refine Lq ⟨i+1,by omega⟩ ?_ (by show k-(i+1)<k-i;omega);refine Sa ?_;simp only[ry,seval,rz,rB,tV,tC,eV,aa]
  have hik:i=k:=by
   have:¬i<k:=fun h=>g (hgi.2 h)
   omega
  subst hik;obtain⟨⟨m,hm,lr⟩,qr⟩:=I.r i (by omega);have q2:=I.y i (by omega) _ la2 (hq.drop _);have hlm:(rs.getD i []).length≤2^H:=by rw[lr];exact Nat.pow_le_pow_right (by decide) hm
  have pd:=lV (t:=U) (a:=rs.getD i []) (by omega) (by rw[lr];exact Nat.two_pow_pos _) hlm;have mu:=gz fS I.tq.tk I.tq.q I.hY I.hZ (a8 H U rs i (a.drop (2^i))) (cE H (rs.getD i [])) a5 (bC hlm) q2 (Go.Tw.QB.pad I.hZ qr) I.s;have gm:=QB.mul (h:=H) (t:=U) fS I.tq.q I.hY I.hZ q2 (Go.Tw.QB.pad (H:=H) I.hZ qr);have hge:=Go.Tw.gV (h:=H) (S:=Y+Z) (C:=tB);have hs:=I.s;have q1:=I.y i (by omega) _ la1 (hq.take _);have ad:=kD I.tq.tk (a8 H U rs i (a.take (2^i))) _ a5 ae (.of q1 (by omega)) (.of gm hs);have el:=Go.Tw.yu (H:=H) (T:=U) (rs:=rs) (k:=i) (a:=a);have er:a8 H U rs (i+1) a=aC (a8 H U rs i (a.take (2^i))) (ai H U (a8 H U rs i (a.drop (2^i))) (cE H (rs.getD i []))):=rfl;rw[←er]at ad;obtain⟨r,hr⟩:∃r,r=a8 H U rs (i+1) a:=⟨_,rfl⟩;obtain⟨x,hx⟩:∃x,x=a8 H U rs i (a.take (2^i)):=⟨_,rfl⟩;obtain⟨y,hy⟩:∃y,y=a8 H U rs i (a.drop (2^i)):=⟨_,rfl⟩;obtain⟨v,hv⟩:∃v,v=rs.getD i []:=⟨_,rfl⟩;obtain⟨p,hpp⟩:∃p,p=cE H v:=⟨_,rfl⟩;rw[←hr,←hx]at el ad;rw[←hx]at c1;rw[←hy]at c2;rw[←hr];rw[←hv]at pd;rw[←hy,←hv,←hpp]at ad mu;rw[←hpp]at pd;have hil:i<rs.length:=by omega
  by_cases hz:a.drop (2^i)=zE (2^i)
  ·rw[decide_eq_true (by rw[la2];exact hz)]at z;rw[el hz];rw[←hnn]at c1 z;simp only[vx,T,seval,rB,tV,tC,eV,aa,wi,w4];refine⟨⟨by omega,by omega⟩,Cm 0 (B:=rB N rs) rfl trivial c1 ?_⟩;rintro _ _ ⟨rfl,rfl⟩ _;simp only[vx,T,seval,oM,rB,tV,tC,eV,aa,wi,w4];refine⟨⟨by omega,by omega,by omega⟩,Cg z ?_⟩;simp only[vx,T,seval,oM,rB,tV,tC,eV,aa,wi,w4];exact⟨rfl,rfl⟩
  rw[decide_eq_false (by rw[la2];exact hz)]at z;rw[←hnn]at c1 c2 z;simp only[vx,T,seval,rB,tV,tC,eV,aa,wi,w4];refine⟨⟨by omega,by omega⟩,Cm 0 (B:=rB N rs) rfl trivial c1 ?_⟩;rintro _ _ ⟨rfl,rfl⟩ _;simp only[vx,T,seval,oM,rB,tV,tC,eV,aa,wi,w4];refine⟨⟨by omega,by omega,by omega⟩,Cg z ?_⟩;simp only[vx,T,seval,oM,rB,tV,tC,eV,aa,wi,w4];refine⟨⟨by omega,by omega,by omega⟩,⟨by omega,by omega⟩,Cm 0 (B:=rB N rs) rfl trivial c2 ?_⟩;rintro _ _ ⟨rfl,rfl⟩ _;simp only[vx,T,seval,oM,rB,tV,tC,eV,aa,wi,w4,←hv];refine⟨⟨by omega,by omega⟩,Cg pd ?_⟩;simp only[vx,T,seval,oM,rB,tV,tC,eV,aa,wi,w4,←hv];refine Cg mu ?_;simp only[vx,T,seval,oM,rB,tV,tC,eV,aa,wi,w4,←hv];refine Cg ad ?_;simp only[vx,T,seval,oM,rB,tV,tC,eV,aa,wi,w4,←hv];exact⟨rfl,rfl⟩
end Go.Proofs.YtgcmkdgpaibpeaaGreat
/-
  DIMENSIONS: a reduced tower does not lie in a lower one.
-/
namespace Go.Tw
open Go Go.R
noncomputable def dot:List Rat→List R→R
 |l::ls,x::xs=>q l*x+dot ls xs
 |_,_=>q 0
theorem CV:∀{l m:List Rat} {x y:List R},l.length=x.length→dot (l++m) (x++y)=dot l x+dot m y
 |[],m,[],y,_=>by show dot m y=dot [] []+_;rw[show dot [] []=q 0 from rfl,zero_add]
 |a::l,m,b::x,y,h=>by
  have h:l.length=x.length:=by simpa using h
  show q a*b+dot (l++m) (x++y)=q a*b+dot l x+dot m y;rw[CV h,add_assoc]
theorem Cx (s:R):∀(l:List Rat) (x:List R),dot l (x.map (· *s))=dot l x*s
 |[],[]=>by show q 0=q 0*s;rw[zero_mul]
 |[],_::_=>by show q 0=q 0*s;rw[zero_mul]
 |_::_,[]=>by show q 0=q 0*s;rw[zero_mul]
 |a::l,b::x=>by
  show q a*(b*s)+dot l (x.map (· *s))=(q a*b+dot l x)*s;rw[Cx s l x,add_mul,mul_assoc]
noncomputable def Lj:Nat→List El→List R
 |0,_=>[q 1]
 |h+1,t=>Lj h t++(Lj h t).map (· *R.sqrt (val h t (t.getD h [])))
theorem nI {t:List El}:∀{h:Nat},(Lj h t).length=2^h
 |0=>rfl
 |h+1=>by rw[Lj,X6,List.length_map,nI,Nat.pow_succ];omega
theorem sJ {t:List El}:∀{h:Nat} {a:El},a.length=2^h→val h t a=dot a (Lj h t)
 |0,a,ha=>by
  obtain⟨x,rfl⟩:=bB ha;show q x=q x*q 1+q 0;rw[mul_one,add_zero]
 |h+1,a,ha=>by
  have e:a=a.take (2^h)++a.drop (2^h):=(List.take_append_drop _ _).symm;rw[val,Lj]
  conv=>rhs;rw[e]
  rw[CV (by rw[ah ha,nI]),Cx,sJ (ah ha),sJ (ag ha)]
theorem BK {t:List El}:∀{h:Nat} {x:R},x∈Lj h t→In h t x
 |0,x,hx=>by
  have:x=q 1:=List.mem_singleton.1 hx
  rw[this];exact In.rat 1
 |h+1,x,hx=>by
  rcases List.mem_append.1 hx with hx|hx
  ·exact(BK hx).up
  obtain⟨y,hy,rfl⟩:=List.mem_map.1 hx
  have:=In.join (t:=t) (In.rat (h:=h) 0) (BK hy)
  rwa [zero_add]at this
def Sp (ys:List R)(x:R):Prop:=∃c:List Rat,c.length=ys.length∧dot c ys=x
def PK (a b:List R):Prop:=∀l:List Rat,l.length=a.length→∃m:List Rat,m.length=b.length∧dot m b=dot l a∧((∀x∈m,x=0)→∀x∈l,x=0)
theorem Sp.cons {y x:R}{ys:List R}(h:Sp (y::ys) x):∃c z,Sp ys z∧x=q c*y+z:=by
 obtain⟨c,hc,rfl⟩:=h
 match c,hc with
 |a::c,hc=>exact⟨a,_,⟨c,by simpa using hc,rfl⟩,rfl⟩
theorem zp (k:Rat):∀(c:List Rat) (ys:List R),dot (c.map (k* ·)) ys=q k*dot c ys
 |[],[]=>by show q 0=q k*q 0;rw[mul_zero]
 |[],_::_=>by show q 0=q k*q 0;rw[mul_zero]
 |_::_,[]=>by show q 0=q k*q 0;rw[mul_zero]
 |a::c,y::ys=>by
  show q (k*a)*y+dot (c.map (k* ·)) ys=q k*(q a*y+dot c ys);rw[zp k c ys,mul_add,dT,mul_assoc]
theorem CH:∀(c d:List Rat) (ys:List R),c.length=ys.length→d.length=ys.length→dot (List.zipWith (· + ·) c d) ys=dot c ys+dot d ys
 |[],[],[],_,_=>by show q 0=q 0+q 0;rw[add_zero]
 |[],_::_,[],_,hd=>by cases hd
 |_::_,_,[],hc,_=>by cases hc
 |[],_,_::_,hc,_=>by cases hc
 |_::_,[],_::_,_,hd=>by cases hd
 |a::c,b::d,y::ys,hc,hd=>by
  show q (a+b)*y+dot (List.zipWith (· + ·) c d) ys=q a*y+dot c ys+(q b*y+dot d ys);rw[CH c d ys (by simpa using hc) (by simpa using hd),vz,add_mul,add_assoc,add_assoc]
  congr 1
  rw[←add_assoc,←add_assoc,add_comm (q b*y)]
theorem Sp.add {ys:List R}{x z:R}(h:Sp ys x)(k:Sp ys z):Sp ys (x+z):=by
 obtain⟨c,hc,rfl⟩:=h;obtain⟨d,hd,rfl⟩:=k;exact⟨List.zipWith (· + ·) c d,by rw[List.length_zipWith];omega,CH c d ys hc hd⟩
theorem Sp.smul {ys:List R}{x:R}(k:Rat)(h:Sp ys x):Sp ys (q k*x):=by
 obtain⟨c,hc,rfl⟩:=h;exact⟨c.map (k* ·),by rw[List.length_map,hc],zp k c ys⟩
theorem free {y x z:R}{ys:List R}{c:Rat}(h0:c≠0)(hz:Sp ys z)(hx:x=q c*y+z):∀{r:List R},(∀v∈r,Sp (y::ys) v)→
  ∃r':List R,r'.length=r.length∧(∀v∈r',Sp ys v)∧PK r' (x::r)∧∀l:List Rat,l.length=r'.length→∃k:Rat,q k*x+dot l r=dot l r'
 |[],_=>by
  have z:q 0*x+q 0=q 0:=by rw[zero_mul,zero_add]
  refine⟨[],rfl,fun v hv=>(by cases hv),fun l hl=>?_,fun l hl=>⟨0,?_⟩⟩
  ·obtain rfl:l=[]:=List.length_eq_zero_iff.1 hl;exact⟨[0],rfl,z,fun _ v hv=>(by cases hv)⟩
  obtain rfl:l=[]:=List.length_eq_zero_iff.1 hl;exact z
 |v::r,hr=>by
  obtain⟨r',h1,h2,_,h4⟩:=free h0 hz hx (r:=r) (fun v hv=>hr v (List.mem_cons_of_mem _ hv));obtain⟨d,u,hu,hv⟩:=(hr v (List.mem_cons_self ..)).cons;have key:q (-(d*c⁻¹))*x+v=q (-(d*c⁻¹))*z+u:=by
   rw[hx,hv,mul_add,add_assoc,←add_assoc (q _*z),add_comm (q _*z),add_assoc (q d*y),←add_assoc (q _*(q c*y)),←mul_assoc,←dT,←add_mul,←vz,
    show-(d*c⁻¹)*c+d=0 by have:=Rat.inv_mul_cancel c h0;grind,zero_mul,zero_add]
  have h5:∀l:List Rat,l.length=((q (-(d*c⁻¹))*x+v)::r').length→∃k:Rat,q k*x+dot l (v::r)=dot l ((q (-(d*c⁻¹))*x+v)::r'):=by
   intro l hl
   match l,hl with
   |a::l,hl=>
    obtain⟨k,hk⟩:=h4 l (by simpa using hl);refine⟨k+a* -(d*c⁻¹),?_⟩;show q (k+a* -(d*c⁻¹))*x+(q a*v+dot l r)=q a*(q (-(d*c⁻¹))*x+v)+dot l r';rw[←hk,vz,dT,add_mul,mul_add,mul_assoc,add_assoc,add_assoc]
    generalize q a*(q (-(d*c⁻¹))*x)=p
    generalize q a*v=w
    generalize q k*x=s
    generalize dot l r=e
    rw[←add_assoc,←add_assoc,add_comm s p,add_assoc p s w,add_comm s w,←add_assoc p w s,add_assoc,add_assoc]
  refine⟨(q (-(d*c⁻¹))*x+v)::r',by simp[h1],fun w hw=>?_,fun l hl=>?_,h5⟩
  ·rcases List.mem_cons.1 hw with rfl|hw
   ·rw[key];exact(hz.smul _).add hu
   exact h2 w hw
  obtain⟨k,hk⟩:=h5 l hl;exact⟨k::l,by simp only[List.length_cons]at hl⊢;omega,hk,fun h w hw=>h w (List.mem_cons_of_mem _ hw)⟩
theorem LR {y:R}{ys:List R}:∀{r:List R},(∀v∈r,Sp (y::ys) v)→(∀v∈r,Sp ys v)∨∃r':List R,r'.length+1=r.length∧(∀v∈r',Sp ys v)∧PK r' r
 |[],_=>.inl fun v hv=>(by cases hv)
 |x::r,hr=>by
  obtain⟨c,z,hz,hx⟩:=(hr x (List.mem_cons_self ..)).cons
  by_cases h0:c=0
  ·have hxs:Sp ys x:=by rw[hx,h0,zero_mul,zero_add];exact hz
   rcases LR (r:=r) (fun v hv=>hr v (List.mem_cons_of_mem _ hv))with h|⟨r',h1,h2,h3⟩
   ·refine .inl fun v hv=>?_
    rcases List.mem_cons.1 hv with rfl|hv
    ·exact hxs
    exact h v hv
   refine .inr ⟨x::r',by simp[h1],fun v hv=>?_,fun l hl=>?_⟩
   ·rcases List.mem_cons.1 hv with rfl|hv
    ·exact hxs
    exact h2 v hv
   match l,hl with
   |a::l,hl=>
    obtain⟨m,hm,he,hm0⟩:=h3 l (by simpa using hl);refine⟨a::m,by simp[hm],?_,fun h w hw=>?_⟩
    ·show q a*x+dot m r=q a*x+dot l r';rw[he]
    rcases List.mem_cons.1 hw with rfl|hw
    ·exact h _ (List.mem_cons_self ..)
    exact hm0 (fun x hx=>h x (List.mem_cons_of_mem _ hx)) w hw
  obtain⟨r',h1,h2,h3,_⟩:=free h0 hz hx (r:=r) (fun v hv=>hr v (List.mem_cons_of_mem _ hv));exact .inr ⟨r',by simp[h1],h2,h3⟩
theorem Io:∀{ys r:List R},(∀v∈r,Sp ys v)→ys.length<r.length→∃l:List Rat,l.length=r.length∧dot l r=q 0∧¬∀x∈l,x=0
 |[],r,hr,h=>by
  match r,h with
  |x::r,_=>
   have hx:x=q 0:=by
    obtain⟨c,hc,e⟩:=hr x (List.mem_cons_self ..);obtain rfl:c=[]:=List.length_eq_zero_iff.1 hc;exact e.symm
   have z:∀r:List R,dot (r.map fun _=>(0:Rat)) r=q 0:=by
    intro r
    induction r with
    |nil=>rfl
    |cons y r ih=>show q 0*y+dot (r.map fun _=>(0:Rat)) r=q 0;rw[ih,zero_mul,zero_add]
   refine⟨1::r.map fun _=>0,by simp,?_,fun h=>absurd (h 1 (List.mem_cons_self ..)) (by decide)⟩;show q 1*x+dot (r.map fun _=>(0:Rat)) r=q 0;rw[z,hx,mul_zero,zero_add]
 |y::ys,r,hr,h=>by
  have go:∀r':List R,(∀v∈r',Sp ys v)→ys.length<r'.length→PK r' r→∃l:List Rat,l.length=r.length∧dot l r=q 0∧¬∀x∈l,x=0:=by
   intro r' h1 h2 h3;obtain⟨l,hl,e,n⟩:=Io h1 h2;obtain⟨m,hm,e2,n2⟩:=h3 l hl;exact⟨m,hm,e2.trans e,fun h=>n (n2 h)⟩
  rcases LR hr with k|⟨r',h1,h2,h3⟩
  ·exact go r k (by simp only[List.length_cons]at h;omega) fun l hl=>⟨l,hl,rfl,id⟩
  exact go r' h2 (by simp only[List.length_cons]at h;omega) h3
theorem HE {m n:Nat}(h:m<n){t u:List El}(D:Rd n t)(hin:∀x,In n t x→In m u x):False:=by
 obtain⟨l,hl,e,n0⟩:=Io (ys:=Lj m u) (r:=Lj n t) (fun v hv=>by
  obtain⟨c,hc,e⟩:=hin v (BK hv);exact⟨c,by rw[hc,nI],by rw[←e,sJ hc]⟩) (by rw[nI,nI];exact Nat.pow_lt_pow_right (by decide) h)
 have hl:l.length=2^n:=by rw[hl,nI]
 rw[←sJ hl]at e;rw[mG D hl e]at n0;exact n0 fun x hx=>List.eq_of_mem_replicate hx
end Go.Tw
/-
  How long the coefficients of images are.
-/
namespace Go.Tw
open Go Go.R Go.Eng
theorem QB.bits {B:Nat}{a:El}(h:QB B a):iC (32*B) a:=fun c hc=>by
 have h1:=h c hc;unfold qm at h1;have key:∀n,nl n≤B→n≤2^(32*B):=fun n hn=>by
  have:=cB n
  have h2:BB^nl n≤BB^B:=Nat.pow_le_pow_right (by decide) hn;have h3:BB^B=2^(32*B):=by rw[show BB=2^32 from rfl,←Nat.pow_mul]
  omega
 exact⟨key _ (by unfold zn at h1;omega),key _ (by omega)⟩
section
variable {A:List R}{u T rs:List El}{K:Nat}
theorem Ext.sh (E:Ext A u K T rs){i:Nat}(hi:i<K):In T.length T (R.sqrt (val i u (u.getD i []))):=by
 obtain⟨m,hm,hl,hv⟩:=E.root i hi;rw[←hv];exact(In.of hl).le hm
theorem Ext.num (E:Ext A u K T rs)(hu:∀i,i<K→val i u (u.getD i [])∈A){j:Nat}(hj:j≤K){b:El}{B:Nat}(hb:b.length=2^j)(hB:iC B b):
  ax A T (a8 T.length T rs j b) (val j u b) ((B+1)*2^j) (2^j):=
 ⟨E.tg,a5,kN E hj hb,fun c=>(Sz.expr (c:=c) hb hB (fun i hi=>.gen ⟨⟨_,hu i (by omega),rfl⟩,E.sh (by omega),rfl⟩)).mono (by have:=xL (B:=B) (c:=c) j;omega)⟩
theorem QB.G4 {B H:Nat}{a:El}(h:QB B (cE H a)):QB B a:=fun c hc=>h c (List.mem_append_left _ hc)
theorem Ext.zl (E:Ext A u K T rs)(hu:∀i,i<K→val i u (u.getD i [])∈A){i:Nat}(hi:i<K):ax A T (cE T.length (rs.getD i [])) (R.sqrt (val i u (u.getD i []))) 0 1:=by
 obtain⟨m,hm,hl,hv⟩:=E.root i hi;exact⟨E.tg,bC (by rw[hl];exact Nat.pow_le_pow_right (by decide) hm),by rw[sr hl hm,hv],mW.root (hu i hi) (E.sh hi)⟩
theorem lI {h β μ β' μ':Nat}(h1:β≤β')(h2:μ≤μ'):qN h β μ≤qN h β' μ':=by
 unfold qN;have h3:μ*Aq h≤μ'*Aq h:=Nat.mul_le_mul_right _ h2;have h4:2^h*(β+μ*Aq h+cW)≤2^h*(β'+μ'*Aq h+cW):=Nat.mul_le_mul_left _ (by omega);omega
def yX:Nat:=2^24
theorem OJ:∀H,H≤3→qN H ((32*tB+1)*2^2) (2^2)≤yX∧qN H 0 1≤yX:=by
 intro h hh
 match h,hh with
 |0,_=>decide+kernel
 |1,_=>decide+kernel
 |2,_=>decide+kernel
 |3,_=>decide+kernel
theorem Ext.qb (S:Src 64 A)(hA:A.length≤3)(E:Ext A u K T rs)(hu:∀i,i<K→val i u (u.getD i [])∈A){j:Nat}(hj:j≤K)(h2:j≤2){b:El}(hb:b.length=2^j)(hB:QB tB b):QB yX (a8 T.length T rs j b):=by
 have hp:2^j≤2^2:=Nat.pow_le_pow_right (by decide) h2;exact(((E.num hu hj hb hB.bits).mono (Nat.mul_le_mul_left _ hp) hp).qb S hA).mono (OJ _ (E.tg.j6 S hA)).1
theorem Ext.KK (S:Src 64 A)(hA:A.length≤3)(E:Ext A u K T rs)(hu:∀i,i<K→val i u (u.getD i [])∈A){i:Nat}(hi:i<K):QB yX (rs.getD i []):=
 QB.G4 (((E.zl hu hi).qb S hA).mono (OJ _ (E.tg.j6 S hA)).2)
end
theorem chain {α:Type}{I:Nat→α→Prop}{St:Nat→α→α→Prop}{x0:α}(h0:I 0 x0):∀{n:Nat} (_:∀i x,i<n→I i x→∃y,St i x y∧I (i+1) y),
  ∃s:Nat→α,s 0=x0∧(∀i,i≤n→I i (s i))∧∀i,i<n→St i (s i) (s (i+1))
 |0,_=>⟨fun _=>x0,rfl,fun i hi=>by
                       obtain rfl:i=0:=by omega
                       exact h0,fun i hi=>absurd hi (Nat.not_lt_zero _)⟩
 |n+1,h=>by
  obtain⟨s,e0,h1,h2⟩:=chain h0 (n:=n) (fun i x hi=>h i x (by omega));obtain⟨y,hy,hI⟩:=h n (s n) (by omega) (h1 n (Nat.le_refl n));refine⟨fun j=>if j≤n then s j else y,by simp[e0],fun i hi=>?_,fun i hi=>?_⟩
  ·by_cases k:i≤n
   ·simp only[if_pos k];exact h1 i k
   obtain rfl:i=n+1:=by omega
   simp only[if_neg k];exact hI
  by_cases k:i+1≤n
  ·simp only[if_pos k,if_pos (show i≤n by omega)];exact h2 i (by omega)
  obtain rfl:i=n:=by omega
  simp only[if_neg k,if_pos (Nat.le_refl i)];exact hy
end Go.Tw
namespace Go.Proofs.YtgcmkdgpaibpeaaGreat
open Go.Proofs.Tryz
open Go Go.Eng
open Go.Tw (El aC aJ zE ai au QB mS tB val In Rd nW TG cE bC a8 a5 Ext jK yX)
theorem jU (rn:List (Nat×Option Nat)){e e':List (Nat×V)}{o o':List (Nat×ft)}{x x' n:Nat}(h:(rU rn 0=some 0∧0<x')∧Y0 rn x' e e'∧Y4 rn x' o o'∧Y6 rn o'):Sub ⟨e,o,x,n⟩ ⟨e',o',x',n⟩:=
 Sub.of rn h.1 rfl h.2.1 h.2.2.1 h.2.2.2
def I7 (A:List R)(t u:List El)(i:Nat)(x:List El×List El):Prop:=(∃s,x.1=t++s)∧Ext A u i x.1 x.2∧((∀j,j<i→In t.length t (R.sqrt (val j u (u.getD j []))))→x.1=t)
def PS (f g:FuncId)(u:List El)(i:Nat)(x y:List El×List El):Prop:=
 ∃e w,Mc prog f [oM x.1.length x.1 i,eV (u.getD i [])] (rB i x.2) (L1 x.2 i (eV e))∧Pr prog g [tV x.1.length x.1,eV e] (.aA [tV y.1.length y.1,eV w,.one (.int .i64 0)])∧y.2=x.2++[w]
section
variable {A:List R}(S:Go.Tw.Src 64 A)(hA:A.length≤3){t u:List El}
include S hA
theorem lR (G:TG A t):TQ t.length t:=(vZ S hA G (Nat.le_refl _)).rq.tq
theorem FC (G:TG A u){k:Nat}{U rs:List El}(E:Ext A u k U rs)(hk:k≤u.length):Fl tB yX yX U.length k U rs:=by
 have h3:=G.j6 S hA;have hu:∀i,i<k→val i u (u.getD i [])∈A:=fun i hi=>G.mem i (by omega);refine⟨lR S hA E.tg,by decide,by decide,by decide,fun j hj b hb hq=>E.qb S hA hu (by omega) (by omega) hb hq,fun i hi=>?_,lv (E.tg.j6 S hA) (by decide)⟩;obtain⟨m,h1,h2,_⟩:=E.root i hi;exact⟨⟨m,h1,h2⟩,E.KK S hA hu hi⟩
theorem Hj (G:TG A t)(Gu:TG A u):∃s:Nat→List El×List El,s 0=(t,[])∧(∀i,i≤u.length→I7 A t u i (s i))∧
  ∀i,i<u.length→PS 133 169 u i (s i) (s (i+1)):=by
 have h3:=Gu.j6 S hA;refine Go.Tw.chain (I:=I7 A t u) ⟨⟨[],(List.append_nil t).symm⟩,⟨G,rfl,fun i hi=>absurd hi (Nat.not_lt_zero _)⟩,fun _=>rfl⟩ fun i x hi hx=>?_;obtain⟨U,rs⟩:=x;obtain⟨⟨s,hs⟩,E,hall⟩:=hx;have hs:U=t++s:=hs;have E:Ext A u i U rs:=E;have lu:=(Gu.rd.rl i hi).1;have ci:=my E.len (FC S hA Gu E (by omega)) (by rw[E.len];exact Nat.le_refl _) (by omega) lu (Gu.qb S hA hi);have le:(a8 U.length U rs i (u.getD i [])).length=2^U.length:=a5;have ve:=Go.Tw.kN E (Nat.le_refl _) lu;have hm:val U.length U (a8 U.length U rs i (u.getD i []))∈A:=by rw[ve];exact Gu.mem i hi
 have hp:R.pos (val U.length U (a8 U.length U rs i (u.getD i []))):=by rw[ve];exact(Gu.rd.rl i hi).2
 have rb:=E.tg.Qa S hA le hm hp
 rcases zy S hA E.tg le (R.bx.2 (.inr hp)) rb with⟨w,lw,vw,cw⟩|⟨no,c⟩
 ·refine⟨(U,rs++[w]),⟨_,w,ci,cw,rfl⟩,⟨s,hs⟩,?_,fun h=>hall fun j hj=>h j (by omega)⟩
  have:=E.up (S:=[]) (r:=w) (m:=U.length) (by rw[List.append_nil];exact E.tg) (by rw[List.append_nil];exact Nat.le_refl _) lw (by rw[List.append_nil,vw,ve])
  rwa [List.append_nil]at this
 have G':=E.tg.snoc le hm hp no;have hl:(U++[a8 U.length U rs i (u.getD i [])]).length=U.length+1:=by simp
 refine⟨(U++[a8 U.length U rs i (u.getD i [])],rs++[Go.Tw.dK U.length]),⟨_,Go.Tw.dK U.length,ci,?_,rfl⟩,⟨s++[a8 U.length U rs i (u.getD i [])],by rw[hs,List.append_assoc]⟩,?_,fun h=>?_⟩
 ·show Pr _ _ _ (.aA [tV (U++[a8 U.length U rs i (u.getD i [])]).length _,_,_]);rw[hl];exact c
 ·exact E.up G' (m:=U.length+1) (by rw[hl];exact Nat.le_refl _) Go.Tw.kv (by rw[Go.Tw.qy,ve])
 have eU:U=t:=hall fun j hj=>h j (by omega);have hin:=h i (by omega);rw[←eU]at hin;refine absurd ?_ (no _ hin);rw[ve];exact R.dN (R.bx.2 (.inr (Gu.rd.rl i hi).2))
theorem jZ (G:TG A t)(Gu:TG A u):∃U rs s,U=t++s∧Ext A u u.length U rs∧((∀j,j<u.length→In t.length t (R.sqrt (val j u (u.getD j []))))→U=t)∧Pr prog 132 [tV t.length t,tV u.length u] (.aA [eM U.length U rs,.one (.int .i64 0)]):=by
 obtain⟨s,e0,hI,hS⟩:=Hj S hA G Gu;have h3:=Gu.j6 S hA;obtain⟨⟨z,hz⟩,E,hall⟩:=hI u.length (Nat.le_refl _);refine⟨(s u.length).1,(s u.length).2,z,hz,E,hall,?_⟩;have hl:∀i,i≤u.length→(s i).2.length=i:=fun i hi=>(hI i hi).2.1.len;have h3':∀i,i≤u.length→(s i).1.length≤3:=fun i hi=>(hI i hi).2.1.tg.j6 S hA;have e1:(s 0).1=t:=by rw[e0]
 rw[←e1];clear e0 e1 hI hz E hall;obtain⟨n,hn⟩:∃n,n=u.length:=⟨_,rfl⟩;rw[←hn]at hS h3 hl h3'⊢;rw[show eM (s n).1.length (s n).1 (s n).2= .agg [tC (s n).1.length (s n).1,tC n (s n).2] by unfold eM;rw[hl n (Nat.le_refl n)]];refine pw func132 ⟨[0,1,4,5,6,8,9,10,11,14,15,16,17,31],[(5,(.cons 4 [0,1] (.cons 5 [] (.cons 6 [] (.cons 7 [] (.cons 8 [] (.cons 9 [] (.cons 10 [] (.cons 11 [] (.cons 12 [] .nil .nil) .nil) .nil) (.cons 10 [] (.cons 9 [] (.cons 11 [] (.cons 12 [] .nil .nil) .nil) (.cons 11 [] (.cons 9 [] (.cons 12 [] .nil .nil) .nil) .nil)) .nil)) (.cons 9 [] (.cons 8 [] (.cons 10 [] (.cons 11 [] (.cons 12 [] .nil .nil) .nil) .nil) (.cons 10 [] (.cons 8 [] (.cons 11 [] (.cons 12 [] .nil .nil) .nil) .nil) .nil)) (.cons 10 [] (.cons 8 [] (.cons 9 [] (.cons 11 [] (.cons 12 [] .nil .nil) .nil) (.cons 11 [] (.cons 9 [] (.cons 12 [] .nil .nil) .nil) .nil)) (.cons 9 [] (.cons 8 [] (.cons 11 [] (.cons 12 [] .nil .nil) .nil) .nil) .nil)) .nil))) (.cons 8 [] (.cons 7 [] (.cons 9 [] (.cons 10 [] (.cons 11 [] (.cons 12 [] .nil .nil) .nil) .nil) (.cons 10 [] (.cons 9 [] (.cons 11 [] (.cons 12 [] .nil .nil) .nil) (.cons 11 [] (.cons 9 [] (.cons 12 [] .nil .nil) .nil) .nil)) .nil)) (.cons 9 [] (.cons 7 [] (.cons 10 [] (.cons 11 [] (.cons 12 [] .nil .nil) .nil) .nil) .nil) .nil)) (.cons 9 [] (.cons 7 [] (.cons 8 [] (.cons 10 [] (.cons 11 [] (.cons 12 [] .nil .nil) .nil) .nil) (.cons 10 [] (.cons 8 [] (.cons 11 [] (.cons 12 [] .nil .nil) .nil) .nil) .nil)) (.cons 8 [] (.cons 7 [] (.cons 10 [] (.cons 11 [] (.cons 12 [] .nil .nil) .nil) .nil) .nil) .nil)) .nil))) .nil) .nil) .nil))]⟩ ?_;simp only[Tryz.f132,ntmps132,iz,seval];simp only[vx,T,seval,eM,tV,tC,eV,aa];refine Lk (fun y:{i:Nat//i≤n}=>⟨[(4,.one (.ptr 1 0)),(5,.one (.int .i64 0)),(6,.one (.ptr 2 0)),(14,tV n u),(15,.one (.int .i64 n)),(16,.one (.int .i64 y.1))],[(1,⟨.var [.nil,.nil],true⟩),(2,⟨.var [tC (s y.1).1.length (s y.1).1,.own 3 1 0 y.1],true⟩),(3,⟨.rows 50 1 y.1 (fun j _=>aa ((s y.1).2.getD j [])),true⟩)],4,44⟩) (fun y=>n-y.1) ⟨0,Nat.zero_le _⟩ ?_ (fun⟨i,hi⟩=>?_)
 ·refine jU [(1,some 1),(2,some 5),(3,none)] ?_;simp only[ry,seval,tV,tC,eV,aa,X4]
 simp only;have wi:IntKind.i64.wrap ((i:Int)+1)=((i+1:Nat):Int):=by rw[IntWalk.i64_in _ (by omega)];omega
 simp only[vx,T,seval,tV,tC,eV,aa,wi];refine⟨fun g=>Lg ?_,fun g=>Lg ?_⟩
 ·have hil:i<n:=by omega
  obtain⟨e,w,ci,ca,er⟩:=hS i hil;have hli:=hl i hi;have h3i:=h3' i hi;obtain⟨v,hv⟩:∃v,v=u.getD i []:=⟨_,rfl⟩;rw[←hv]at ci;obtain⟨U,hU⟩:∃U,U=(s i).1:=⟨_,rfl⟩;obtain⟨rs,hrs⟩:∃rs,rs=(s i).2:=⟨_,rfl⟩;rw[←hrs]at er hli;rw[←hU,←hrs]at ci;rw[←hU]at ca h3i;rw[←hU,←hrs];simp only[vx,T,seval,tV,tC,eV,aa,←hv];refine⟨⟨by omega,by omega⟩,Cm 3 (B:=rB i rs) rfl trivial ci ?_⟩;rintro _ _ ⟨rfl,rfl⟩ _;simp only[vx,T,seval,rB,oM,tV,tC,eV,aa,←hv];refine Cg ca ?_;simp only[vx,T,seval,rB,oM,tV,tC,eV,aa,←hv,wi];have es:(s (i+1)).2=rs++[w]:=er;have e1:∀j,j<i→(rs++[w]).getD j []=rs.getD j []:=fun j hj=>Go.Tw.dy (by omega);have e2:(rs++[w]).getD i []=w:=by rw[←hli];exact Go.Tw.gg
  repeat' (with_reducible refine And.intro ?_ ?_)
  all_goals first|omega|(refine Lq ⟨i+1,by omega⟩ ?_ (by show n-(i+1)<n-i;omega))
  all_goals
   refine jU [(1,some 1),(2,some 2),(3,some 36)] ?_;simp only[ry,seval,tV,tC,eV,aa];rw[es];intro k j hk hj;obtain rfl:j=0:=by omega
   by_cases hki:k<i
   ·rw[if_pos hki,e1 k hki]
   obtain rfl:k=i:=by omega
   rw[if_neg hki,e2,Nat.sub_self];rfl
 have hil:i=n:=by omega
 subst hil;simp only[vx,T,seval,tV,tC,eV,aa,wi];exact Ve rfl
end
open Go Go.Eng
open Go.Tw (El aC aJ zE ai au QB mS tB val In Rd nW TG cE bC a8 a5 Ext jK yX)
def bu (x:List El×El):Nat→C
 |0=>tC x.1.length x.1
 |1=>aa x.2
 |_=>.any
def fg (l:List (List El×El))(i:Nat):Nat→C:=bu (l.getD i default)
def bR (l:List (List El×El)):C:=.rows 2 l.length (fg l)
def nX (x:List El×El):V:=nV x.1.length x.1 x.2
theorem rQ {h:Nat}{t:List El}{a:El}(tk:Tk h t)(ha:a.length<2^38)(hq:Qk a):Pr prog 70 [nV h t a] (nV h t a):=by
 have h8:=tk.le8;have c:=(nY a ha hq).rows;have d:∀i,i<h→Pr prog 103 [eV (t.getD i [])] (.one (.rows 4 (t.getD i []).length (fQ (t.getD i [])))):=fun i hi=>
  (nY _ (by rw[tk.len i hi];exact aN (by omega)) (tk.q i hi)).rows
 refine pw func70 ⟨[0,1,2,3,5,11,12,13,14],[]⟩ ?_;simp only[Tryz.f70,ntmps70,iz,seval];simp only[vx,T,seval,nV,tC,eV,aa];refine Cg c ?_;simp only[vx,T,seval,nV,tC,eV,aa];refine Lk (fun y:{i:Nat//i≤h}=>⟨[(1,.one (.ptr 1 0)),(2,.one (.ptr 2 0)),(3,.one (.ptr 7 0)),(11,tV h t),(12,.one (.int .i64 h)),(13,.one (.int .i64 y.1))],[(1,⟨.var [tC h t,aa a],true⟩),(2,⟨.var [.nil,.nil],true⟩),(7,⟨.var [.own 8 1 0 y.1,aa a],true⟩),(8,⟨.rows 50 1 y.1 (fun j _=>aa (t.getD j [])),true⟩)],12,26⟩) (fun y=>h-y.1) ⟨0,Nat.zero_le _⟩ ?_ (fun⟨i,hi⟩=>?_)
 ·refine jU [(1,some 1),(2,some 2),(7,some 7),(8,none)] ?_;simp only[ry,seval,nV,tV,tC,eV,aa,X4];exact fun _ _ _ _=>rfl
 simp only;have wi:IntKind.i64.wrap ((i:Int)+1)=((i+1:Nat):Int):=by rw[IntWalk.i64_in _ (by omega)];omega
 simp only[vx,T,seval,tV,tC,eV,aa,wi];refine⟨fun g=>Lg ?_,fun g=>Lg ?_⟩
 ·have di:=d i (by omega);obtain⟨v,hv⟩:∃v,v=t.getD i []:=⟨_,rfl⟩;rw[←hv]at di;simp only[vx,T,seval,tV,tC,eV,aa,←hv,wi];refine⟨by omega,Cg di ?_⟩;simp only[vx,T,seval,tV,tC,eV,aa,←hv,wi];refine⟨⟨by omega,by omega⟩,Lq ⟨i+1,by omega⟩ ?_ (by show h-(i+1)<h-i;omega)⟩;refine jU [(1,some 1),(2,some 2),(7,some 7),(8,some 24)] ?_;simp only[ry,seval,tV,tC,eV,aa];intro k j hk hj;obtain rfl:j=0:=by omega
  by_cases hki:k<i
  ·rw[if_pos hki]
  obtain rfl:k=i:=by omega
  rw[if_neg hki,Nat.sub_self,←hv];rfl
 have hil:i=h:=by omega
 subst hil;simp only[vx,T,seval,tV,tC,eV,aa,wi];exact Ve rfl
def wF (t x t':List El):Prop:=
 (eY t.length x.length t x=true∧t'=t)∨(eY t.length x.length t x=false∧eY x.length t.length x t=true∧t'=x)∨
 (eY t.length x.length t x=false∧eY x.length t.length x t=false∧∃rs,Pr prog 132 [tV t.length t,tV x.length x] (.aA [eM t'.length t' rs,.one (.int .i64 0)]))
theorem rJ (l:List (List El×El))(hl:l.length<2^30)(tt:Nat→List El)(h0:tt 0=[])(tk:∀i,i≤l.length→Tk (tt i).length (tt i))(xk:∀i,i<l.length→Tk (l.getD i default).1.length (l.getD i default).1)
  (st:∀i,i<l.length→wF (tt i) (l.getD i default).1 (tt (i+1))):Pr prog 129 [.one (bR l)] (.aA [tV (tt l.length).length (tt l.length),.one (.int .i64 0)]):=by
 have e0:(tt 0).length=0:=by rw[h0];rfl
 refine pw func129 ⟨[0,2,3,4,6,7,8,9,10,11,12,23,27,32],[]⟩ ?_;simp only[Tryz.f129,ntmps129,iz,seval];simp only[vx,T,seval,bR];refine Lk (fun y:{i:Nat//i≤l.length}=>⟨[(2,.one .nil),(3,.one (.int .i64 0)),(4,tV (tt y.1).length (tt y.1)),(9,.one (bR l)),(10,.one (.int .i64 l.length)),(11,.one (.int .i64 y.1))],[],1,41⟩) (fun y=>l.length-y.1) ⟨0,Nat.zero_le _⟩ ?_ (fun⟨i,hi⟩=>?_)
 ·refine Sa ?_;simp only[ry,seval,rz,bR,tV,tC,e0]
 simp only;have wi:IntKind.i64.wrap ((i:Int)+1)=((i+1:Nat):Int):=by rw[IntWalk.i64_in _ (by omega)];omega
 simp only[vx,T,seval,bR,tV,tC,wi];refine⟨fun g=>Lg ?_,fun g=>Lg ?_⟩
 ·have hil:i<l.length:=by omega
  have sti:=st i hil;have b1:=lZ (tk i hi) (xk i hil);have b2:=lZ (xk i hil) (tk i hi);obtain⟨x,hx⟩:∃x,x=l.getD i default:=⟨_,rfl⟩;rw[←hx]at sti b1 b2;obtain⟨t,ht⟩:∃t,t=tt i:=⟨_,rfl⟩;rw[←ht]at sti b1 b2;obtain⟨t',ht'⟩:∃t',t'=tt (i+1):=⟨_,rfl⟩;rw[←ht']at sti;rw[←ht]
  rcases sti with⟨g1,e⟩|⟨g1,g2,e⟩|⟨g1,g2,rs,c⟩
  ·rw[g1]at b1;simp only[vx,T,seval,bR,fg,bu,tV,tC,←hx,wi];refine⟨by omega,Cg b1 ?_⟩;simp only[vx,T,seval,bR,fg,bu,tV,tC,←hx,wi];refine Lq ⟨i+1,by omega⟩ ?_ (by show l.length-(i+1)<l.length-i;omega);refine Sa ?_;simp only[ry,seval,rz,bR,tV,tC,←ht',e]
  ·rw[g1]at b1;rw[g2]at b2;simp only[vx,T,seval,bR,fg,bu,tV,tC,←hx,wi];refine⟨by omega,Cg b1 ?_⟩;simp only[vx,T,seval,bR,fg,bu,tV,tC,←hx,wi];refine Cg b2 ?_;simp only[vx,T,seval,bR,fg,bu,tV,tC,←hx,wi];refine Lq ⟨i+1,by omega⟩ ?_ (by show l.length-(i+1)<l.length-i;omega);refine Sa ?_;simp only[ry,seval,rz,bR,tV,tC,←ht',e]
  rw[g1]at b1;rw[g2]at b2;simp only[vx,T,seval,bR,fg,bu,tV,tC,←hx,wi];refine⟨by omega,Cg b1 ?_⟩;simp only[vx,T,seval,bR,fg,bu,tV,tC,←hx,wi];refine Cg b2 ?_;simp only[vx,T,seval,bR,fg,bu,tV,tC,←hx,wi];refine Cg c ?_;simp only[vx,T,seval,bR,fg,bu,tV,tC,eM,←hx,wi];refine Lq ⟨i+1,by omega⟩ ?_ (by show l.length-(i+1)<l.length-i;omega);refine Sa ?_;simp only[ry,seval,rz,bR,tV,tC,←ht']
 have hil:i=l.length:=by omega
 subst hil;simp only[vx,T,seval,bR,tV,tC,wi];exact Ve rfl
def wu (T':List El)(x:List El×El)(e:El):Prop:=
 (eY T'.length x.1.length T' x.1=true∧Pr prog 131 [tV T'.length T',eV x.2] (eV e))∨
 (eY T'.length x.1.length T' x.1=false∧∃U rs,Pr prog 132 [tV T'.length T',tV x.1.length x.1] (.aA [eM U.length U rs,.one (.int .i64 0)])∧Pr prog 133 [eM U.length U rs,eV x.2] (eV e))
theorem uf {ks:List (List El×El)}{k:Nat}(hk:ks.length=k)(x:List El×El):∀(i j:Nat),i<k+1→j<2→
  (if i<k then fg ks i j else[tC x.1.length x.1,aa x.2].getD ((i-k)*2+j) C.any)=fg (ks++[x]) i j:=by
 subst hk;intro i j hi hj
 by_cases h:i<ks.length
 ·rw[if_pos h];unfold fg;rw[X7,X7,List.getElem?_append_left h]
 have:i=ks.length:=by omega
 subst this;have e:(ks++[x]).getD ks.length default=x:=by rw[X7,List.getElem?_append_right (Nat.le_refl _),Nat.sub_self];rfl
 rw[if_neg h,Nat.sub_self,Nat.zero_mul,Nat.zero_add];unfold fg;rw[e]
 match j,hj with
 |0,_=>rfl
 |1,_=>rfl
theorem ue (l os:List (List El×El))(hl:l.length<2^30)(hos:os.length=l.length)(U:List El)(uk:Tk U.length U)(xk:∀i,i<l.length→Tk (l.getD i default).1.length (l.getD i default).1)
  (cm:Pr prog 129 [.one (bR l)] (.aA [tV U.length U,.one (.int .i64 0)]))
  (st:∀i,i<l.length→(os.getD i default).1=U∧(os.getD i default).2.length<2^38∧Qk (os.getD i default).2∧wu U (l.getD i default) (os.getD i default).2):
  dI prog 93 [.one (bR l)] (.rows 52 2 os.length (fg os)) (.int .i64 0):=by
 have u8:=uk.le8;refine tw func93 ⟨[0,2,3,4,5,6,8,9,10,11,18,20,21,22,23,31,45],[]⟩ ?_;simp only[Tryz.f93,ntmps93,iz,seval];simp only[vx,T,seval,bR];refine Cg cm ?_;simp only[vx,T,seval,bR,tV,tC];refine Lk (fun y:{i:Nat//i≤l.length}=>⟨[(2,.one .nil),(3,.one (.int .i64 0)),(4,tV U.length U),(6,.one (.own 1 2 0 y.1)),(20,.one (bR l)),(21,.one (.int .i64 l.length)),(22,.one (.int .i64 y.1))],[(1,⟨.rows 52 2 y.1 (fg (os.take y.1)),true⟩)],16,59⟩) (fun y=>l.length-y.1) ⟨0,Nat.zero_le _⟩ ?_ (fun⟨i,hi⟩=>?_)
 ·refine Sa ?_;simp only[ry,seval,rz,bR,tV,tC]
 simp only;have wi:IntKind.i64.wrap ((i:Int)+1)=((i+1:Nat):Int):=by rw[IntWalk.i64_in _ (by omega)];omega
 simp only[vx,T,seval,bR,tV,tC,wi];refine⟨fun g=>Lg ?_,fun g=>Lg ?_⟩
 ·have hil:i<l.length:=by omega
  obtain⟨s1,s2,s3,sj⟩:=st i hil;have b1:=lZ uk (xk i hil);have hst:os.take (i+1)=os.take i++[os.getD i default]:=by rw[List.take_add_one,X7,X8 (by omega)];rfl
  have htl:(os.take i).length=i:=by rw[X5];omega
  have sn:=uf htl (os.getD i default);rw[←hst]at sn;obtain⟨x,hx⟩:∃x,x=l.getD i default:=⟨_,rfl⟩;rw[←hx]at sj b1;obtain⟨o,ho⟩:∃o,o=os.getD i default:=⟨_,rfl⟩;rw[←ho]at s1 s2 s3 sj sn;have dt:=rQ uk s2 s3;rw[s1]at sn
  rcases sj with⟨g1,c⟩|⟨g1,V,rs,c,d⟩
  ·rw[g1]at b1;simp only[vx,T,seval,bR,fg,bu,tV,tC,←hx,wi];refine⟨by omega,Cg b1 ?_⟩;simp only[vx,T,seval,bR,fg,bu,tV,tC,←hx,wi];refine Cg c ?_;simp only[vx,T,seval,bR,fg,bu,tV,tC,eV,aa,←hx,wi];refine Cg dt ?_;simp only[vx,T,seval,bR,nV,tV,tC,eV,aa,wi];refine⟨⟨by omega,by omega⟩,Lq ⟨i+1,by omega⟩ ?_ (by show l.length-(i+1)<l.length-i;omega)⟩;refine Sa ?_;simp only[ry,seval,rz,bR,tV,tC,aa];exact sn
  rw[g1]at b1;simp only[vx,T,seval,bR,fg,bu,tV,tC,←hx,wi];refine⟨by omega,Cg b1 ?_⟩;simp only[vx,T,seval,bR,fg,bu,tV,tC,←hx,wi];refine Cg c ?_;simp only[vx,T,seval,bR,fg,bu,tV,tC,eV,aa,eM,←hx,wi];refine Cg d ?_;simp only[vx,T,seval,bR,fg,bu,tV,tC,eV,aa,←hx,wi];refine Cg dt ?_;simp only[vx,T,seval,bR,nV,tV,tC,eV,aa,wi];refine⟨⟨by omega,by omega⟩,Lq ⟨i+1,by omega⟩ ?_ (by show l.length-(i+1)<l.length-i;omega)⟩;refine Sa ?_;simp only[ry,seval,rz,bR,tV,tC,aa];exact sn
 have hil:i=l.length:=by omega
 subst hil;have e:os.take l.length=os:=by rw[←hos,List.take_length]
 simp only[vx,T,seval,bR,tV,tC,wi,e];exact⟨hos.symm,rfl,hos.symm,fun _ _ _ _=>rfl⟩
theorem Eo (l os:List (List El×El))(hl:l.length<2^30)(hos:os.length=l.length)(U:List El)(uk:Tk U.length U)(xk:∀i,i<l.length→Tk (l.getD i default).1.length (l.getD i default).1)
  (cm:Pr prog 129 [.one (bR l)] (.aA [tV U.length U,.one (.int .i64 0)]))
  (st:∀i,i<l.length→(os.getD i default).1=U∧(os.getD i default).2.length<2^38∧Qk (os.getD i default).2∧wu U (l.getD i default) (os.getD i default).2):
  Pr prog 93 [.one (bR l)] (.aA [.one (bR os),.one (.int .i64 0)]):=(ue l os hl hos U uk xk cm st).rows
open Go Go.Eng
open Go.Tw (El)
abbrev Nb:=List El×El
def ak (n:Nat)(r:Nat→Nb):C:=.rows 2 n (fun i=>bu (r i))
def aq (r:Nat)(c:Nat→Nat)(m:Nat→Nat→Nb):C:=.rows 1 r (fun i _=>ak (c i) (m i))
theorem vF (f:Nat→Nb)(k:Nat):∀(i j:Nat),i<k+1→j<2→(if i<k then bu (f i) j else[tC (f k).1.length (f k).1,aa (f k).2].getD ((i-k)*2+j) C.any)=bu (f i) j:=by
 intro i j hi hj
 by_cases h:i<k
 ·rw[if_pos h]
 obtain rfl:i=k:=by omega
 rw[if_neg h,Nat.sub_self,Nat.zero_mul,Nat.zero_add]
 match j,hj with
 |0,_=>rfl
 |1,_=>rfl
theorem Am (F:Nat→C)(k:Nat):∀(i j:Nat),i<k+1→j<1→(if i<k then F i else[F k].getD ((i-k)*1+j) C.any)=F i:=by
 intro i j hi hj
 by_cases h:i<k
 ·rw[if_pos h]
 obtain rfl:i=k:=by omega
 obtain rfl:j=0:=by omega
 rw[if_neg h,Nat.sub_self];rfl
theorem I2 {n m:Nat}(a b:Nat→Nb)(hn:n<2^38)(e:Nat→Bool)(h:n=m→∀i,i<n→Pr prog 48 [nX (a i),nX (b i)] (.one (.bool (e i)))){r:Bool}(hr:r=true↔n=m∧∀i,i<n→e i=true):Pr prog 25 [.one (ak n a),.one (ak m b)] (.one (.bool r)):=by
 refine pw func25 ⟨[0,1,4,5,10,14,26],[]⟩ ?_;simp only[Tryz.f25,ntmps25,iz,seval];simp only[vx,T,seval,ak];refine⟨fun g0=>Lg ?_,fun g0=>Lg ?_⟩
 ·have hb:r=false:=Bool.eq_false_iff.2 fun h=>g0 (by have:=(hr.1 h).1;omega);subst hb;simp only[vx,T,seval];exact Ve rfl
 have hnm:n=m:=by omega
 simp only[vx,T,seval,ak];refine Lk (fun y:{i:Nat//i≤n∧∀j,j<i→e j=true}=>⟨[(0,.one (ak n a)),(1,.one (ak m b)),(4,.one (.bool false)),(5,.one (.int .i64 y.1))],[],1,27⟩) (fun y=>n-y.1) ⟨0,Nat.zero_le _,fun j hj=>absurd hj (Nat.not_lt_zero _)⟩ ?_ (fun⟨i,hi,hz⟩=>?_)
 ·refine Sa ?_;simp only[ry,seval,rz,ak]
 simp only;have wi:IntKind.i64.wrap ((i:Int)+1)=((i+1:Nat):Int):=by rw[IntWalk.i64_in _ (by omega)];omega
 simp only[vx,T,seval,ak];refine⟨fun g=>Lg ?_,fun g=>Lg ?_⟩
 ·have c:=h hnm i (by omega);simp only[vx,T,seval,ak,bu,tC,aa,wi];refine⟨by omega,by omega,Cg c ?_⟩
  cases he:e i with
  |false=>
   have hb:r=false:=Bool.eq_false_iff.2 fun h=>by have:=(hr.1 h).2 i (by omega);rw[he]at this;cases this
   subst hb;simp only[vx,T,seval,ak,wi];exact Ve rfl
  |true=>
   simp only[vx,T,seval,ak,wi];refine Lq ⟨i+1,by omega,fun j hj=>?_⟩ ?_ (by show n-(i+1)<n-i;omega)
   ·by_cases k:j<i
    ·exact hz j k
    obtain rfl:j=i:=by omega
    exact he
   refine Sa ?_;simp only[ry,seval,rz,ak]
 have hb:r=true:=hr.2 ⟨hnm,fun j hj=>hz j (by omega)⟩;subst hb;simp only[vx,T,seval,ak];exact Ve rfl
theorem HU {n m:Nat}(c d:Nat→Nat)(a b:Nat→Nat→Nb)(hn:n<2^38)(e:Nat→Bool)(h:n=m→∀i,i<n→Pr prog 25 [.one (ak (c i) (a i)),.one (ak (d i) (b i))] (.one (.bool (e i)))){r:Bool}(hr:r=true↔n=m∧∀i,i<n→e i=true):Pr prog 23 [.one (aq n c a),.one (aq m d b)] (.one (.bool r)):=by
 refine pw func23 ⟨[0,1,4,5,10,14,26],[]⟩ ?_;simp only[Tryz.f23,ntmps23,iz,seval];simp only[vx,T,seval,aq,ak];refine⟨fun g0=>Lg ?_,fun g0=>Lg ?_⟩
 ·have hb:r=false:=Bool.eq_false_iff.2 fun h=>g0 (by have:=(hr.1 h).1;omega);subst hb;simp only[vx,T,seval];exact Ve rfl
 have hnm:n=m:=by omega
 simp only[vx,T,seval,aq,ak];refine Lk (fun y:{i:Nat//i≤n∧∀j,j<i→e j=true}=>⟨[(0,.one (aq n c a)),(1,.one (aq m d b)),(4,.one (.bool false)),(5,.one (.int .i64 y.1))],[],1,27⟩) (fun y=>n-y.1) ⟨0,Nat.zero_le _,fun j hj=>absurd hj (Nat.not_lt_zero _)⟩ ?_ (fun⟨i,hi,hz⟩=>?_)
 ·refine Sa ?_;simp only[ry,seval,rz,aq,ak]
 simp only;have wi:IntKind.i64.wrap ((i:Int)+1)=((i+1:Nat):Int):=by rw[IntWalk.i64_in _ (by omega)];omega
 simp only[vx,T,seval,aq,ak];refine⟨fun g=>Lg ?_,fun g=>Lg ?_⟩
 ·have c:=h hnm i (by omega);simp only[vx,T,seval,aq,ak,wi];refine⟨by omega,by omega,Cg c ?_⟩
  cases he:e i with
  |false=>
   have hb:r=false:=Bool.eq_false_iff.2 fun h=>by have:=(hr.1 h).2 i (by omega);rw[he]at this;cases this
   subst hb;simp only[vx,T,seval,aq,ak,wi];exact Ve rfl
  |true=>
   simp only[vx,T,seval,aq,ak,wi];refine Lq ⟨i+1,by omega,fun j hj=>?_⟩ ?_ (by show n-(i+1)<n-i;omega)
   ·by_cases k:j<i
    ·exact hz j k
    obtain rfl:j=i:=by omega
    exact he
   refine Sa ?_;simp only[ry,seval,rz,aq,ak]
 have hb:r=true:=hr.2 ⟨hnm,fun j hj=>hz j (by omega)⟩;subst hb;simp only[vx,T,seval,aq,ak];exact Ve rfl
theorem CI {r:Nat}(c:Nat→Nat)(m:Nat→Nat→Nb)(hn:r<2^38)(hc:∀i,i<r→c i<2^38):Pr prog 7 [.one (aq r c m)] (.one (aq r c m)):=by
 refine pw func7 ⟨[0,2,3,4,8],[]⟩ ?_;simp only[Tryz.f7,ntmps7,iz,seval];simp only[vx,T,seval,aq,ak];refine Lk (fun y:{i:Nat//i≤r}=>⟨[(0,.one (aq r c m)),(2,.one .nil),(3,.one (.own 1 1 0 y.1)),(4,.one (.int .i64 y.1))],[(1,⟨.rows 33 1 y.1 (fun i _=>ak (c i) (m i)),true⟩)],2,21⟩) (fun y=>r-y.1) ⟨0,Nat.zero_le _⟩ ?_ (fun⟨i,hi⟩=>?_)
 ·refine Sa ?_;simp only[ry,seval,rz,aq,ak]
 simp only;have wi:IntKind.i64.wrap ((i:Int)+1)=((i+1:Nat):Int):=by rw[IntWalk.i64_in _ (by omega)];omega
 simp only[vx,T,seval,aq,ak];refine⟨fun g=>Lg ?_,fun g=>Lg ?_⟩
 ·have hin:i<r:=by omega
  have hci:=hc i hin;simp only[vx,T,seval,aq,ak,wi,Nat.not_lt_zero,Nat.sub_zero];refine⟨by omega,by omega,?_⟩;refine⟨⟨by omega,by omega⟩,Lq ⟨i+1,by omega⟩ ?_ (by show r-(i+1)<r-i;omega)⟩;refine Sa ?_;simp only[ry,seval,rz,aq,ak];exact Am (fun i=>ak (c i) (m i)) i
 obtain rfl:i=r:=by omega
 simp only[vx,T,seval,aq,ak];exact Ve rfl
theorem Af {n:Nat}(m:Nat→Nat→Nb)(hn:n<2^38)(h:∀i,i<n→Pr prog 40 [.one (.int .i64 n),.one (.int .i64 i)] (.one (ak n (m i)))):Pr prog 15 [.one (.int .i64 n)] (.one (aq n (fun _=>n) m)):=by
 refine pw func15 ⟨[0,2,3,4,7],[]⟩ ?_;simp only[Tryz.f15,ntmps15,iz,seval];simp only[vx,T,seval,aq,ak];refine Lk (fun y:{i:Nat//i≤n}=>⟨[(0,.one (.int .i64 n)),(2,.one .nil),(3,.one (.own 1 1 0 y.1)),(4,.one (.int .i64 y.1))],[(1,⟨.rows 33 1 y.1 (fun i _=>ak n (m i)),true⟩)],2,17⟩) (fun y=>n-y.1) ⟨0,Nat.zero_le _⟩ ?_ (fun⟨i,hi⟩=>?_)
 ·refine Sa ?_;simp only[ry,seval,rz,aq,ak]
 simp only;have wi:IntKind.i64.wrap ((i:Int)+1)=((i+1:Nat):Int):=by rw[IntWalk.i64_in _ (by omega)];omega
 simp only[vx,T,seval,aq,ak];refine⟨fun g=>Lg ?_,fun g=>Lg ?_⟩
 ·have hin:i<n:=by omega
  have hc:=h i hin;simp only[vx,T,seval,aq,ak,wi];refine Cg hc ?_;simp only[vx,T,seval,aq,ak,wi];refine⟨⟨by omega,by omega⟩,Lq ⟨i+1,by omega⟩ ?_ (by show n-(i+1)<n-i;omega)⟩;refine Sa ?_;simp only[ry,seval,rz,aq,ak];exact Am (fun i=>ak n (m i)) i
 obtain rfl:i=n:=by omega
 simp only[vx,T,seval,aq,ak];exact Ve rfl
open Go Go.Eng
open Go.Tw (El)
theorem dr.Qh {f:FuncId}{caps:Nat→C}{e:C}(h:caps 0=e):dr (.fn f 1 caps) (.fn f 1 (fun _=>e)):=by
 rintro ok w v ⟨cs,hv,hn,hc⟩;refine⟨cs,hv,hn,fun i hi=>?_⟩;obtain rfl:i=0:=by omega
 rw[←h];exact hc 0 hi
def E6 (c:C):C:=.elt (.rows 1 1 (fun _ j=>OA ([c].getD j .any))) 1 0 0
theorem jn {r:Nat}(c:Nat→Nat)(m:Nat→Nat→Nb){k:Nat}(hk:k=if r=0 then 0 else c 0)(hr:r<2^38):Pr prog 32 [.one (aq r c m)] (.one (.int .i64 k)):=by
 refine pw func32 ⟨[0,2,5],[]⟩ ?_;simp only[Tryz.f32,ntmps32,iz,seval];simp only[vx,T,seval,aq];refine⟨fun g=>Lg ?_,fun g=>Lg ?_⟩
 ·have hb:k=0:=by rw[hk,if_pos (by omega)]
  subst hb;simp only[vx,T,seval];exact Ve rfl
 have hb:k=c 0:=by rw[hk,if_neg (by omega)]
 subst hb;simp only[vx,T,seval,aq,ak];refine⟨by omega,?_⟩;exact Ve rfl
theorem Kt {r n:Nat}(c:Nat→Nat)(m:Nat→Nat→Nb)(a:Nat→Nb){k:Nat}(hk:k=if r=0 then 0 else c 0)(hr:r<2^38):Pr prog 31 [.one (ak n a),.one (E6 (aq r c m))] (.one (.bool (decide (n≠k)))):=by
 have h:=jn c m hk hr;unfold E6;refine pw func31 ⟨[0,1,3],[]⟩ ?_;simp only[Tryz.f31,ntmps31,iz,seval];simp only[vx,T,seval,ak,aq];refine Cg h ?_;simp only[vx,T,seval];refine Ve ?_
 congr 2
 rw[decide_eq_decide];omega
theorem LZ {r:Nat}(c:Nat→Nat)(m:Nat→Nat→Nb)(f:FuncId){S:C}{wd io oo:Nat}(p:Nat→Bool)(hr:r<2^38)(hf:∀i,i<r→Pr prog f [.one (ak (c i) (m i)),.one (.elt S wd io oo)] (.one (.bool (p i)))){k:Int}(hk:(k= -1∧∀i,i<r→p i=false)∨∃j:Nat,k=j∧j<r∧p j=true∧∀i,i<j→p i=false):
  Pr prog 59 [.one (aq r c m),.one (.fn f 1 (fun _=>.elt S wd io oo))] (.one (.int .i64 k)):=by
 refine pw func59 ⟨[0,1,4,5,7,8,9,16],[]⟩ ?_;simp only[Tryz.f59,ntmps59,iz,seval];simp only[vx,T,seval,aq];refine Lk (fun y:{i:Nat//i≤r∧∀j,j<i→p j=false}=>⟨[(0,.one (aq r c m)),(1,.one (.fn f 1 (fun _=>.elt S wd io oo))),(4,.one (.int .i64 0)),(7,.one (.int .i64 r)),(8,.one (.int .i64 y.1))],[],1,19⟩) (fun y=>r-y.1) ⟨0,Nat.zero_le _,fun j hj=>absurd hj (Nat.not_lt_zero _)⟩ ?_ (fun⟨i,hi,hz⟩=>?_)
 ·refine Sa ?_;simp only[ry,seval,rz,aq]
 simp only;have wi:IntKind.i64.wrap ((i:Int)+1)=((i+1:Nat):Int):=by rw[IntWalk.i64_in _ (by omega)];omega
 simp only[vx,T,seval,aq];refine⟨fun g=>Lg ?_,fun g=>Lg ?_⟩
 ·have cc:=hf i (by omega);simp only[vx,T,seval,aq,ak,wi];refine⟨by omega,Cg cc ?_⟩
  cases hp:p i with
  |true=>
   have hb:k=i:=by
    rcases hk with⟨_,h⟩|⟨j,h1,h2,h3,h4⟩
    ·have:=h i (by omega);rw[hp]at this;cases this
    by_cases e1:j<i
    ·have:=hz j e1;rw[h3]at this;cases this
    by_cases e2:i<j
    ·have:=h4 i e2;rw[hp]at this;cases this
    rw[h1];congr 1;omega
   subst hb;simp only[vx,T,seval,aq,ak,wi];exact Ve rfl
  |false=>
   simp only[vx,T,seval,aq,ak,wi];refine Lq ⟨i+1,by omega,fun j hj=>?_⟩ ?_ (by show r-(i+1)<r-i;omega)
   ·by_cases e:j<i
    ·exact hz j e
    obtain rfl:j=i:=by omega
    exact hp
   refine Sa ?_;simp only[ry,seval,rz,aq]
 have hb:k= -1:=by
  rcases hk with⟨h,_⟩|⟨j,h1,h2,h3,h4⟩
  ·exact h
  have:=hz j (by omega);rw[h3]at this;cases this
 subst hb;simp only[vx,T,seval,aq,ak,wi];exact Ve rfl
theorem Ox {r:Nat}(c:Nat→Nat)(m:Nat→Nat→Nb)(f:FuncId){S:C}{wd io oo:Nat}(p:Nat→Bool)(hr:r<2^38)(hf:∀i,i<r→Pr prog f [.one (ak (c i) (m i)),.one (.elt S wd io oo)] (.one (.bool (p i)))){b:Bool}(hb:b=true↔∃i,i<r∧p i=true):
  Pr prog 30 [.one (aq r c m),.one (.fn f 1 (fun _=>.elt S wd io oo))] (.one (.bool b)):=by
 have first:∃k:Int,((k= -1∧∀i,i<r→p i=false)∨∃j:Nat,k=j∧j<r∧p j=true∧∀i,i<j→p i=false)∧b=decide (0≤k):=by
  cases hb':b with
  |false=>
   refine⟨-1,.inl ⟨rfl,fun i hi=>?_⟩,by decide⟩
   cases hp:p i with
   |false=>rfl
   |true=>have:=hb.2 ⟨i,hi,hp⟩;rw[hb']at this;cases this
  |true=>
   obtain⟨i,hi,hp⟩:=hb.1 hb';have key:∀n i,i<n→p i=true→∃j,j≤i∧p j=true∧∀i',i'<j→p i'=false:=by
    intro n
    induction n with
    |zero=>intro i hi;omega
    |succ n ih=>
     intro i hi hp
     by_cases h:∃i',i'<i∧p i'=true
     ·obtain⟨i',h1,h2⟩:=h;obtain⟨j,g1,g2,g3⟩:=ih i' (by omega) h2;exact⟨j,by omega,g2,g3⟩
     exact⟨i,Nat.le_refl _,hp,fun i' hi'=>by
      cases e:p i' with
      |false=>rfl
      |true=>exact absurd ⟨i',hi',e⟩ h⟩
   obtain⟨j,g1,g2,g3⟩:=key (i+1) i (by omega) hp;exact⟨j,.inr ⟨j,rfl,by omega,g2,g3⟩,by simp⟩
 obtain⟨k,hk,rfl⟩:=first;have h:=LZ c m f p hr hf hk;refine pw func30 ⟨[0,1,4],[]⟩ ?_;simp only[Tryz.f30,ntmps30,iz,seval];simp only[vx,T,seval,aq];refine Cg h ?_;simp only[vx,T,seval];exact Ve (by simp)
theorem jx {r:Nat}(c:Nat→Nat)(m:Nat→Nat→Nb)(hr:r<2^38){b:Bool}(hb:b=true↔∀i,i<r→c i=c 0):Pr prog 6 [.one (aq r c m)] (.one (.bool b)):=by
 have h:=Ox c m 31 (fun i=>decide (c i≠if r=0 then 0 else c 0)) hr (fun i _=>Kt (n:=c i) c m (m i) rfl hr) (b:=!b) (by
  rw[Bool.not_eq_true',←Bool.not_eq_true,hb];refine⟨fun h=>?_,fun⟨i,hi,h⟩ k=>?_⟩
  ·have:∃i,i<r∧c i≠c 0:=Classical.not_forall_not.1 fun k=>h fun i hi=>Classical.byContradiction fun e=>k i ⟨hi,e⟩
   obtain⟨i,hi,e⟩:=this;exact⟨i,hi,by rw[if_neg (by omega)];simpa using e⟩
  rw[if_neg (by omega)]at h;exact absurd (k i hi) (by simpa using h))
 refine pw func6 ⟨[0,1,2],[]⟩ ?_;simp only[Tryz.f6,ntmps6,iz,seval];simp only[vx,T,seval,aq];refine Cg (h.args ⟨.refl _,.cell (dr.Qh rfl),trivial⟩) ?_;simp only[vx,T,seval,aq];exact Ve (by simp)
open Go Go.Proofs Go.RowKit Go.Eng
set_option maxRecDepth 100000 in
theorem BR (k:Nat)(h0:0<k)(hb:k*48≤140737488355328)(w:World)(i:TypeInfo)(z:Value)(hi:prog.info? 52=some i)(hz:i.zero=some z)(hs:i.size=2)(hby:i.bytes=48):
  Calls prog 101 #[.slice none 0 0,.int .i64 k] w fun e w'=>e= .returned (.slice (some ⟨w.heap.size,0,none⟩) 0 (grownCap w k 0 52))∧
   w'=w.drew.alloc (.cells (Builtin.zeroCells z.cells k++Builtin.zeroCells z.cells (grownCap w k 0 52-k)) 52):=by
 have h1:¬((k:Int)<0):=by omega
 have h3:wrap64 ((k:Int)-(((0:Nat):Int)-((0:Nat):Int)))=(k:Int):=by unfold wrap64;omega
 have h4:(k:Int)>0:=by omega
 have hrz:∀ty,(Builtin.append_ #[33,3] ty #[.slice none 0 0,.int .i64 (k:Int)]).run prog w=
   .ok (.slice (some ⟨w.heap.size,0,none⟩) k (grownCap w k 0 52)) (w.drew.alloc (.cells (Builtin.zeroCells z.cells k++Builtin.zeroCells z.cells (grownCap w k 0 52-k)) 52)):=fun ty=>
  Lib.run_append_nil_zeros w 33 3 ty 52 i z .i64 .i64 (by rfl) (by rfl) hi hz k h0 (by omega) (by omega) (by rw[hby];omega)
 obtain⟨G,hG⟩:∃G,G=grownCap w k 0 52:=⟨_,rfl⟩;rw[←hG]at hrz⊢;have hGn:k≤G:=by rw[hG];exact grownCap_ge w _ _ _
 clear hG
 go_enter func101,ntmps101
 go_wp2_with (at_builtin;refine Lib.wpList_append_run _ rfl _ _ _ _ rfl _ _ rfl rfl _ _ (hrz _) ?_)
 all_goals(go_ret;exact⟨rfl,rfl⟩)
set_option maxRecDepth 100000 in
theorem Bx (w:World):Calls prog 101 #[.slice none 0 0,.int .i64 0] w fun e w'=>e= .returned (.slice none 0 0)∧w'=w:=by
 go_enter func101,ntmps101
 go_wp2
 go_ret
 exact⟨rfl,rfl⟩
theorem AV (k:Nat)(hb:k*48≤140737488355328):Fr prog 101 [.one .nil,.one (.int .i64 k)] (.rows 52 2 0 (fun _ _=>.any)):=by
 obtain⟨i,d,z,hi,hu,hz,_,hs,hby,hzl,_⟩:=bD yV (show T 52=some _ from rfl);have hs:i.size=2:=hs.symm;have hby:i.bytes=48:=hby.symm;refine⟨⟨_,func101,by rfl,by rfl⟩,trivial,fun ok w vs hok hr=>?_⟩;obtain⟨vs⟩:=vs
 match vs,hr with
 |[v,u],hr=>
  obtain⟨hv,hu,_⟩:=hr;have hv:v= .slice none 0 0:=hv;have hu:u= .int .i64 k:=hu;subst hv hu
  by_cases h0:k=0
  ·subst h0
   refine(Bx w).mono ?_
   rintro e w' ⟨rfl,rfl⟩;exact⟨_,⟨none,0⟩,rfl,Go.RowKit.Below.refl _ _,rfl,(fun g o h=>by cases h),(fun j=>by simp[Bk.cell]),trivial,Nat.le_refl _,0,Nat.le_refl _,.inr ⟨rfl,rfl,rfl,rfl⟩⟩
  refine(BR k (by omega) hb w i z hi hz hs hby).mono ?_
  rintro e w' ⟨rfl,rfl⟩;have hzc:z.cells.size=2:=by
   have:=congrArg List.length hzl
   simpa[T]using this.symm
  have hGn:k≤grownCap w k 0 52:=grownCap_ge w _ _ _;refine⟨_,⟨some (w.heap.size,0),0⟩,rfl,((Go.RowKit.Below.refl _ w).drew).alloc (Nat.le_refl _) _,rfl,fun g o h=>?_,?_,trivial,Nat.le_refl _,grownCap w k 0 52,Nat.zero_le _,.inl ⟨w.heap.size,0,0,rfl,rfl,.inr (by simp),?_⟩⟩
  ·have:w.heap.size=g:=by simpa using congrArg (Option.map Prod.fst) h
   subst this;exact⟨Nat.le_refl _,by simp⟩
  ·unfold aL;refine⟨_,52,heap_alloc_new w.drew _,fun j c hj=>?_⟩
   simp[Bk.cell]at hj
  have hrs:bU (w.drew.alloc (.cells (Builtin.zeroCells z.cells k++Builtin.zeroCells z.cells (grownCap w k 0 52-k)) 52)) w.heap.size=(Builtin.zeroCells z.cells k++Builtin.zeroCells z.cells (grownCap w k 0 52-k)).size:=dH (heap_alloc_new w.drew _);rw[hrs];simp only[Array.size_append,size_zeroCells,hzc,Bk.wd];omega
end Go.Proofs.YtgcmkdgpaibpeaaGreat
