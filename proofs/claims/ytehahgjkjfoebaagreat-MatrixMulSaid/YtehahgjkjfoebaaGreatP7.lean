/-
  MatrixMul: for every input the law returns true, and each argument reads afterwards as it read before. No condition.
  (Text 7 of 9; made by a program out of smaller texts.)
-/
import Derived.Lib.AppendZerosOnto
import Derived.Lib.Walk
import Derived.Test.YtehahgjkjfoebaaGreatP6
set_option linter.unusedSimpArgs false
set_option linter.unusedVariables false
set_option maxHeartbeats 16000000
set_option maxRecDepth 10000
open Nat renaming reduceAdd→J1,reduceMul→J2,reduceSub→J3,reduceEqDiff→J4,reduceLT→J5,reduceLeDiff→J6,reduceBEq→J7,reduceDiv→J8,reduceMod→J9,reducePow→J0
open Int renaming reduceToNat→K1,reduceLE→K2,reduceLT→K3,reduceEq→K4,reducePow→K5,reduceSub→K6,reduceNeg→K7,natCast_add→X2,natCast_one→X3,natCast_zero→X4
open List renaming getD_cons_zero→X0,getD_cons_succ→X1,length_take→X5,length_append→X6,getD_eq_getElem?_getD→X7,getElem?_eq_getElem→X8
open Nat renaming le_trans→O0,le_refl→O1,zero_le→O2,pow_le_pow_right→O3,pow_succ→O4,not_lt_zero→O5,mul_comm→O6,mod_eq_of_lt→O7,mul_le_mul_right→O8,mul_le_mul_left→O9
open Int renaming toNat_natCast→Q1,natCast_mul→Q2
open And renaming intro→Q3
open Go.IntWalk renaming i64_in→Q4,u64_in→Q5
namespace Go.Proofs.YtehahgjkjfoebaaGreat
open Go.Proofs.Tryz
open Go Go.Eng
open Go.Tw (El aC aH zE aj av au ar aa QB cM ai ah tB aU aA val In Rd TG bZ bA a9 aY)
def oM (H:Nat)(U:List El)(n:Nat):V:=.agg [tC H U,.own 0 1 0 n]
def rB (n:Nat)(rs:List El):Bk:=.rows 54 1 n (fun j _=>ag (rs.getD j []))
theorem D4 {P:Program}{fn:FuncId}{x:V}{w n n':Nat}{f g:Nat→Nat→C}{B:Bk}{R:V→Bk→Prop}(h:Mc P fn [x,.one (.rows w n' g)] B R)(hc:dH (.rows w n f) (.rows w n' g)):Mc P fn [x,.one (.rows w n f)] B R:=
 ⟨h.1,fun ok W vs l h1 h2 h3 h4 Ti=>h.2 ok W vs l h1 h2 h3 h4 (by
  generalize vs.toList=ls at Ti⊢
  match ls,Ti with
  |[_,v2],⟨a,b,_⟩=>exact⟨a,hc ok W v2 b,trivial⟩)⟩
def Ns (rs:List El)(n:Nat)(x:V)(r:V)(B:Bk):Prop:=r=x∧B=rB n rs
theorem Md {B X H:Nat}{U rs:List El}{n:Nat}{a:El}(I:Gc B X H 0 U rs)(ha:a.length=2^0)(hq:QB B a):Mc prog 120 [oM H U n,eV a] (rB n rs) (Ns rs n (eV (a9 H U rs 0 a))):=by
 obtain⟨x,rfl⟩:=Go.Tw.bw ha;have hB:=I.hB;have hx:qm x≤B:=hq x (by simp);have f:=eI I.tq.tk x (by omega);have e:a9 H U rs 0 [x]=aU H x:=rfl;rw[e];refine mw func120 ⟨[0,1,2,4,5,6,7,8,11,26,37],[(6,(.cons 4 [] (.cons 5 [] .nil .nil) .nil)),(9,(.cons 6 [0,1,7,8,9,10,11,12,13] (.cons 14 [0,1] (.cons 15 [] (.cons 16 [] .nil .nil) .nil) .nil) .nil))]⟩ ?_;simp only[Tryz.f120,ntmps120,iz,seval];simp only[vx,T,seval,oM,rB,tV,tC,eV,ag,qC,X0];refine Cg f ?_;simp only[vx,T,seval,oM,rB,tV,tC,eV,ag];exact⟨rfl,rfl⟩
theorem mH {B X H:Nat}{U rs:List El}{N:Nat}(hN:rs.length=N):∀{k:Nat} {a:El},Gc B X H k U rs→k≤rs.length→k≤8→a.length=2^k→QB B a→Mc prog 120 [oM H U N,eV a] (rB N rs) (Ns rs N (eV (a9 H U rs k a)))
 |0,a,I,_,_,ha,hq=>Md I ha hq
 |k+1,a,I,ZB,Zb,ha,hq=>by
  have I':=I.le (Nat.le_succ k);have Tu:=ai ha;have Ts:=ah ha;have c1:=mH hN I' (by omega) (by omega) Tu (hq.take _);have c2:=mH hN I' (by omega) (by omega) Ts (hq.drop _);have hB:=I.hB;have h3:=I.tq.h6;have hp:=aN (h:=k+1) Zb;have SI:2^k<2^(k+1):=Nat.pow_lt_pow_right (by decide) (by omega);have z:=dq (a.drop (2^k)) (by omega) (.of (hq.drop _) (by omega));have hn:(2^k:Nat)≤a.length:=by omega
  have cT:=fF hn;have cD:=e9 (a:=a) (n:=2^k);have c1:=D4 c1 cT;have c2:=D4 c2 cD;have z:=z.args (xs:=[.one (.rows 4 (a.length-2^k) (fun i=>qC (a.getD (2^k+i) default)))]) ⟨.cell cD,trivial⟩;have hg:∀i,i≤k→(IntKind.i64.wrap (1*2^(if i≤63 then i+1 else 64))<((a.length:Nat):Int)↔i<k):=fun i hi=>by
   have hs:=dO (h:=i+1) (by omega);rw[if_pos (by omega)]at hs⊢;rw[hs,ha]
   constructor
   ·intro h;refine Nat.lt_of_not_le fun h2=>?_
    have:=O3 (n:=2) (by decide) (show k+1≤i+1 by omega)
    omega
   intro h
   have:=Nat.pow_lt_pow_right (a:=2) (by decide) (show i+1<k+1 by omega)
   omega
  obtain⟨n,SY⟩:∃n,n=2^k:=⟨_,rfl⟩;have S9:a.length=2*n:=by rw[ha,O4,SY];omega
  have w2:IntKind.i64.wrap (((a.length:Nat):Int).tdiv 2)=(n:Int):=by
   rw[S9,Int.tdiv_eq_ediv_of_nonneg (by omega),Q4 _ (by omega)];omega
  have w4:((a.length:Int)-(n:Int)).toNat=a.length-n:=by omega
  have SW:¬((a.length:Nat):Int)=1:=by
   have:=Nat.two_pow_pos k
   omega
  have st:∀(hv:¬a.drop (2^k)=zE (2^k)),True:=fun _=>trivial;refine mw func120 ⟨[0,1,2,4,5,6,7,8,11,26,37],[(6,(.cons 4 [] (.cons 5 [] .nil .nil) .nil)),(9,(.cons 6 [0,1,7,8,9,10,11,12,13] (.cons 14 [0,1] (.cons 15 [] (.cons 16 [] .nil .nil) .nil) .nil) .nil))]⟩ ?_;simp only[Tryz.f120,ntmps120,iz,seval];simp only[vx,T,seval,oM,rB,tV,tC,eV,ag,w2,w4];refine⟨fun h=>absurd h SW,fun _=>Lg ?_⟩;simp only[vx,T,seval,oM,rB,tV,tC,eV,ag,w2,w4];refine Lk (fun y:{i:Nat//i≤k}=>⟨[(1,eV a),(2,.one (.ptr 1 0)),(4,.one .nil),(5,.one (.int .i64 n)),(6,.one (.int .i64 y.1))],[(0,⟨rB N rs,true⟩),(1,⟨.var [tC H U,.own 0 1 0 N],true⟩)],2,60⟩) (fun y=>k-y.1) ⟨0,O2 _⟩ ?_ (fun⟨i,hi⟩=>?_)
  ·refine Sa ?_;simp only[ry,seval,rz,rB,tV,tC,eV,ag]
  simp only;have UR:=hg i hi;have wi:=wI i (by omega);simp only[vx,T,seval,rB,tV,tC,eV,ag,wi];refine⟨by omega,?_⟩;refine⟨fun g=>Lg ?_,fun g=>Lg ?_⟩
  ·have Vd:=UR.1 g;simp only[vx,T,seval,rB,tV,tC,eV,ag,wi];refine Lq ⟨i+1,by omega⟩ ?_ (by show k-(i+1)<k-i;omega);refine Sa ?_;simp only[ry,seval,rz,rB,tV,tC,eV,ag]
  have Vd:i=k:=by
   have:¬i<k:=fun h=>g (UR.2 h)
   omega
  subst Vd;obtain⟨m,hm,lr⟩:=I.r i (by omega);have k1:=(I.m i (by omega) _ Tu (hq.take _)).q.1;have k2:=I.m i (by omega) _ Ts (hq.drop _);have UA:(rs.getD i []).length≤2^H:=by rw[lr];exact O3 (by decide) hm
  have pd:=nu (t:=U) (a:=rs.getD i []) (by omega) (by rw[lr];exact Nat.two_pow_pos _) UA;have hX:=I.hX;have mu:=fv I.hX I.tq.tk (a9 H U rs i (a.drop (2^i))) (bZ H (rs.getD i [])) aY (bA UA) k2;have ad:=kF I.tq.tk (a9 H U rs i (a.take (2^i))) _ aY aa (.of k1 (by omega)) (.of k2.q.2.2 (by omega));have el:=Go.Tw.Ai (H:=H) (T:=U) (rs:=rs) (k:=i) (a:=a);have er:a9 H U rs (i+1) a=aC (a9 H U rs i (a.take (2^i))) (aj H U (a9 H U rs i (a.drop (2^i))) (bZ H (rs.getD i []))):=rfl;rw[←er]at ad;obtain⟨r,hr⟩:∃r,r=a9 H U rs (i+1) a:=⟨_,rfl⟩;obtain⟨x,hx⟩:∃x,x=a9 H U rs i (a.take (2^i)):=⟨_,rfl⟩;obtain⟨y,hy⟩:∃y,y=a9 H U rs i (a.drop (2^i)):=⟨_,rfl⟩;obtain⟨v,hv⟩:∃v,v=rs.getD i []:=⟨_,rfl⟩;obtain⟨p,VU⟩:∃p,p=bZ H v:=⟨_,rfl⟩;rw[←hr,←hx]at el ad;rw[←hx]at c1;rw[←hy]at c2;rw[←hr];rw[←hv]at pd;rw[←hy,←hv,←VU]at ad mu;rw[←VU]at pd;have SU:i<rs.length:=by omega
  by_cases hz:a.drop (2^i)=zE (2^i)
  ·rw[decide_eq_true (by rw[Ts];exact hz)]at z;rw[el hz];rw[←SY]at c1 z;simp only[vx,T,seval,rB,tV,tC,eV,ag,wi,w4];refine⟨⟨by omega,by omega⟩,Cm 0 (B:=rB N rs) rfl trivial c1 ?_⟩;rintro _ _ ⟨rfl,rfl⟩ _;simp only[vx,T,seval,oM,rB,tV,tC,eV,ag,wi,w4];refine⟨⟨by omega,by omega,by omega⟩,Cg z ?_⟩;simp only[vx,T,seval,oM,rB,tV,tC,eV,ag,wi,w4];exact⟨rfl,rfl⟩
  rw[decide_eq_false (by rw[Ts];exact hz)]at z;rw[←SY]at c1 c2 z;simp only[vx,T,seval,rB,tV,tC,eV,ag,wi,w4];refine⟨⟨by omega,by omega⟩,Cm 0 (B:=rB N rs) rfl trivial c1 ?_⟩;rintro _ _ ⟨rfl,rfl⟩ _;simp only[vx,T,seval,oM,rB,tV,tC,eV,ag,wi,w4];refine⟨⟨by omega,by omega,by omega⟩,Cg z ?_⟩;simp only[vx,T,seval,oM,rB,tV,tC,eV,ag,wi,w4];refine⟨⟨by omega,by omega,by omega⟩,⟨by omega,by omega⟩,Cm 0 (B:=rB N rs) rfl trivial c2 ?_⟩;rintro _ _ ⟨rfl,rfl⟩ _;simp only[vx,T,seval,oM,rB,tV,tC,eV,ag,wi,w4,←hv];refine⟨⟨by omega,by omega⟩,Cg pd ?_⟩;simp only[vx,T,seval,oM,rB,tV,tC,eV,ag,wi,w4,←hv];refine Cg mu ?_;simp only[vx,T,seval,oM,rB,tV,tC,eV,ag,wi,w4,←hv];refine Cg ad ?_;simp only[vx,T,seval,oM,rB,tV,tC,eV,ag,wi,w4,←hv];exact⟨rfl,rfl⟩
end Go.Proofs.YtehahgjkjfoebaaGreat
namespace Go.Tw
open Go Go.R Go.Eng
theorem QB.bits {B:Nat}{a:El}(h:QB B a):iu (32*B) a:=fun c hc=>by
 have h1:=h c hc;unfold qm at h1;have key:∀n,nl n≤B→n≤2^(32*B):=fun n hn=>by
  have:=cG n
  have h2:BB^nl n≤BB^B:=O3 (by decide) hn;have h3:BB^B=2^(32*B):=by rw[show BB=2^32 from rfl,←Nat.pow_mul]
  omega
 exact⟨key _ (by unfold zn at h1;omega),key _ (by omega)⟩
section
variable {A:List R}{u T rs:List El}{K:Nat}
theorem Ext.EG (E:Ext A u K T rs){i:Nat}(hi:i<K):In T.length T (R.sqrt (val i u (u.getD i []))):=by
 obtain⟨m,hm,hl,hv⟩:=E.root i hi;rw[←hv];exact(In.of hl).le hm
theorem Ext.num (hV:dV A)(E:Ext A u K T rs)(hu:∀i,i<K→val i u (u.getD i [])∈A){j:Nat}(hj:j≤K){b:El}{B:Nat}(hb:b.length=2^j)(hB:iu B b):
  ax A T (a9 T.length T rs j b) (val j u b) ((B+1)*2^j) (2^j):=
 ⟨E.tg,aY,kn E hj hb,fun c=>(Sz.expr (c:=c) hb hB (fun i hi=>.gen ⟨⟨_,hu i (by omega),rfl⟩,by rw[oL hV,Nat.one_mul]⟩)).mono (by have:=xK (B:=B) (c:=c) j;omega)⟩
theorem Ext.HW (hV:dV A)(E:Ext A u K T rs)(hu:∀i,i<K→val i u (u.getD i [])∈A){i:Nat}(hi:i<K):ax A T (bZ T.length (rs.getD i [])) (R.sqrt (val i u (u.getD i []))) 0 1:=by
 obtain⟨m,hm,hl,hv⟩:=E.root i hi;exact⟨E.tg,bA (by rw[hl];exact O3 (by decide) hm),by rw[pr hl hm,hv],(mr.root (hu i hi)).mono (O1 _) (Nat.le_of_eq (oL hV))⟩
def mF (F β μ:Nat):Nat:=2^F*(β+μ*oB F+3*cW)/32+1
theorem Mu {F β μ β' μ':Nat}(h1:β≤β')(h2:μ≤μ'):mF F β μ≤mF F β' μ':=by
 unfold mF;have h3:μ*oB F≤μ'*oB F:=O8 _ h2;have h4:2^F*(β+μ*oB F+3*cW)≤2^F*(β'+μ'*oB F+3*cW):=O9 _ (by omega);omega
theorem MZ {h F β μ:Nat}(h1:h≤F):bM cW h (2^(F-h)*(β+μ*oB F))≤mF F β μ:=by
 have e1:2^h*2^(F-h)=2^F:=by rw[←Nat.pow_add];congr 1;omega
 have e2:=O8 (3*cW) (O3 (n:=2) (by decide) h1);have e3:2^h*(2^(F-h)*(β+μ*oB F)+3*cW)≤2^F*(β+μ*oB F+3*cW):=by
  rw[Nat.mul_add,←Nat.mul_assoc,e1,Nat.mul_add (2^F) (β+μ*oB F)];omega
 unfold bM mF;omega
section
variable (S:Src 64 A)(hA:dV A)
include S hA
theorem ax.R6 {t:List El}{a:El}{x:R}{β μ F:Nat}(h:ax A t a x β μ)(I:NM A F):QB (mF F β μ) a:=by
 obtain⟨F',I',z,w,d,E,hx⟩:=h.tg.rk S hA;obtain rfl:=I.eq I';exact(E.qb h.len (hx h.in h.val h.sz)).mono (O0 (ui (by omega)) (MZ (I.mx _ h.tg)))
theorem ax.R0 {t:List El}{a b:El}{x y:R}{β μ β' μ' F:Nat}(h:ax A t a x β μ)(k:ax A t b y β' μ')(I:NM A F):cM (mF F (β+β') (μ+μ')) t.length t a b:=by
 obtain⟨F',I',z,w,d,E,hx⟩:=h.tg.rk S hA;obtain rfl:=I.eq I'
 refine(cM.of E h.len k.len (hx h.in h.val h.sz) (hx k.in k.val k.sz) (s:=2^(F-t.length)*((β+β')+(μ+μ')*oB F)) ?_).mono (MZ (I.mx _ h.tg))
 rw[←Nat.mul_add,Nat.add_mul];exact O9 _ (by omega)
structure OP (B X H K:Nat) (U rs:List El):Prop where
 r:∀i,i<K→∃m,m≤H∧(rs.getD i []).length=2^m
 m:∀j,j<K→∀b,b.length=2^j→QB B b→cM X H U (a9 H U rs j b) (bZ H (rs.getD j []))
def jX (F B k:Nat):Nat:=mF F ((32*B+1)*2^(k-1)) (2^(k-1)+1)
theorem Ext.RZ (E:Ext A u K T rs)(hu:∀i,i<K→val i u (u.getD i [])∈A){F B X:Nat}(I:NM A F)(hX:jX F B K≤X):OP B X T.length K T rs:=by
 refine⟨fun i hi=>?_,fun j hj b hb hq=>?_⟩
 ·obtain⟨m,k1,k2,_⟩:=E.root i hi;exact⟨m,k1,k2⟩
 have hp:2^j≤2^(K-1):=O3 (by decide) (by omega);exact(((E.num hA hu (by omega) hb hq.bits).mono (O9 _ hp) hp).R0 S hA (E.HW hA hu hj) I).mono hX
omit hA in
theorem Ext.PN (h6:A.length≤6)(hL:∀a,a∈A→Lr a)(E:Ext A u K T rs)(hu:∀i,i<K→val i u (u.getD i [])∈A){B:Nat}(hK:K≤6):OP B (32*B+2^27) T.length K T rs:=by
 obtain⟨z,w,d,L,hx⟩:=E.tg.xH S h6 hL;have hT:=O0 E.tg.kB h6;refine⟨fun i hi=>?_,fun j hj b hb hq=>?_⟩
 ·obtain⟨m,k1,k2,_⟩:=E.root i hi;exact⟨m,k1,k2⟩
 obtain⟨m,hm,hl,hv⟩:=E.root j hj;have UC:(bZ T.length (rs.getD j [])).length=2^T.length:=bA (by rw[hl];exact O3 (by decide) hm);have e:=kn E (Nat.le_of_lt hj) hb;have e':val T.length T (bZ T.length (rs.getD j []))=R.sqrt (val j u (u.getD j [])):=by rw[pr hl hm,hv]
 have h1:=hx (x:=val T.length T (a9 T.length T rs j b)) (.of aY) (by rw[e];exact Sz.expr (c:=lC) hb hq.bits (fun i hi=>.gen ⟨⟨_,hu i (by omega),rfl⟩,rfl⟩));have h2:=hx (x:=val T.length T (bZ T.length (rs.getD j []))) (.of UC) (by rw[e'];exact .gen ⟨⟨_,hu j hj,rfl⟩,rfl⟩)
 refine(L.PC aY UC h1 h2 (O1 _)).mono ?_
 have f:=xK (B:=32*B) (c:=lC) j;have p:=O3 (n:=2) (by decide) (show j≤5 by omega);have p1:=O9 (32*B+1) p;have p2:=O8 lC p;have p3:=O8 lW hT;unfold lM;unfold lC at*
 unfold lW at*
 omega
def yX:Nat:=2^35
omit S hA in
theorem N8:∀F,F≤6→∀k,k≤F→jX F tB k≤yX:=by decide+kernel
omit S hA in
theorem OP.mono {B X Y H K:Nat}{U rs:List El}(h:X≤Y)(N:OP B X H K U rs):OP B Y H K U rs:=⟨N.r,fun j hj b hb hq=>(N.m j hj b hb hq).mono h⟩
omit hA in
theorem Ext.SA (hA:oF A)(G:TG A u)(E:Ext A u K T rs)(hk:K≤u.length):OP tB yX T.length K T rs:=by
 have h6:=G.my hA
 by_cases hV:dV A
 ·obtain⟨F,I,_⟩:=G.rk S hV;exact E.RZ S hV (fun i hi=>G.mem i (by omega)) I (N8 F I.le K (O0 hk (I.mx _ G)))
 obtain⟨k1,k2⟩:=hA.l hV;exact(E.PN S k1 k2 (fun i hi=>G.mem i (by omega)) (by omega)).mono (by decide)
end
end
theorem chain {α:Type}{I:Nat→α→Prop}{St:Nat→α→α→Prop}{x0:α}(h0:I 0 x0):∀{n:Nat} (_:∀i x,i<n→I i x→∃y,St i x y∧I (i+1) y),
  ∃s:Nat→α,s 0=x0∧(∀i,i≤n→I i (s i))∧∀i,i<n→St i (s i) (s (i+1))
 |0,_=>⟨fun _=>x0,rfl,fun i hi=>by
                       obtain rfl:i=0:=by omega
                       exact h0,fun i hi=>absurd hi (O5 _)⟩
 |n+1,h=>by
  obtain⟨s,e0,h1,h2⟩:=chain h0 (n:=n) (fun i x hi=>h i x (by omega));obtain⟨y,hy,hI⟩:=h n (s n) (by omega) (h1 n (O1 n));refine⟨fun j=>if j≤n then s j else y,by simp[e0],fun i hi=>?_,fun i hi=>?_⟩
  ·by_cases k:i≤n
   ·simp only[if_pos k];exact h1 i k
   obtain rfl:i=n+1:=by omega
   simp only[if_neg k];exact hI
  by_cases k:i+1≤n
  ·simp only[if_pos k,if_pos (show i≤n by omega)];exact h2 i (by omega)
  obtain rfl:i=n:=by omega
  simp only[if_neg k,if_pos (O1 i)];exact hy
end Go.Tw
namespace Go.Proofs.YtehahgjkjfoebaaGreat
open Go.Proofs.Tryz
open Go Go.Eng
open Go.Tw (El aC aH zE aj av QB cM tB val In Rd mv TG bZ bA a9 aY Ext jS yX)
theorem j4 (rn:List (Nat×Option Nat)){e e':List (Nat×V)}{o o':List (Nat×fI)}{x x' n:Nat}(h:(sC rn 0=some 0∧0<x')∧Y0 rn x' e e'∧Y4 rn x' o o'∧Y6 rn o'):Sub ⟨e,o,x,n⟩ ⟨e',o',x',n⟩:=
 Sub.of rn h.1 rfl h.2.1 h.2.2.1 h.2.2.2
def LN (A:List R)(t u:List El)(i:Nat)(x:List El×List El):Prop:=(∃s,x.1=t++s)∧Ext A u i x.1 x.2∧((∀j,j<i→In t.length t (R.sqrt (val j u (u.getD j []))))→x.1=t)
def RL (f g:FuncId)(u:List El)(i:Nat)(x y:List El×List El):Prop:=
 ∃e w,Mc prog f [oM x.1.length x.1 i,eV (u.getD i [])] (rB i x.2) (Ns x.2 i (eV e))∧Pr prog g [tV x.1.length x.1,eV e] (.aB [tV y.1.length y.1,eV w,.one (.int .i64 0)])∧y.2=x.2++[w]
section
variable {A:List R}(S:Go.Tw.Src 64 A)(hA:Go.Tw.oF A){t u:List El}
include S hA
theorem mi (G:TG A t):TQ t.length t:=(tR S hA G (O1 _)).rq.tq
theorem GS (G:TG A u){k:Nat}{U rs:List El}(E:Ext A u k U rs)(hk:k≤u.length):Gc tB yX U.length k U rs:=by
 have N:=E.SA S hA G hk;exact⟨mi S hA E.tg,by decide,by decide,N.r,N.m⟩
theorem Hf (G:TG A t)(Gu:TG A u):∃s:Nat→List El×List El,s 0=(t,[])∧(∀i,i≤u.length→LN A t u i (s i))∧
  ∀i,i<u.length→RL 120 165 u i (s i) (s (i+1)):=by
 have h3:=Gu.my hA;refine Go.Tw.chain (I:=LN A t u) ⟨⟨[],(List.append_nil t).symm⟩,⟨G,rfl,fun i hi=>absurd hi (O5 _)⟩,fun _=>rfl⟩ fun i x hi hx=>?_;obtain⟨U,rs⟩:=x;obtain⟨⟨s,hs⟩,E,SM⟩:=hx;have hs:U=t++s:=hs;have E:Ext A u i U rs:=E;have lu:=(Gu.rd.rl i hi).1;have ci:=mH E.len (GS S hA Gu E (by omega)) (by rw[E.len];exact O1 _) (by omega) lu (Gu.qb S hA hi);have le:(a9 U.length U rs i (u.getD i [])).length=2^U.length:=aY;have ve:=Go.Tw.kn E (O1 _) lu;have hm:val U.length U (a9 U.length U rs i (u.getD i []))∈A:=by rw[ve];exact Gu.mem i hi
 have hp:R.pos (val U.length U (a9 U.length U rs i (u.getD i []))):=by rw[ve];exact(Gu.rd.rl i hi).2
 have rb:=E.tg.RA S hA le hm hp
 rcases Aa S hA E.tg le (R.bu.2 (.inr hp)) rb with⟨w,lw,vw,cw⟩|⟨no,c⟩
 ·refine⟨(U,rs++[w]),⟨_,w,ci,cw,rfl⟩,⟨s,hs⟩,?_,fun h=>SM fun j hj=>h j (by omega)⟩
  have:=E.up (S:=[]) (r:=w) (m:=U.length) (by rw[List.append_nil];exact E.tg) (by rw[List.append_nil];exact O1 _) lw (by rw[List.append_nil,vw,ve])
  rwa [List.append_nil]at this
 have G':=E.tg.snoc le hm hp no;have hl:(U++[a9 U.length U rs i (u.getD i [])]).length=U.length+1:=by simp
 refine⟨(U++[a9 U.length U rs i (u.getD i [])],rs++[Go.Tw.dL U.length]),⟨_,Go.Tw.dL U.length,ci,?_,rfl⟩,⟨s++[a9 U.length U rs i (u.getD i [])],by rw[hs,List.append_assoc]⟩,?_,fun h=>?_⟩
 ·show Pr _ _ _ (.aB [tV (U++[a9 U.length U rs i (u.getD i [])]).length _,_,_]);rw[hl];exact c
 ·exact E.up G' (m:=U.length+1) (by rw[hl];exact O1 _) Go.Tw.kQ (by rw[Go.Tw.rM,ve])
 have eU:U=t:=SM fun j hj=>h j (by omega);have Tb:=h i (by omega);rw[←eU]at Tb;refine absurd ?_ (no _ Tb);rw[ve];exact R.cV (R.bu.2 (.inr (Gu.rd.rl i hi).2))
theorem jW (G:TG A t)(Gu:TG A u):∃U rs s,U=t++s∧Ext A u u.length U rs∧((∀j,j<u.length→In t.length t (R.sqrt (val j u (u.getD j []))))→U=t)∧Pr prog 119 [tV t.length t,tV u.length u] (.aB [eM U.length U rs,.one (.int .i64 0)]):=by
 obtain⟨s,e0,hI,hS⟩:=Hf S hA G Gu;have h3:=Gu.my hA;obtain⟨⟨z,hz⟩,E,SM⟩:=hI u.length (O1 _);refine⟨(s u.length).1,(s u.length).2,z,hz,E,SM,?_⟩;have hl:∀i,i≤u.length→(s i).2.length=i:=fun i hi=>(hI i hi).2.1.len;have Xv:∀i,i≤u.length→(s i).1.length≤6:=fun i hi=>(hI i hi).2.1.tg.my hA;have e1:(s 0).1=t:=by rw[e0]
 rw[←e1];clear e0 e1 hI hz E SM;obtain⟨n,hn⟩:∃n,n=u.length:=⟨_,rfl⟩;rw[←hn]at hS h3 hl Xv⊢;rw[show eM (s n).1.length (s n).1 (s n).2= .agg [tC (s n).1.length (s n).1,tC n (s n).2] by unfold eM;rw[hl n (O1 n)]];refine pw func119 ⟨[0,1,4,5,6,8,9,10,11,14,15,16,17,31],[(5,(.cons 4 [0,1] (.cons 5 [] (.cons 6 [] (.cons 7 [] (.cons 8 [] (.cons 9 [] (.cons 10 [] (.cons 11 [] (.cons 12 [] .nil .nil) .nil) .nil) (.cons 10 [] (.cons 9 [] (.cons 11 [] (.cons 12 [] .nil .nil) .nil) (.cons 11 [] (.cons 9 [] (.cons 12 [] .nil .nil) .nil) .nil)) .nil)) (.cons 9 [] (.cons 8 [] (.cons 10 [] (.cons 11 [] (.cons 12 [] .nil .nil) .nil) .nil) (.cons 10 [] (.cons 8 [] (.cons 11 [] (.cons 12 [] .nil .nil) .nil) .nil) .nil)) (.cons 10 [] (.cons 8 [] (.cons 9 [] (.cons 11 [] (.cons 12 [] .nil .nil) .nil) (.cons 11 [] (.cons 9 [] (.cons 12 [] .nil .nil) .nil) .nil)) (.cons 9 [] (.cons 8 [] (.cons 11 [] (.cons 12 [] .nil .nil) .nil) .nil) .nil)) .nil))) (.cons 8 [] (.cons 7 [] (.cons 9 [] (.cons 10 [] (.cons 11 [] (.cons 12 [] .nil .nil) .nil) .nil) (.cons 10 [] (.cons 9 [] (.cons 11 [] (.cons 12 [] .nil .nil) .nil) (.cons 11 [] (.cons 9 [] (.cons 12 [] .nil .nil) .nil) .nil)) .nil)) (.cons 9 [] (.cons 7 [] (.cons 10 [] (.cons 11 [] (.cons 12 [] .nil .nil) .nil) .nil) .nil) .nil)) (.cons 9 [] (.cons 7 [] (.cons 8 [] (.cons 10 [] (.cons 11 [] (.cons 12 [] .nil .nil) .nil) .nil) (.cons 10 [] (.cons 8 [] (.cons 11 [] (.cons 12 [] .nil .nil) .nil) .nil) .nil)) (.cons 8 [] (.cons 7 [] (.cons 10 [] (.cons 11 [] (.cons 12 [] .nil .nil) .nil) .nil) .nil) .nil)) .nil))) .nil) .nil) .nil))]⟩ ?_;simp only[Tryz.f119,ntmps119,iz,seval];simp only[vx,T,seval,eM,tV,tC,eV,ag];refine Lk (fun y:{i:Nat//i≤n}=>⟨[(4,.one (.ptr 1 0)),(5,.one (.int .i64 0)),(6,.one (.ptr 2 0)),(14,tV n u),(15,.one (.int .i64 n)),(16,.one (.int .i64 y.1))],[(1,⟨.var [.nil,.nil],true⟩),(2,⟨.var [tC (s y.1).1.length (s y.1).1,.own 3 1 0 y.1],true⟩),(3,⟨.rows 54 1 y.1 (fun j _=>ag ((s y.1).2.getD j [])),true⟩)],4,44⟩) (fun y=>n-y.1) ⟨0,O2 _⟩ ?_ (fun⟨i,hi⟩=>?_)
 ·refine j4 [(1,some 1),(2,some 5),(3,none)] ?_;simp only[ry,seval,tV,tC,eV,ag,X4]
 simp only;have wi:=wI i (by omega);simp only[vx,T,seval,tV,tC,eV,ag,wi];refine⟨fun g=>Lg ?_,fun g=>Lg ?_⟩
 ·have SU:i<n:=by omega
  obtain⟨e,w,ci,ca,er⟩:=hS i SU;have Ub:=hl i hi;have h3i:=Xv i hi;obtain⟨v,hv⟩:∃v,v=u.getD i []:=⟨_,rfl⟩;rw[←hv]at ci;obtain⟨U,hU⟩:∃U,U=(s i).1:=⟨_,rfl⟩;obtain⟨rs,Ud⟩:∃rs,rs=(s i).2:=⟨_,rfl⟩;rw[←Ud]at er Ub;rw[←hU,←Ud]at ci;rw[←hU]at ca h3i;rw[←hU,←Ud];simp only[vx,T,seval,tV,tC,eV,ag,←hv];refine⟨⟨by omega,by omega⟩,Cm 3 (B:=rB i rs) rfl trivial ci ?_⟩;rintro _ _ ⟨rfl,rfl⟩ _;simp only[vx,T,seval,rB,oM,tV,tC,eV,ag,←hv];refine Cg ca ?_;simp only[vx,T,seval,rB,oM,tV,tC,eV,ag,←hv,wi];have es:(s (i+1)).2=rs++[w]:=er;have e1:∀j,j<i→(rs++[w]).getD j []=rs.getD j []:=fun j hj=>Go.Tw.cR (by omega);have e2:(rs++[w]).getD i []=w:=by rw[←Ub];exact Go.Tw.fU
  repeat' (with_reducible refine Q3 ?_ ?_)
  all_goals first|omega|(refine Lq ⟨i+1,by omega⟩ ?_ (by show n-(i+1)<n-i;omega))
  all_goals
   refine j4 [(1,some 1),(2,some 2),(3,some 36)] ?_;simp only[ry,seval,tV,tC,eV,ag];rw[es];intro k j hk hj;obtain rfl:j=0:=by omega
   by_cases Wf:k<i
   ·rw[if_pos Wf,e1 k Wf]
   obtain rfl:k=i:=by omega
   rw[if_neg Wf,e2,Nat.sub_self];rfl
 have SU:i=n:=by omega
 subst SU;simp only[vx,T,seval,tV,tC,eV,ag,wi];exact Ve rfl
end
open Go Go.Eng
open Go.Tw (El aC aH zE aj av QB cM tB val In Rd mv TG bZ bA a9 aY Ext jS yX)
def bC (x:List El×El):Nat→C
 |0=>tC x.1.length x.1
 |1=>ag x.2
 |_=>.any
def eZ (l:List (List El×El))(i:Nat):Nat→C:=bC (l.getD i default)
def bP (l:List (List El×El)):C:=.rows 2 l.length (eZ l)
def nX (x:List El×El):V:=nV x.1.length x.1 x.2
theorem sf {h:Nat}{t:List El}{a:El}(tk:Tk h t)(ha:a.length<2^38)(hq:Qk a):Pr prog 93 [nV h t a] (nV h t a):=by
 have h8:=tk.le8;have c:=(oD a ha hq).rows;have d:∀i,i<h→Pr prog 139 [eV (t.getD i [])] (.one (.rows 4 (t.getD i []).length (fQ (t.getD i [])))):=fun i hi=>
  (oD _ (by rw[tk.len i hi];exact aN (by omega)) (tk.q i hi)).rows
 refine pw func93 ⟨[0,1,2,3,5,11,12,13,14],[]⟩ ?_;simp only[Tryz.f93,ntmps93,iz,seval];simp only[vx,T,seval,nV,tC,eV,ag];refine Cg c ?_;simp only[vx,T,seval,nV,tC,eV,ag];refine Lk (fun y:{i:Nat//i≤h}=>⟨[(1,.one (.ptr 1 0)),(2,.one (.ptr 2 0)),(3,.one (.ptr 7 0)),(11,tV h t),(12,.one (.int .i64 h)),(13,.one (.int .i64 y.1))],[(1,⟨.var [tC h t,ag a],true⟩),(2,⟨.var [.nil,.nil],true⟩),(7,⟨.var [.own 8 1 0 y.1,ag a],true⟩),(8,⟨.rows 54 1 y.1 (fun j _=>ag (t.getD j [])),true⟩)],12,26⟩) (fun y=>h-y.1) ⟨0,O2 _⟩ ?_ (fun⟨i,hi⟩=>?_)
 ·refine j4 [(1,some 1),(2,some 2),(7,some 7),(8,none)] ?_;simp only[ry,seval,nV,tV,tC,eV,ag,X4];exact fun _ _ _ _=>rfl
 simp only;have wi:=wI i (by omega);simp only[vx,T,seval,tV,tC,eV,ag,wi];refine⟨fun g=>Lg ?_,fun g=>Lg ?_⟩
 ·have di:=d i (by omega);obtain⟨v,hv⟩:∃v,v=t.getD i []:=⟨_,rfl⟩;rw[←hv]at di;simp only[vx,T,seval,tV,tC,eV,ag,←hv,wi];refine⟨by omega,Cg di ?_⟩;simp only[vx,T,seval,tV,tC,eV,ag,←hv,wi];refine⟨⟨by omega,by omega⟩,Lq ⟨i+1,by omega⟩ ?_ (by show h-(i+1)<h-i;omega)⟩;refine j4 [(1,some 1),(2,some 2),(7,some 7),(8,some 24)] ?_;simp only[ry,seval,tV,tC,eV,ag];intro k j hk hj;obtain rfl:j=0:=by omega
  by_cases Wf:k<i
  ·rw[if_pos Wf]
  obtain rfl:k=i:=by omega
  rw[if_neg Wf,Nat.sub_self,←hv];rfl
 have SU:i=h:=by omega
 subst SU;simp only[vx,T,seval,tV,tC,eV,ag,wi];exact Ve rfl
def wx (t x t':List El):Prop:=
 (eJ t.length x.length t x=true∧t'=t)∨(eJ t.length x.length t x=false∧eJ x.length t.length x t=true∧t'=x)∨
 (eJ t.length x.length t x=false∧eJ x.length t.length x t=false∧∃rs,Pr prog 119 [tV t.length t,tV x.length x] (.aB [eM t'.length t' rs,.one (.int .i64 0)]))
theorem se (l:List (List El×El))(hl:l.length<2^30)(tt:Nat→List El)(h0:tt 0=[])(tk:∀i,i≤l.length→Tk (tt i).length (tt i))(xk:∀i,i<l.length→Tk (l.getD i default).1.length (l.getD i default).1)
  (st:∀i,i<l.length→wx (tt i) (l.getD i default).1 (tt (i+1))):Pr prog 118 [.one (bP l)] (.aB [tV (tt l.length).length (tt l.length),.one (.int .i64 0)]):=by
 have e0:(tt 0).length=0:=by rw[h0];rfl
 refine pw func118 ⟨[0,2,3,4,6,7,8,9,10,11,12,23,27,32],[]⟩ ?_;simp only[Tryz.f118,ntmps118,iz,seval];simp only[vx,T,seval,bP];refine Lk (fun y:{i:Nat//i≤l.length}=>⟨[(2,.one .nil),(3,.one (.int .i64 0)),(4,tV (tt y.1).length (tt y.1)),(9,.one (bP l)),(10,.one (.int .i64 l.length)),(11,.one (.int .i64 y.1))],[],1,41⟩) (fun y=>l.length-y.1) ⟨0,O2 _⟩ ?_ (fun⟨i,hi⟩=>?_)
 ·refine Sa ?_;simp only[ry,seval,rz,bP,tV,tC,e0]
 simp only;have wi:=wI i (by omega);simp only[vx,T,seval,bP,tV,tC,wi];refine⟨fun g=>Lg ?_,fun g=>Lg ?_⟩
 ·have SU:i<l.length:=by omega
  have sti:=st i SU;have b1:=hO (tk i hi) (xk i SU);have b2:=hO (xk i SU) (tk i hi);obtain⟨x,hx⟩:∃x,x=l.getD i default:=⟨_,rfl⟩;rw[←hx]at sti b1 b2;obtain⟨t,ht⟩:∃t,t=tt i:=⟨_,rfl⟩;rw[←ht]at sti b1 b2;obtain⟨t',Vb⟩:∃t',t'=tt (i+1):=⟨_,rfl⟩;rw[←Vb]at sti;rw[←ht]
  rcases sti with⟨g1,e⟩|⟨g1,g2,e⟩|⟨g1,g2,rs,c⟩
  ·rw[g1]at b1;simp only[vx,T,seval,bP,eZ,bC,tV,tC,←hx,wi];refine⟨by omega,Cg b1 ?_⟩;simp only[vx,T,seval,bP,eZ,bC,tV,tC,←hx,wi];refine Lq ⟨i+1,by omega⟩ ?_ (by show l.length-(i+1)<l.length-i;omega);refine Sa ?_;simp only[ry,seval,rz,bP,tV,tC,←Vb,e]
  ·rw[g1]at b1;rw[g2]at b2;simp only[vx,T,seval,bP,eZ,bC,tV,tC,←hx,wi];refine⟨by omega,Cg b1 ?_⟩;simp only[vx,T,seval,bP,eZ,bC,tV,tC,←hx,wi];refine Cg b2 ?_;simp only[vx,T,seval,bP,eZ,bC,tV,tC,←hx,wi];refine Lq ⟨i+1,by omega⟩ ?_ (by show l.length-(i+1)<l.length-i;omega);refine Sa ?_;simp only[ry,seval,rz,bP,tV,tC,←Vb,e]
  rw[g1]at b1;rw[g2]at b2;simp only[vx,T,seval,bP,eZ,bC,tV,tC,←hx,wi];refine⟨by omega,Cg b1 ?_⟩;simp only[vx,T,seval,bP,eZ,bC,tV,tC,←hx,wi];refine Cg b2 ?_;simp only[vx,T,seval,bP,eZ,bC,tV,tC,←hx,wi];refine Cg c ?_;simp only[vx,T,seval,bP,eZ,bC,tV,tC,eM,←hx,wi];refine Lq ⟨i+1,by omega⟩ ?_ (by show l.length-(i+1)<l.length-i;omega);refine Sa ?_;simp only[ry,seval,rz,bP,tV,tC,←Vb]
 have SU:i=l.length:=by omega
 subst SU;simp only[vx,T,seval,bP,tV,tC,wi];exact Ve rfl
def wK (T':List El)(x:List El×El)(e:El):Prop:=
 (eJ T'.length x.1.length T' x.1=true∧Pr prog 78 [tV T'.length T',eV x.2] (eV e))∨
 (eJ T'.length x.1.length T' x.1=false∧∃U rs,Pr prog 119 [tV T'.length T',tV x.1.length x.1] (.aB [eM U.length U rs,.one (.int .i64 0)])∧Pr prog 120 [eM U.length U rs,eV x.2] (eV e))
theorem tQ {ks:List (List El×El)}{k:Nat}(hk:ks.length=k)(x:List El×El):∀(i j:Nat),i<k+1→j<2→
  (if i<k then eZ ks i j else[tC x.1.length x.1,ag x.2].getD ((i-k)*2+j) C.any)=eZ (ks++[x]) i j:=by
 subst hk;intro i j hi hj
 by_cases h:i<ks.length
 ·rw[if_pos h];unfold eZ;rw[X7,X7,List.getElem?_append_left h]
 have:i=ks.length:=by omega
 subst this;have e:(ks++[x]).getD ks.length default=x:=by rw[X7,List.getElem?_append_right (O1 _),Nat.sub_self];rfl
 rw[if_neg h,Nat.sub_self,Nat.zero_mul,Nat.zero_add];unfold eZ;rw[e]
 match j,hj with
 |0,_=>rfl
 |1,_=>rfl
theorem tI (l os:List (List El×El))(hl:l.length<2^30)(WD:os.length=l.length)(U:List El)(uk:Tk U.length U)(xk:∀i,i<l.length→Tk (l.getD i default).1.length (l.getD i default).1)
  (cm:Pr prog 118 [.one (bP l)] (.aB [tV U.length U,.one (.int .i64 0)]))
  (st:∀i,i<l.length→(os.getD i default).1=U∧(os.getD i default).2.length<2^38∧Qk (os.getD i default).2∧wK U (l.getD i default) (os.getD i default).2):
  dK prog 74 [.one (bP l)] (.rows 56 2 os.length (eZ os)) (.int .i64 0):=by
 have u8:=uk.le8;refine tw func74 ⟨[0,2,3,4,5,6,8,9,10,11,18,20,21,22,23,31,45],[]⟩ ?_;simp only[Tryz.f74,ntmps74,iz,seval];simp only[vx,T,seval,bP];refine Cg cm ?_;simp only[vx,T,seval,bP,tV,tC];refine Lk (fun y:{i:Nat//i≤l.length}=>⟨[(2,.one .nil),(3,.one (.int .i64 0)),(4,tV U.length U),(6,.one (.own 1 2 0 y.1)),(20,.one (bP l)),(21,.one (.int .i64 l.length)),(22,.one (.int .i64 y.1))],[(1,⟨.rows 56 2 y.1 (eZ (os.take y.1)),true⟩)],16,59⟩) (fun y=>l.length-y.1) ⟨0,O2 _⟩ ?_ (fun⟨i,hi⟩=>?_)
 ·refine Sa ?_;simp only[ry,seval,rz,bP,tV,tC]
 simp only;have wi:=wI i (by omega);simp only[vx,T,seval,bP,tV,tC,wi];refine⟨fun g=>Lg ?_,fun g=>Lg ?_⟩
 ·have SU:i<l.length:=by omega
  obtain⟨s1,s2,s3,sj⟩:=st i SU;have b1:=hO uk (xk i SU);have S1:os.take (i+1)=os.take i++[os.getD i default]:=by rw[List.take_add_one,X7,X8 (by omega)];rfl
  have Zc:(os.take i).length=i:=by rw[X5];omega
  have sn:=tQ Zc (os.getD i default);rw[←S1]at sn;obtain⟨x,hx⟩:∃x,x=l.getD i default:=⟨_,rfl⟩;rw[←hx]at sj b1;obtain⟨o,ho⟩:∃o,o=os.getD i default:=⟨_,rfl⟩;rw[←ho]at s1 s2 s3 sj sn;have dt:=sf uk s2 s3;rw[s1]at sn
  rcases sj with⟨g1,c⟩|⟨g1,V,rs,c,d⟩
  ·rw[g1]at b1;simp only[vx,T,seval,bP,eZ,bC,tV,tC,←hx,wi];refine⟨by omega,Cg b1 ?_⟩;simp only[vx,T,seval,bP,eZ,bC,tV,tC,←hx,wi];refine Cg c ?_;simp only[vx,T,seval,bP,eZ,bC,tV,tC,eV,ag,←hx,wi];refine Cg dt ?_;simp only[vx,T,seval,bP,nV,tV,tC,eV,ag,wi];refine⟨⟨by omega,by omega⟩,Lq ⟨i+1,by omega⟩ ?_ (by show l.length-(i+1)<l.length-i;omega)⟩;refine Sa ?_;simp only[ry,seval,rz,bP,tV,tC,ag];exact sn
  rw[g1]at b1;simp only[vx,T,seval,bP,eZ,bC,tV,tC,←hx,wi];refine⟨by omega,Cg b1 ?_⟩;simp only[vx,T,seval,bP,eZ,bC,tV,tC,←hx,wi];refine Cg c ?_;simp only[vx,T,seval,bP,eZ,bC,tV,tC,eV,ag,eM,←hx,wi];refine Cg d ?_;simp only[vx,T,seval,bP,eZ,bC,tV,tC,eV,ag,←hx,wi];refine Cg dt ?_;simp only[vx,T,seval,bP,nV,tV,tC,eV,ag,wi];refine⟨⟨by omega,by omega⟩,Lq ⟨i+1,by omega⟩ ?_ (by show l.length-(i+1)<l.length-i;omega)⟩;refine Sa ?_;simp only[ry,seval,rz,bP,tV,tC,ag];exact sn
 have SU:i=l.length:=by omega
 subst SU;have e:os.take l.length=os:=by rw[←WD,List.take_length]
 simp only[vx,T,seval,bP,tV,tC,wi,e];exact⟨WD.symm,rfl,WD.symm,fun _ _ _ _=>rfl⟩
theorem F9 (l os:List (List El×El))(hl:l.length<2^30)(WD:os.length=l.length)(U:List El)(uk:Tk U.length U)(xk:∀i,i<l.length→Tk (l.getD i default).1.length (l.getD i default).1)
  (cm:Pr prog 118 [.one (bP l)] (.aB [tV U.length U,.one (.int .i64 0)]))
  (st:∀i,i<l.length→(os.getD i default).1=U∧(os.getD i default).2.length<2^38∧Qk (os.getD i default).2∧wK U (l.getD i default) (os.getD i default).2):
  Pr prog 74 [.one (bP l)] (.aB [.one (bP os),.one (.int .i64 0)]):=(tI l os hl WD U uk xk cm st).rows
open Go Go.Eng
open Go.Tw (El)
abbrev Nb:=List El×El
def ao (n:Nat)(r:Nat→Nb):C:=.rows 2 n (fun i=>bC (r i))
def aq (r:Nat)(c:Nat→Nat)(m:Nat→Nat→Nb):C:=.rows 1 r (fun i _=>ao (c i) (m i))
theorem wV (f:Nat→Nb)(k:Nat):∀(i j:Nat),i<k+1→j<2→(if i<k then bC (f i) j else[tC (f k).1.length (f k).1,ag (f k).2].getD ((i-k)*2+j) C.any)=bC (f i) j:=by
 intro i j hi hj
 by_cases h:i<k
 ·rw[if_pos h]
 obtain rfl:i=k:=by omega
 rw[if_neg h,Nat.sub_self,Nat.zero_mul,Nat.zero_add]
 match j,hj with
 |0,_=>rfl
 |1,_=>rfl
theorem DF (F:Nat→C)(k:Nat):∀(i j:Nat),i<k+1→j<1→(if i<k then F i else[F k].getD ((i-k)*1+j) C.any)=F i:=by
 intro i j hi hj
 by_cases h:i<k
 ·rw[if_pos h]
 obtain rfl:i=k:=by omega
 obtain rfl:j=0:=by omega
 rw[if_neg h,Nat.sub_self];rfl
theorem Pv {x y z:Nb}(h:Pr prog 61 [nX x,nX y] (.aB [nX z,.one (.int .i64 0)])):Pr prog 131 [nX x,nX y] (nX z):=by
 refine pw func131 ⟨[0,1,2,3,4,5],[]⟩ ?_;simp only[Tryz.f131,ntmps131,iz,seval];simp only[vx,T,seval,nX,nV,tC,ag];refine Cg h ?_;simp only[vx,T,seval,nX,nV,tC,ag];exact Ve rfl
theorem OO {x y z:Nb}(h:Pr prog 25 [nX x,nX y] (.aB [nX z,.one (.int .i64 0)])):Pr prog 132 [nX x,nX y] (nX z):=by
 refine pw func132 ⟨[0,1,2,3,4,5],[]⟩ ?_;simp only[Tryz.f132,ntmps132,iz,seval];simp only[vx,T,seval,nX,nV,tC,ag];refine Cg h ?_;simp only[vx,T,seval,nX,nV,tC,ag];exact Ve rfl
theorem OV {n n':Nat}(a b s p:Nat→Nb)(hn:n<2^38)(Uy:n≤n')(h0:Pr prog 24 [.one (.int .i64 0)] (nX (s 0)))(hm:∀i,i<n→Pr prog 132 [nX (a i),nX (b i)] (nX (p i)))
  (ha:∀i,i<n→Pr prog 131 [nX (s i),nX (p i)] (nX (s (i+1)))):Pr prog 83 [.one (ao n a),.one (ao n' b)] (nX (s n)):=by
 refine pw func83 ⟨[0,1,4,5,6,11],[]⟩ ?_;simp only[Tryz.f83,ntmps83,iz,seval];simp only[vx,T,seval,ao,nX,nV,tC,ag];refine Cg h0 ?_;simp only[vx,T,seval,ao,nX,nV,tC,ag];refine Lk (fun y:{i:Nat//i≤n}=>⟨[(0,.one (ao n a)),(1,.one (ao n' b)),(4,.one (.ptr 1 0)),(5,.one (.ptr 2 0)),(6,.one (.int .i64 y.1))],[(1,⟨.var [.nil,.nil],true⟩),(2,⟨.var [tC (s y.1).1.length (s y.1).1,ag (s y.1).2],true⟩)],3,26⟩) (fun y=>n-y.1) ⟨0,O2 _⟩ ?_ (fun⟨i,hi⟩=>?_)
 ·refine Sa ?_;simp only[ry,seval,rz,ao,tC,ag]
 simp only;have wi:=wI i (by omega);simp only[vx,T,seval,ao];refine⟨fun g=>Lg ?_,fun g=>Lg ?_⟩
 ·have c1:=hm i (by omega);have c2:=ha i (by omega);simp only[vx,T,seval,ao,bC,wi,tC,ag];refine⟨by omega,by omega,Cg c1 ?_⟩;simp only[vx,T,seval,nX,nV,ao,bC,wi,tC,ag];refine Cg c2 ?_;simp only[vx,T,seval,nX,nV,ao,bC,wi,tC,ag];refine Lq ⟨i+1,by omega⟩ ?_ (by show n-(i+1)<n-i;omega);refine Sa ?_;simp only[ry,seval,rz,ao,tC,ag]
 obtain rfl:i=n:=by omega
 simp only[vx,T,seval,ao,nX,nV,tC,ag];exact Ve rfl
theorem L4 {n m:Nat}(a b:Nat→Nb)(hn:n<2^38)(e:Nat→Bool)(h:n=m→∀i,i<n→Pr prog 46 [nX (a i),nX (b i)] (.one (.bool (e i)))){r:Bool}(hr:r=true↔n=m∧∀i,i<n→e i=true):Pr prog 18 [.one (ao n a),.one (ao m b)] (.one (.bool r)):=by
 refine pw func18 ⟨[0,1,4,5,10,14,26],[]⟩ ?_;simp only[Tryz.f18,ntmps18,iz,seval];simp only[vx,T,seval,ao];refine⟨fun g0=>Lg ?_,fun g0=>Lg ?_⟩
 ·have hb:r=false:=Bool.eq_false_iff.2 fun h=>g0 (by have:=(hr.1 h).1;omega);subst hb;simp only[vx,T,seval];exact Ve rfl
 have YM:n=m:=by omega
 simp only[vx,T,seval,ao];refine Lk (fun y:{i:Nat//i≤n∧∀j,j<i→e j=true}=>⟨[(0,.one (ao n a)),(1,.one (ao m b)),(4,.one (.bool false)),(5,.one (.int .i64 y.1))],[],1,27⟩) (fun y=>n-y.1) ⟨0,O2 _,fun j hj=>absurd hj (O5 _)⟩ ?_ (fun⟨i,hi,hz⟩=>?_)
 ·refine Sa ?_;simp only[ry,seval,rz,ao]
 simp only;have wi:=wI i (by omega);simp only[vx,T,seval,ao];refine⟨fun g=>Lg ?_,fun g=>Lg ?_⟩
 ·have c:=h YM i (by omega);simp only[vx,T,seval,ao,bC,tC,ag,wi];refine⟨by omega,by omega,Cg c ?_⟩
  cases he:e i with
  |false=>
   have hb:r=false:=Bool.eq_false_iff.2 fun h=>by have:=(hr.1 h).2 i (by omega);rw[he]at this;cases this
   subst hb;simp only[vx,T,seval,ao,wi];exact Ve rfl
  |true=>
   simp only[vx,T,seval,ao,wi];refine Lq ⟨i+1,by omega,fun j hj=>?_⟩ ?_ (by show n-(i+1)<n-i;omega)
   ·by_cases k:j<i
    ·exact hz j k
    obtain rfl:j=i:=by omega
    exact he
   refine Sa ?_;simp only[ry,seval,rz,ao]
 have hb:r=true:=hr.2 ⟨YM,fun j hj=>hz j (by omega)⟩;subst hb;simp only[vx,T,seval,ao];exact Ve rfl
theorem HG {n m:Nat}(c d:Nat→Nat)(a b:Nat→Nat→Nb)(hn:n<2^38)(e:Nat→Bool)(h:n=m→∀i,i<n→Pr prog 18 [.one (ao (c i) (a i)),.one (ao (d i) (b i))] (.one (.bool (e i)))){r:Bool}(hr:r=true↔n=m∧∀i,i<n→e i=true):Pr prog 11 [.one (aq n c a),.one (aq m d b)] (.one (.bool r)):=by
 refine pw func11 ⟨[0,1,4,5,10,14,26],[]⟩ ?_;simp only[Tryz.f11,ntmps11,iz,seval];simp only[vx,T,seval,aq,ao];refine⟨fun g0=>Lg ?_,fun g0=>Lg ?_⟩
 ·have hb:r=false:=Bool.eq_false_iff.2 fun h=>g0 (by have:=(hr.1 h).1;omega);subst hb;simp only[vx,T,seval];exact Ve rfl
 have YM:n=m:=by omega
 simp only[vx,T,seval,aq,ao];refine Lk (fun y:{i:Nat//i≤n∧∀j,j<i→e j=true}=>⟨[(0,.one (aq n c a)),(1,.one (aq m d b)),(4,.one (.bool false)),(5,.one (.int .i64 y.1))],[],1,27⟩) (fun y=>n-y.1) ⟨0,O2 _,fun j hj=>absurd hj (O5 _)⟩ ?_ (fun⟨i,hi,hz⟩=>?_)
 ·refine Sa ?_;simp only[ry,seval,rz,aq,ao]
 simp only;have wi:=wI i (by omega);simp only[vx,T,seval,aq,ao];refine⟨fun g=>Lg ?_,fun g=>Lg ?_⟩
 ·have c:=h YM i (by omega);simp only[vx,T,seval,aq,ao,wi];refine⟨by omega,by omega,Cg c ?_⟩
  cases he:e i with
  |false=>
   have hb:r=false:=Bool.eq_false_iff.2 fun h=>by have:=(hr.1 h).2 i (by omega);rw[he]at this;cases this
   subst hb;simp only[vx,T,seval,aq,ao,wi];exact Ve rfl
  |true=>
   simp only[vx,T,seval,aq,ao,wi];refine Lq ⟨i+1,by omega,fun j hj=>?_⟩ ?_ (by show n-(i+1)<n-i;omega)
   ·by_cases k:j<i
    ·exact hz j k
    obtain rfl:j=i:=by omega
    exact he
   refine Sa ?_;simp only[ry,seval,rz,aq,ao]
 have hb:r=true:=hr.2 ⟨YM,fun j hj=>hz j (by omega)⟩;subst hb;simp only[vx,T,seval,aq,ao];exact Ve rfl
theorem KP {n:Nat}(a:Nat→Nb)(hn:n<2^38)(h:∀i,i<n→Pr prog 45 [nX (a i)] (.one (.bool true))):Pr prog 17 [.one (ao n a)] (.one (.bool true)):=by
 refine pw func17 ⟨[0,2,3,7,15],[]⟩ ?_;simp only[Tryz.f17,ntmps17,iz,seval];simp only[vx,T,seval,ao];refine Lk (fun y:{i:Nat//i≤n}=>⟨[(0,.one (ao n a)),(2,.one (.bool false)),(3,.one (.int .i64 y.1))],[],1,16⟩) (fun y=>n-y.1) ⟨0,O2 _⟩ ?_ (fun⟨i,hi⟩=>?_)
 ·refine Sa ?_;simp only[ry,seval,rz,ao]
 simp only;have wi:=wI i (by omega);simp only[vx,T,seval,ao];refine⟨fun g=>Lg ?_,fun g=>Lg ?_⟩
 ·have c:=h i (by omega);simp only[vx,T,seval,ao,bC,tC,ag,wi];refine⟨by omega,Cg c ?_⟩;simp only[vx,T,seval,ao,wi];refine Lq ⟨i+1,by omega⟩ ?_ (by show n-(i+1)<n-i;omega);refine Sa ?_;simp only[ry,seval,rz,ao]
 simp only[vx,T,seval,ao];exact Ve rfl
theorem Bl {n:Nat}(c:Nat→Nat)(a:Nat→Nat→Nb)(hn:n<2^38)(h:∀i,i<n→Pr prog 17 [.one (ao (c i) (a i))] (.one (.bool true))):Pr prog 37 [.one (aq n c a)] (.one (.bool true)):=by
 refine pw func37 ⟨[0,2,3,7,15],[]⟩ ?_;simp only[Tryz.f37,ntmps37,iz,seval];simp only[vx,T,seval,aq,ao];refine Lk (fun y:{i:Nat//i≤n}=>⟨[(0,.one (aq n c a)),(2,.one (.bool false)),(3,.one (.int .i64 y.1))],[],1,16⟩) (fun y=>n-y.1) ⟨0,O2 _⟩ ?_ (fun⟨i,hi⟩=>?_)
 ·refine Sa ?_;simp only[ry,seval,rz,aq,ao]
 simp only;have wi:=wI i (by omega);simp only[vx,T,seval,aq,ao];refine⟨fun g=>Lg ?_,fun g=>Lg ?_⟩
 ·have c:=h i (by omega);simp only[vx,T,seval,aq,ao,wi];refine⟨by omega,Cg c ?_⟩;simp only[vx,T,seval,aq,ao,wi];refine Lq ⟨i+1,by omega⟩ ?_ (by show n-(i+1)<n-i;omega);refine Sa ?_;simp only[ry,seval,rz,aq,ao]
 simp only[vx,T,seval,aq,ao];exact Ve rfl
theorem lL {r:Nat}(c:Nat→Nat)(m:Nat→Nat→Nb){k:Nat}(hk:k=if r=0 then 0 else c 0)(hr:r<2^38):Pr prog 12 [.one (aq r c m)] (.one (.int .i64 k)):=by
 refine pw func12 ⟨[0,2,5],[]⟩ ?_;simp only[Tryz.f12,ntmps12,iz,seval];simp only[vx,T,seval,aq];refine⟨fun g=>Lg ?_,fun g=>Lg ?_⟩
 ·have hb:k=0:=by rw[hk,if_pos (by omega)]
  subst hb;simp only[vx,T,seval];exact Ve rfl
 have hb:k=c 0:=by rw[hk,if_neg (by omega)]
 subst hb;simp only[vx,T,seval,aq,ao];refine⟨by omega,?_⟩;exact Ve rfl
theorem rA {r:Nat}(c:Nat→Nat)(m:Nat→Nat→Nb)(k:Nat)(hn:r<2^38)(hk:∀i,i<r→k<c i):Pr prog 15 [.one (aq r c m),.one (.int .i64 k)] (.one (ao r fun i=>m i k)):=by
 refine pw func15 ⟨[0,1,4,5,6,10],[]⟩ ?_;simp only[Tryz.f15,ntmps15,iz,seval];simp only[vx,T,seval,aq,ao];refine Lk (fun y:{i:Nat//i≤r}=>⟨[(0,.one (aq r c m)),(1,.one (.int .i64 k)),(4,.one .nil),(5,.one (.own 1 2 0 y.1)),(6,.one (.int .i64 y.1))],[(1,⟨.rows 56 2 y.1 (fun i=>bC (m i k)),true⟩)],2,24⟩) (fun y=>r-y.1) ⟨0,O2 _⟩ ?_ (fun⟨i,hi⟩=>?_)
 ·refine Sa ?_;simp only[ry,seval,rz,aq,ao]
 simp only;have wi:=wI i (by omega);simp only[vx,T,seval,aq,ao];refine⟨fun g=>Lg ?_,fun g=>Lg ?_⟩
 ·have Tb:i<r:=by omega
  have Wf:=hk i Tb;simp only[vx,T,seval,aq,ao,bC,wi,tC,ag];refine⟨by omega,by omega,?_⟩;refine⟨⟨by omega,by omega⟩,Lq ⟨i+1,by omega⟩ ?_ (by show r-(i+1)<r-i;omega)⟩;refine Sa ?_;simp only[ry,seval,rz,aq,ao,nX,nV,tC,ag];exact wV _ i
 obtain rfl:i=r:=by omega
 simp only[vx,T,seval,aq,ao];exact Ve rfl
theorem Ij {r n:Nat}(c:Nat→Nat)(m:Nat→Nat→Nb)(v o:Nat→Nb)(hn:r<2^38)(h:∀i,i<r→Pr prog 83 [.one (ao (c i) (m i)),.one (ao n v)] (nX (o i))):Pr prog 44 [.one (aq r c m),.one (ao n v)] (.one (ao r o)):=by
 refine pw func44 ⟨[0,1,4,5,6,10],[]⟩ ?_;simp only[Tryz.f44,ntmps44,iz,seval];simp only[vx,T,seval,aq,ao];refine Lk (fun y:{i:Nat//i≤r}=>⟨[(0,.one (aq r c m)),(1,.one (ao n v)),(4,.one .nil),(5,.one (.own 1 2 0 y.1)),(6,.one (.int .i64 y.1))],[(1,⟨.rows 56 2 y.1 (fun i=>bC (o i)),true⟩)],2,23⟩) (fun y=>r-y.1) ⟨0,O2 _⟩ ?_ (fun⟨i,hi⟩=>?_)
 ·refine Sa ?_;simp only[ry,seval,rz,aq,ao]
 simp only;have wi:=wI i (by omega);simp only[vx,T,seval,aq,ao];refine⟨fun g=>Lg ?_,fun g=>Lg ?_⟩
 ·have Tb:i<r:=by omega
  have hc:=h i Tb;simp only[vx,T,seval,aq,ao,wi];refine⟨by omega,Cg hc ?_⟩;simp only[vx,T,seval,aq,ao,nX,nV,wi,tC,ag];refine⟨⟨by omega,by omega⟩,Lq ⟨i+1,by omega⟩ ?_ (by show r-(i+1)<r-i;omega)⟩;refine Sa ?_;simp only[ry,seval,rz,aq,ao,nX,nV,tC,ag];exact wV _ i
 obtain rfl:i=r:=by omega
 simp only[vx,T,seval,aq,ao];exact Ve rfl
theorem On {r r2:Nat}(c c2 d:Nat→Nat)(m m2 t o:Nat→Nat→Nb){n:Nat}(hn:r<2^38)(ht:Pr prog 9 [.one (aq r2 c2 m2)] (.one (aq n d t)))(h:∀i,i<r→Pr prog 44 [.one (aq n d t),.one (ao (c i) (m i))] (.one (ao n (o i)))):Pr prog 14 [.one (aq r c m),.one (aq r2 c2 m2)] (.one (aq r (fun _=>n) o)):=by
 refine pw func14 ⟨[0,1,4,5,6,7,13],[]⟩ ?_;simp only[Tryz.f14,ntmps14,iz,seval];simp only[vx,T,seval,aq,ao];refine Cg ht ?_;simp only[vx,T,seval,aq,ao];refine Lk (fun y:{i:Nat//i≤r}=>⟨[(0,.one (aq r c m)),(5,.one (aq n d t)),(4,.one .nil),(6,.one (.own 1 1 0 y.1)),(7,.one (.int .i64 y.1))],[(1,⟨.rows 38 1 y.1 (fun i _=>ao n (o i)),true⟩)],2,26⟩) (fun y=>r-y.1) ⟨0,O2 _⟩ ?_ (fun⟨i,hi⟩=>?_)
 ·refine Sa ?_;simp only[ry,seval,rz,aq,ao]
 simp only;have wi:=wI i (by omega);simp only[vx,T,seval,aq,ao];refine⟨fun g=>Lg ?_,fun g=>Lg ?_⟩
 ·have Tb:i<r:=by omega
  have hc:=h i Tb;simp only[vx,T,seval,aq,ao,wi];refine⟨by omega,Cg hc ?_⟩;simp only[vx,T,seval,aq,ao,wi];refine⟨⟨by omega,by omega⟩,Lq ⟨i+1,by omega⟩ ?_ (by show r-(i+1)<r-i;omega)⟩;refine Sa ?_;simp only[ry,seval,rz,aq,ao];exact DF (fun i=>ao n (o i)) i
 obtain rfl:i=r:=by omega
 simp only[vx,T,seval,aq,ao];exact Ve rfl
theorem yo {r n:Nat}(c:Nat→Nat)(m:Nat→Nat→Nb)(hn:n<2^38)(hv:Pr prog 38 [.one (aq r c m)] (.one (.bool true)))(hk:Pr prog 12 [.one (aq r c m)] (.one (.int .i64 n)))(h:∀k,k<n→Pr prog 15 [.one (aq r c m),.one (.int .i64 k)] (.one (ao r fun i=>m i k))):Pr prog 9 [.one (aq r c m)] (.one (aq n (fun _=>r) fun k i=>m i k)):=by
 refine pw func9 ⟨[0,2,3,4,12],[]⟩ ?_;simp only[Tryz.f9,ntmps9,iz,seval];simp only[vx,T,seval,aq,ao];refine Lk (fun y:{i:Nat//i≤n}=>⟨[(0,.one (aq r c m)),(2,.one .nil),(3,.one (.own 1 1 0 y.1)),(4,.one (.int .i64 y.1))],[(1,⟨.rows 38 1 y.1 (fun k _=>ao r fun i=>m i k),true⟩)],2,22⟩) (fun y=>n-y.1) ⟨0,O2 _⟩ ?_ (fun⟨i,hi⟩=>?_)
 ·refine Sa ?_;simp only[ry,seval,rz,aq,ao]
 simp only;have wi:=wI i (by omega);simp only[vx,T,seval,aq,ao];refine Cg hv ?_;simp only[vx,T,seval,aq,ao];refine Cg hk ?_;simp only[vx,T,seval,aq,ao];refine⟨fun g=>Lg ?_,fun g=>Lg ?_⟩
 ·have Tb:i<n:=by omega
  have hc:=h i Tb;simp only[vx,T,seval,aq,ao,wi];refine Cg hc ?_;simp only[vx,T,seval,aq,ao,wi];refine⟨⟨by omega,by omega⟩,Lq ⟨i+1,by omega⟩ ?_ (by show n-(i+1)<n-i;omega)⟩;refine Sa ?_;simp only[ry,seval,rz,aq,ao];exact DF (fun k=>ao r fun i=>m i k) i
 obtain rfl:i=n:=by omega
 simp only[vx,T,seval,aq,ao];exact Ve rfl
theorem Iv {r:Nat}(c:Nat→Nat)(m:Nat→Nat→Nb)(hn:r<2^38)(hc:∀i,i<r→c i<2^38):Fr prog 7 [.one (aq r c m)] (.rows 38 1 r (fun i _=>ao (c i) (m i))):=by
 refine fw func7 ⟨[0,2,3,4,8],[]⟩ ?_;simp only[Tryz.f7,ntmps7,iz,seval];simp only[vx,T,seval,aq,ao];refine Lk (fun y:{i:Nat//i≤r}=>⟨[(0,.one (aq r c m)),(2,.one .nil),(3,.one (.own 1 1 0 y.1)),(4,.one (.int .i64 y.1))],[(1,⟨.rows 38 1 y.1 (fun i _=>ao (c i) (m i)),true⟩)],2,21⟩) (fun y=>r-y.1) ⟨0,O2 _⟩ ?_ (fun⟨i,hi⟩=>?_)
 ·refine Sa ?_;simp only[ry,seval,rz,aq,ao]
 simp only;have wi:=wI i (by omega);simp only[vx,T,seval,aq,ao];refine⟨fun g=>Lg ?_,fun g=>Lg ?_⟩
 ·have Tb:i<r:=by omega
  have hci:=hc i Tb;simp only[vx,T,seval,aq,ao,wi,O5,Nat.sub_zero];refine⟨by omega,by omega,?_⟩;refine⟨⟨by omega,by omega⟩,Lq ⟨i+1,by omega⟩ ?_ (by show r-(i+1)<r-i;omega)⟩;refine Sa ?_;simp only[ry,seval,rz,aq,ao];exact DF (fun i=>ao (c i) (m i)) i
 obtain rfl:i=r:=by omega
 simp only[vx,T,seval,aq,ao];exact⟨rfl,rfl,fun _ _ _ _=>rfl⟩
theorem xM {r:Nat}(c:Nat→Nat)(m:Nat→Nat→Nb)(hn:r<2^38)(hc:∀i,i<r→c i<2^38):Pr prog 7 [.one (aq r c m)] (.one (aq r c m)):=(Iv c m hn hc).rows
open Go Go.Eng
open Go.Tw (El)
section
variable (lV:Pr prog 4 [] (.one (.bool true)))
include lV
theorem I5 {no s no' s':Nat}{fo fo':Nat→Nat→C}{cs cs':List Int}{X Y:C}{b b':Bool}(hx:X= .nil∨∃r c m,X=aq r (fun _=>c) m)(hy:Y= .nil∨∃r c m,Y=aq r (fun _=>c) m)
  (cm:Pr prog 5 [.agg [.rows 5 no fo,.ints .u8 cs,.int .u8 s],.one (.int .i64 24)] (.aB [.one X,.one (.bool b)]))
  (cm':Pr prog 5 [.agg [.rows 5 no' fo',.ints .u8 cs',.int .u8 s'],.one (.int .i64 24)] (.aB [.one Y,.one (.bool b')])) (h:b=false∨b'=false):
  Pr prog 3 [.agg [.rows 5 no fo,.ints .u8 cs,.int .u8 s],.agg [.rows 5 no' fo',.ints .u8 cs',.int .u8 s']] (.one (.bool true)):=by
 have h4:(b=false∧b'=false)∨(b=false∧b'=true)∨(b=true∧b'=false):=by
  cases b<;>cases b'<;>simp at h⊢
 clear h
 rcases hx with rfl|⟨r,c,m,rfl⟩<;>rcases hy with rfl|⟨r',c',m',rfl⟩<;>rcases h4 with⟨rfl,rfl⟩|⟨rfl,rfl⟩|⟨rfl,rfl⟩
 all_goals
  refine pw func3 ⟨[0,1,2,3,4,5,6,7,8,9,10,11,12,13,14,15,17,19,35,67,79,94,116,118,119,120,148],[]⟩ ?_;simp only[Tryz.f3,ntmps3,iz,seval];simp only[vx,T,seval];refine Cg lV ?_;simp only[vx,T,seval];refine Cg cm ?_;simp only[vx,T,seval,aq];refine Cg cm' ?_;simp only[vx,T,seval,aq];exact Ve rfl
theorem GL {no s no' s':Nat}{fo fo':Nat→Nat→C}{cs cs':List Int}{r c r2 c2 r3 c3:Nat}{x y y3 P Q W:Nat→Nat→Nb}{z:Nat→Nb}{b1 b2:Bool}
  (cm:Pr prog 5 [.agg [.rows 5 no fo,.ints .u8 cs,.int .u8 s],.one (.int .i64 24)] (.aB [.one (aq r (fun _=>c) x),.one (.bool true)]))
  (cm':Pr prog 5 [.agg [.rows 5 no' fo',.ints .u8 cs',.int .u8 s'],.one (.int .i64 24)] (.aB [.one (aq r2 (fun _=>c2) y),.one (.bool true)])) (hc:c≤24) (Xf:c3≤24) (hr3:r3≤24)
  (cpx:Pr prog 7 [.one (aq r (fun _=>c) x)] (.one (aq r (fun _=>c) x))) (cpy:Pr prog 7 [.one (aq r2 (fun _=>c2) y)] (.one (aq r2 (fun _=>c2) y)))
  (cp3:Pr prog 7 [.one (aq r3 (fun _=>c3) y3)] (.one (aq r3 (fun _=>c3) y3)))
  (tx:Pr prog 6 [.one (aq r (fun _=>c) x)] (.one (aq c (fun _=>r) fun i j=>x j i))) (rx:Pr prog 9 [.one (aq r (fun _=>c) x)] (.one (aq c (fun _=>r) fun i j=>x j i)))
  (vt:Pr prog 8 [.one (aq c (fun _=>r) fun i j=>x j i),.one (aq c (fun _=>r) fun i j=>x j i)] (.one (.bool true)))
  (e1:Pr prog 10 [.one (aq r (fun _=>c) x),.one (aq r2 (fun _=>c2) y)] (.one (.bool b1))) (e2:Pr prog 11 [.one (aq r (fun _=>c) x),.one (aq r2 (fun _=>c2) y)] (.one (.bool b1)))
  (e3:Pr prog 10 [.one (aq r (fun _=>c) x),.one (aq c (fun _=>r) fun i j=>x j i)] (.one (.bool b2))) (e4:Pr prog 11 [.one (aq r (fun _=>c) x),.one (aq c (fun _=>r) fun i j=>x j i)] (.one (.bool b2)))
  (kx:Pr prog 12 [.one (aq r (fun _=>c) x)] (.one (.int .i64 c))) (ky:Pr prog 12 [.one (aq r2 (fun _=>c2) y)] (.one (.int .i64 c2)))
  (ht:(((c:Int)=(r2:Int))=False∧((c:Int)=(c2:Int))=True∧Pr prog 9 [.one (aq r2 (fun _=>c2) y)] (.one (aq r3 (fun _=>c3) y3)))∨(((c:Int)=(r2:Int))=True∧r3=r2∧c3=c2∧y3=y)∨
   (((c:Int)=(r2:Int))=False∧((c:Int)=(c2:Int))=False∧r3=r2∧c3=c2∧y3=y))
  (k3:Pr prog 12 [.one (aq r3 (fun _=>c3) y3)] (.one (.int .i64 c3)))
  (hm:(((c:Int)=(r3:Int))=False∧Pr prog 13 [.one (aq r (fun _=>c) x),.one (aq r3 (fun _=>c3) y3)] (.aB [.one .nil,.one (.int .i64 1)]))∨
   ((
    (c:Int)=(r3:Int))=True∧Pr prog 13 [.one (aq r (fun _=>c) x),.one (aq r3 (fun _=>c3) y3)] (.aB [.one (aq r (fun _=>c3) P),.one (.int .i64 0)])∧
    Pr prog 14 [.one (aq r (fun _=>c) x),.one (aq r3 (fun _=>c3) y3)] (.one (aq r (fun _=>c3) Q))∧Pr prog 8 [.one (aq r (fun _=>c3) P),.one (aq r (fun _=>c3) Q)] (.one (.bool true))∧
    ∀k:Nat,k<c3→Pr prog 15 [.one (aq r3 (fun _=>c3) y3),.one (.int .i64 k)] (.one (ao r3 fun i=>y3 i k))∧Pr prog 16 [.one (aq r (fun _=>c) x),.one (ao r3 fun i=>y3 i k)] (.aB [.one (ao r (W k)),.one (.int .i64 0)])∧
     Pr prog 17 [.one (ao r (W k))] (.one (.bool true))∧Pr prog 15 [.one (aq r (fun _=>c3) P),.one (.int .i64 k)] (.one (ao r fun i=>P i k))∧Pr prog 18 [.one (ao r (W k)),.one (ao r fun i=>P i k)] (.one (.bool true))))
  (li:Pr prog 19 [.one (.ints .i64 (List.replicate (c+1) 0))] (.one (ao (c+1) z))) (ae:Pr prog 16 [.one (aq r (fun _=>c) x),.one (ao (c+1) z)] (.aB [.one .nil,.one (.int .i64 1)])):
  Pr prog 3 [.agg [.rows 5 no fo,.ints .u8 cs,.int .u8 s],.agg [.rows 5 no' fo',.ints .u8 cs',.int .u8 s']] (.one (.bool true)):=by
 cases b2
 all_goals
  refine pw func3 ⟨[0,1,2,3,4,5,6,7,8,9,10,11,12,13,14,15,17,19,35,67,79,94,116,118,119,120,148],[]⟩ ?_;simp only[Tryz.f3,ntmps3,iz,seval];simp only[vx,T,seval];refine Cg lV ?_;simp only[vx,T,seval];refine Cg cm ?_;simp only[vx,T,seval,aq,ao];refine Cg cm' ?_;simp only[vx,T,seval,aq,ao];refine Cg cpx ?_;simp only[vx,T,seval,aq,ao];refine Cg tx ?_;simp only[vx,T,seval,aq,ao];refine Cg rx ?_;simp only[vx,T,seval,aq,ao];refine Cg vt ?_;simp only[vx,T,seval,aq,ao];refine Cg cpx ?_;simp only[vx,T,seval,aq,ao];refine Cg cpy ?_;simp only[vx,T,seval,aq,ao];refine Cg e1 ?_;simp only[vx,T,seval,aq,ao];refine Cg e2 ?_;simp only[vx,T,seval,aq,ao];refine Cg cpx ?_;simp only[vx,T,seval,aq,ao];refine Cg e3 ?_;simp only[vx,T,seval,aq,ao]
  try
   refine Cg rx ?_;simp only[vx,T,seval,aq,ao];refine Cg e4 ?_;simp only[vx,T,seval,aq,ao]
  refine Cg kx ?_
  rcases ht with⟨f1,f2,ct⟩|⟨f1,rfl,rfl,rfl⟩|⟨f1,f2,rfl,rfl,rfl⟩
  all_goals
   simp only[vx,T,seval,aq,ao,f1]
   try
    refine Cg kx ?_;simp only[vx,T,seval,aq,ao,f1];refine Cg ky ?_;simp only[vx,T,seval,aq,ao,f1,f2]
   try
    refine Cg ct ?_;simp only[vx,T,seval,aq,ao]
   refine Cg cpx ?_;simp only[vx,T,seval,aq,ao];refine Cg cp3 ?_;simp only[vx,T,seval,aq,ao]
   rcases hm with⟨f3,cl⟩|⟨f3,cl,cq,vp,ck⟩
   ·refine Cg cl ?_;simp only[vx,T,seval,aq,ao];refine Cg kx ?_;simp only[vx,T,seval,aq,ao,f3];exact Ve rfl
   refine Cg cl ?_;simp only[vx,T,seval,aq,ao];refine Cg kx ?_;simp only[vx,T,seval,aq,ao,f3];refine Cg cq ?_;simp only[vx,T,seval,aq,ao];refine Cg vp ?_;simp only[vx,T,seval,aq,ao];refine Cg k3 ?_;simp only[vx,T,seval,aq,ao];refine Lk (fun q:{k:Nat//k≤c3}=>⟨[(5,.one (aq r (fun _=>c) x)),(7,.one (aq r3 (fun _=>c3) y3)),(10,.one (aq r (fun _=>c3) P)),(118,.one (.int .i64 c3)),(119,.one (.int .i64 q.1))],[],1,163⟩) (fun q=>c3-q.1) ⟨0,O2 _⟩ ?_ (fun⟨k,hk⟩=>?_)
   ·refine Sa ?_;simp only[ry,seval,rz,aq,ao]
   simp only;have wk:=wI k (by omega);simp only[vx,T,seval,aq,ao];refine⟨fun g=>Lg ?_,fun g=>Lg ?_⟩
   ·obtain⟨k1,k2,k4,k5,k6⟩:=ck k (by omega);simp only[vx,T,seval,aq,ao];refine Cg k1 ?_;simp only[vx,T,seval,aq,ao];refine Cg cpx ?_;simp only[vx,T,seval,aq,ao,O5,Nat.sub_zero];refine⟨⟨by omega,by omega⟩,Cg k2 ?_⟩;simp only[vx,T,seval,aq,ao];refine Cg k4 ?_;simp only[vx,T,seval,aq,ao];refine Cg k5 ?_;simp only[vx,T,seval,aq,ao];refine Cg k6 ?_;simp only[vx,T,seval,aq,ao,wk];refine Lq ⟨k+1,by omega⟩ ?_ (by show c3-(k+1)<c3-k;omega);refine Sa ?_;simp only[ry,seval,rz,aq,ao]
   simp only[vx,T,seval,aq,ao];refine Cg cpx ?_;simp only[vx,T,seval,aq,ao];refine Cg kx ?_;have wc:=wI c (by omega);simp only[vx,T,seval,aq,ao,wc,Q1];refine⟨by omega,Cg li ?_⟩;simp only[vx,T,seval,aq,ao];refine Cg ae ?_;simp only[vx,T,seval,aq,ao];exact Ve rfl
end
open Go Go.Eng
open Go.Tw (El)
theorem dH.RW {f:FuncId}{caps:Nat→C}{e:C}(h:caps 0=e):dH (.fn f 1 caps) (.fn f 1 (fun _=>e)):=by
 rintro ok w v ⟨cs,hv,hn,hc⟩;refine⟨cs,hv,hn,fun i hi=>?_⟩;obtain rfl:i=0:=by omega
 rw[←h];exact hc 0 hi
def F7 (c:C):C:=.elt (.rows 1 1 (fun _ j=>PY ([c].getD j .any))) 1 0 0
theorem fM {r:Nat}(c:Nat→Nat)(m:Nat→Nat→Nb){k:Nat}(hk:k=if r=0 then 0 else c 0)(hr:r<2^38):Pr prog 36 [.one (aq r c m)] (.one (.int .i64 k)):=by
 refine pw func36 ⟨[0,2,5],[]⟩ ?_;simp only[Tryz.f36,ntmps36,iz,seval];simp only[vx,T,seval,aq];refine⟨fun g=>Lg ?_,fun g=>Lg ?_⟩
 ·have hb:k=0:=by rw[hk,if_pos (by omega)]
  subst hb;simp only[vx,T,seval];exact Ve rfl
 have hb:k=c 0:=by rw[hk,if_neg (by omega)]
 subst hb;simp only[vx,T,seval,aq,ao];refine⟨by omega,?_⟩;exact Ve rfl
theorem KR {r n:Nat}(c:Nat→Nat)(m:Nat→Nat→Nb)(a:Nat→Nb){k:Nat}(hk:k=if r=0 then 0 else c 0)(hr:r<2^38):Pr prog 71 [.one (ao n a),.one (F7 (aq r c m))] (.one (.bool (decide (n≠k)))):=by
 have h:=fM c m hk hr;unfold F7;refine pw func71 ⟨[0,1,3],[]⟩ ?_;simp only[Tryz.f71,ntmps71,iz,seval];simp only[vx,T,seval,ao,aq];refine Cg h ?_;simp only[vx,T,seval];refine Ve ?_
 congr 2
 rw[decide_eq_decide];omega
theorem MV {r:Nat}(c:Nat→Nat)(m:Nat→Nat→Nb)(f:FuncId){S:C}{wd io oo:Nat}(p:Nat→Bool)(hr:r<2^38)(hf:∀i,i<r→Pr prog f [.one (ao (c i) (m i)),.one (.elt S wd io oo)] (.one (.bool (p i)))){k:Int}(hk:(k= -1∧∀i,i<r→p i=false)∨∃j:Nat,k=j∧j<r∧p j=true∧∀i,i<j→p i=false):
  Pr prog 88 [.one (aq r c m),.one (.fn f 1 (fun _=>.elt S wd io oo))] (.one (.int .i64 k)):=by
 refine pw func88 ⟨[0,1,4,5,7,8,9,16],[]⟩ ?_;simp only[Tryz.f88,ntmps88,iz,seval];simp only[vx,T,seval,aq];refine Lk (fun y:{i:Nat//i≤r∧∀j,j<i→p j=false}=>⟨[(0,.one (aq r c m)),(1,.one (.fn f 1 (fun _=>.elt S wd io oo))),(4,.one (.int .i64 0)),(7,.one (.int .i64 r)),(8,.one (.int .i64 y.1))],[],1,19⟩) (fun y=>r-y.1) ⟨0,O2 _,fun j hj=>absurd hj (O5 _)⟩ ?_ (fun⟨i,hi,hz⟩=>?_)
 ·refine Sa ?_;simp only[ry,seval,rz,aq]
 simp only;have wi:=wI i (by omega);simp only[vx,T,seval,aq];refine⟨fun g=>Lg ?_,fun g=>Lg ?_⟩
 ·have cc:=hf i (by omega);simp only[vx,T,seval,aq,ao,wi];refine⟨by omega,Cg cc ?_⟩
  cases hp:p i with
  |true=>
   have hb:k=i:=by
    rcases hk with⟨_,h⟩|⟨j,h1,h2,h3,h4⟩
    ·have:=h i (by omega);rw[hp]at this;cases this
    by_cases e1:j<i
    ·have:=hz j e1;rw[h3]at this;cases this
    by_cases e2:i<j
    ·have:=h4 i e2;rw[hp]at this;cases this
    rw[h1];congr 1;omega
   subst hb;simp only[vx,T,seval,aq,ao,wi];exact Ve rfl
  |false=>
   simp only[vx,T,seval,aq,ao,wi];refine Lq ⟨i+1,by omega,fun j hj=>?_⟩ ?_ (by show r-(i+1)<r-i;omega)
   ·by_cases e:j<i
    ·exact hz j e
    obtain rfl:j=i:=by omega
    exact hp
   refine Sa ?_;simp only[ry,seval,rz,aq]
 have hb:k= -1:=by
  rcases hk with⟨h,_⟩|⟨j,h1,h2,h3,h4⟩
  ·exact h
  have:=hz j (by omega);rw[h3]at this;cases this
 subst hb;simp only[vx,T,seval,aq,ao,wi];exact Ve rfl
theorem PW {r:Nat}(c:Nat→Nat)(m:Nat→Nat→Nb)(f:FuncId){S:C}{wd io oo:Nat}(p:Nat→Bool)(hr:r<2^38)(hf:∀i,i<r→Pr prog f [.one (ao (c i) (m i)),.one (.elt S wd io oo)] (.one (.bool (p i)))){b:Bool}(hb:b=true↔∃i,i<r∧p i=true):
  Pr prog 70 [.one (aq r c m),.one (.fn f 1 (fun _=>.elt S wd io oo))] (.one (.bool b)):=by
 have first:∃k:Int,((k= -1∧∀i,i<r→p i=false)∨∃j:Nat,k=j∧j<r∧p j=true∧∀i,i<j→p i=false)∧b=decide (0≤k):=by
  cases Tq:b with
  |false=>
   refine⟨-1,.inl ⟨rfl,fun i hi=>?_⟩,by decide⟩
   cases hp:p i with
   |false=>rfl
   |true=>have:=hb.2 ⟨i,hi,hp⟩;rw[Tq]at this;cases this
  |true=>
   obtain⟨i,hi,hp⟩:=hb.1 Tq;have key:∀n i,i<n→p i=true→∃j,j≤i∧p j=true∧∀i',i'<j→p i'=false:=by
    intro n
    induction n with
    |zero=>intro i hi;omega
    |succ n ih=>
     intro i hi hp
     by_cases h:∃i',i'<i∧p i'=true
     ·obtain⟨i',h1,h2⟩:=h;obtain⟨j,g1,g2,g3⟩:=ih i' (by omega) h2;exact⟨j,by omega,g2,g3⟩
     exact⟨i,O1 _,hp,fun i' Uk=>by
      cases e:p i' with
      |false=>rfl
      |true=>exact absurd ⟨i',Uk,e⟩ h⟩
   obtain⟨j,g1,g2,g3⟩:=key (i+1) i (by omega) hp;exact⟨j,.inr ⟨j,rfl,by omega,g2,g3⟩,by simp⟩
 obtain⟨k,hk,rfl⟩:=first;have h:=MV c m f p hr hf hk;refine pw func70 ⟨[0,1,4],[]⟩ ?_;simp only[Tryz.f70,ntmps70,iz,seval];simp only[vx,T,seval,aq];refine Cg h ?_;simp only[vx,T,seval];exact Ve (by simp)
theorem iJ {r:Nat}(c:Nat→Nat)(m:Nat→Nat→Nb)(hr:r<2^38){b:Bool}(hb:b=true↔∀i,i<r→c i=c 0):Pr prog 35 [.one (aq r c m)] (.one (.bool b)):=by
 have h:=PW c m 71 (fun i=>decide (c i≠if r=0 then 0 else c 0)) hr (fun i _=>KR (n:=c i) c m (m i) rfl hr) (b:=!b) (by
  rw[Bool.not_eq_true',←Bool.not_eq_true,hb];refine⟨fun h=>?_,fun⟨i,hi,h⟩ k=>?_⟩
  ·have:∃i,i<r∧c i≠c 0:=Classical.not_forall_not.1 fun k=>h fun i hi=>Classical.byContradiction fun e=>k i ⟨hi,e⟩
   obtain⟨i,hi,e⟩:=this;exact⟨i,hi,by rw[if_neg (by omega)];simpa using e⟩
  rw[if_neg (by omega)]at h;exact absurd (k i hi) (by simpa using h))
 refine pw func35 ⟨[0,1,2],[]⟩ ?_;simp only[Tryz.f35,ntmps35,iz,seval];simp only[vx,T,seval,aq];refine Cg (h.args ⟨.refl _,.cell (dH.RW rfl),trivial⟩) ?_;simp only[vx,T,seval,aq];exact Ve (by simp)
open Go Go.Proofs Go.RowKit Go.Eng
set_option maxRecDepth 100000 in
theorem Cj (k:Nat)(h0:0<k)(hb:k*48≤140737488355328)(w:World)(i:TypeInfo)(z:Value)(hi:prog.info? 56=some i)(hz:i.zero=some z)(hs:i.size=2)(Xh:i.bytes=48):
  Calls prog 155 #[.slice none 0 0,.int .i64 k] w fun e w'=>e= .returned (.slice (some ⟨w.heap.size,0,none⟩) 0 (grownCap w k 0 56))∧
   w'=w.drew.alloc (.cells (Builtin.zeroCells z.cells k++Builtin.zeroCells z.cells (grownCap w k 0 56-k)) 56):=by
 have h1:¬((k:Int)<0):=by omega
 have h3:wrap64 ((k:Int)-(((0:Nat):Int)-((0:Nat):Int)))=(k:Int):=by unfold wrap64;omega
 have h4:(k:Int)>0:=by omega
 have hrz:∀ty,(Builtin.append_ #[38,3] ty #[.slice none 0 0,.int .i64 (k:Int)]).run prog w=
   .ok (.slice (some ⟨w.heap.size,0,none⟩) k (grownCap w k 0 56)) (w.drew.alloc (.cells (Builtin.zeroCells z.cells k++Builtin.zeroCells z.cells (grownCap w k 0 56-k)) 56)):=fun ty=>
  Lib.run_append_nil_zeros w 38 3 ty 56 i z .i64 .i64 (by rfl) (by rfl) hi hz k h0 (by omega) (by omega) (by rw[Xh];omega)
 obtain⟨G,hG⟩:∃G,G=grownCap w k 0 56:=⟨_,rfl⟩;rw[←hG]at hrz⊢;have hGn:k≤G:=by rw[hG];exact grownCap_ge w _ _ _
 clear hG
 go_enter func155,ntmps155
 go_wp2_with (at_builtin;refine Lib.wpList_append_run _ rfl _ _ _ _ rfl _ _ rfl rfl _ _ (hrz _) ?_)
 all_goals(go_ret;exact⟨rfl,rfl⟩)
set_option maxRecDepth 100000 in
theorem By (w:World):Calls prog 155 #[.slice none 0 0,.int .i64 0] w fun e w'=>e= .returned (.slice none 0 0)∧w'=w:=by
 go_enter func155,ntmps155
 go_wp2
 go_ret
 exact⟨rfl,rfl⟩
theorem BL (k:Nat)(hb:k*48≤140737488355328):Fr prog 155 [.one .nil,.one (.int .i64 k)] (.rows 56 2 0 (fun _ _=>.any)):=by
 obtain⟨i,d,z,hi,hu,hz,_,hs,Xh,TW,_⟩:=bF CV (show T 56=some _ from rfl);have hs:i.size=2:=hs.symm;have Xh:i.bytes=48:=Xh.symm;refine⟨⟨_,func155,by rfl,by rfl⟩,trivial,fun ok w vs Tc hr=>?_⟩;obtain⟨vs⟩:=vs
 match vs,hr with
 |[v,u],hr=>
  obtain⟨hv,hu,_⟩:=hr;have hv:v= .slice none 0 0:=hv;have hu:u= .int .i64 k:=hu;subst hv hu
  by_cases h0:k=0
  ·subst h0
   refine(By w).mono ?_
   rintro e w' ⟨rfl,rfl⟩;exact⟨_,⟨none,0⟩,rfl,Go.RowKit.Below.refl _ _,rfl,(fun g o h=>by cases h),(fun j=>by simp[Bk.cell]),trivial,O1 _,0,O1 _,.inr ⟨rfl,rfl,rfl,rfl⟩⟩
  refine(Cj k (by omega) hb w i z hi hz hs Xh).mono ?_
  rintro e w' ⟨rfl,rfl⟩;have UB:z.cells.size=2:=by
   have:=congrArg List.length TW
   simpa[T]using this.symm
  have hGn:k≤grownCap w k 0 56:=grownCap_ge w _ _ _;refine⟨_,⟨some (w.heap.size,0),0⟩,rfl,((Go.RowKit.Below.refl _ w).drew).alloc (O1 _) _,rfl,fun g o h=>?_,?_,trivial,O1 _,grownCap w k 0 56,O2 _,.inl ⟨w.heap.size,0,0,rfl,rfl,.inr (by simp),?_⟩⟩
  ·have:w.heap.size=g:=by simpa using congrArg (Option.map Prod.fst) h
   subst this;exact⟨O1 _,by simp⟩
  ·unfold aM;refine⟨_,56,heap_alloc_new w.drew _,fun j c hj=>?_⟩
   simp[Bk.cell]at hj
  have Ud:b7 (w.drew.alloc (.cells (Builtin.zeroCells z.cells k++Builtin.zeroCells z.cells (grownCap w k 0 56-k)) 56)) w.heap.size=(Builtin.zeroCells z.cells k++Builtin.zeroCells z.cells (grownCap w k 0 56-k)).size:=dJ (heap_alloc_new w.drew _);rw[Ud];simp only[Array.size_append,size_zeroCells,UB,Bk.wd];omega
open Go Go.Eng
open Go.Tw (El)
theorem OW (p q:List Nb):∀(i j:Nat),i<p.length+q.length→j<2→(if i<p.length then eZ p i j else eZ q (i-p.length) j)=eZ (p++q) i j:=by
 intro i j _ _;unfold eZ
 by_cases h:i<p.length
 ·rw[if_pos h,X7,X7,List.getElem?_append_left h]
 rw[if_neg h,X7,X7,List.getElem?_append_right (by omega)]
theorem pn (ps:List (List Nb))(hl:ps.flatten.length<2^38)(hk:ps.length<2^38):Fr prog 107 [.one (.rows 1 ps.length (fun i _=>bP (ps.getD i default)))] (.rows 56 2 (ps.flatten).length (eZ (ps.flatten))):=by
 refine fw func107 ⟨[0,2,3,5,6,8,9,10,11,12,20,25,26,27,28],[]⟩ ?_;simp only[Tryz.f107,ntmps107,iz,seval];simp only[vx,T,seval];refine Lk (fun y:{i:Nat//i≤ps.length}=>⟨[(0,.one (.rows 1 ps.length (fun i _=>bP (ps.getD i default)))),(3,.one (.int .i64 (ps.take y.1).flatten.length)),(9,.one (.rows 1 ps.length (fun i _=>bP (ps.getD i default)))),(10,.one (.int .i64 ps.length)),(11,.one (.int .i64 y.1))],[],1,36⟩) (fun y=>ps.length-y.1) ⟨0,O2 _⟩ ?_ (fun⟨i,hi⟩=>?_)
 ·refine Sa ?_;simp only[ry,seval,rz]
 have h0:=j6 ps i;have i1:=wI i (by omega);simp only[vx,T,seval];refine⟨fun h1=>Lg ?_,fun h1=>Lg ?_⟩
 ·have hs:=ot (ps:=ps) (i:=i) (by omega);have h2:=j6 ps (i+1);have V4:(ps.take (i+1)).flatten.length=(ps.take i).flatten.length+(ps.getD i default).length:=by rw[hs,X6]
  obtain⟨a,ha⟩:∃a,a=ps.getD i default:=⟨_,rfl⟩;rw[←ha]at V4;have w1:IntKind.i64.wrap (((ps.take i).flatten.length:Int)+a.length)=((ps.take (i+1)).flatten.length:Int):=by rw[Q4 _ (by omega)];omega
  simp only[vx,T,seval,bP,←ha];simp only[w1];refine⟨by omega,fun h=>absurd h (by omega),fun _=>Lg ?_⟩;simp only[vx,T,seval,bP,←ha];simp only[i1];refine Lq ⟨i+1,by omega⟩ ?_ ?_
  ·refine Sa ?_;simp only[ry,seval,rz]
  simp only;omega
 have XX:i=ps.length:=by omega
 subst XX;rw[List.take_length];simp only[vx,T,seval];refine cN.fresh (BL ps.flatten.length (by omega)) ?_;simp only[vx,T,seval];refine Lk (fun y:{i:Nat//i≤ps.length}=>⟨[(0,.one (.rows 1 ps.length (fun i _=>bP (ps.getD i default)))),(6,.one (.own 1 2 0 (ps.take y.1).flatten.length)),(25,.one (.rows 1 ps.length (fun i _=>bP (ps.getD i default)))),(26,.one (.int .i64 ps.length)),(27,.one (.int .i64 y.1))],[(1,⟨(.rows 56 2 ((ps.take y.1).flatten).length (eZ ((ps.take y.1).flatten))),true⟩)],2,36⟩) (fun y=>ps.length-y.1) ⟨0,O2 _⟩ ?_ (fun⟨i,hi⟩=>?_)
 ·refine Sa ?_;simp only[ry,seval,rz];exact fun i j h=>absurd h (by omega)
 have h0:=j6 ps i;have i1:=wI i (by omega);simp only[vx,T,seval];refine⟨fun h1=>Lg ?_,fun h1=>Lg ?_⟩
 ·have hs:=ot (ps:=ps) (i:=i) (by omega);have h2:=j6 ps (i+1);have V4:(ps.take (i+1)).flatten.length=(ps.take i).flatten.length+(ps.getD i default).length:=by rw[hs,X6]
  obtain⟨a,ha⟩:∃a,a=ps.getD i default:=⟨_,rfl⟩;rw[←ha]at V4 hs;simp only[vx,T,seval,bP,←ha];simp only[i1];refine⟨by omega,by rw[←X6,←hs];omega,Lq ⟨i+1,by omega⟩ ?_ ?_⟩
  ·refine Sa ?_;simp only[ry,seval,rz,hs];exact⟨by simp,by simp,OW _ _⟩
  simp only;omega
 have XX:i=ps.length:=by omega
 subst XX;rw[List.take_length];simp only[vx,T,seval];exact⟨rfl,rfl,fun _ _ _ _=>rfl⟩
def yU (n:Nat)(a:Nat→Nb):List Nb:=(List.range n).map a
theorem gX {n:Nat}{a:Nat→Nb}:(yU n a).length=n:=by simp[yU]
theorem te {n:Nat}{a:Nat→Nb}{i:Nat}(hi:i<n):(yU n a).getD i default=a i:=by
 unfold yU;rw[X7,List.getElem?_map,List.getElem?_range hi];rfl
theorem CS {n:Nat}{a:Nat→Nb}:dH (ao n a) (bP (yU n a)):=.rows gX.symm fun i j hi _=>.of_eq (by unfold eZ;rw[te hi])
theorem vU {c:Nat}{M:Nat→Nat→Nb}:∀{r:Nat},((List.range r).map fun i=>yU c (M i)).flatten.length=r*c∧∀p,p<r*c→((List.range r).map fun i=>yU c (M i)).flatten.getD p default=M (p/c) (p%c)
 |0=>⟨by simp,fun p hp=>by omega⟩
 |r+1=>by
  obtain⟨h1,h2⟩:=vU (c:=c) (M:=M) (r:=r);have e:((List.range (r+1)).map fun i=>yU c (M i)).flatten=((List.range r).map fun i=>yU c (M i)).flatten++yU c (M r):=by
   rw[List.range_succ,List.map_append,List.flatten_append];simp
  refine⟨by rw[e,X6,h1,gX,Nat.add_mul,Nat.one_mul],fun p hp=>?_⟩;rw[e,X7]
  by_cases hpr:p<r*c
  ·rw[List.getElem?_append_left (by omega),←X7];exact h2 p hpr
  have hc:0<c:=Nat.pos_of_ne_zero fun e=>by subst e;omega
  rw[Nat.add_mul,Nat.one_mul]at hp;rw[List.getElem?_append_right (by omega),h1,←X7,te (by omega)];have e1:p=r*c+(p-r*c):=by omega
  have e2:p/c=r:=by
   rw[e1,O6,Nat.mul_add_div hc,Nat.div_eq_of_lt (by rw[O6];omega)];omega
  have e3:p%c=p-r*c:=by
   have:=Nat.div_add_mod p c
   rw[e2,O6]at this;omega
  rw[e2,e3]
theorem JQ {r c:Nat}(M:Nat→Nat→Nb)(hn:r*c<2^38)(hr:r<2^38):Pr prog 107 [.one (aq r (fun _=>c) M)] (.one (ao (r*c) fun p=>M (p/c) (p%c))):=by
 obtain⟨h1,h2⟩:=vU (c:=c) (M:=M) (r:=r);have k:=(pn ((List.range r).map fun i=>yU c (M i)) (by rw[h1];exact hn) (by simpa using hr)).rows;have k2:Pr prog 107 [.one (aq r (fun _=>c) M)] _:=k.args ⟨.cell (.rows (by simp) fun i j hi hj=>?_),trivial⟩;refine k2.res (fR.cell (.rows h1 fun p j hp _=>.of_eq ?_))
 rotate_left
 ·have e:((List.range r).map fun i=>yU c (M i)).getD i default=yU c (M i):=by
   rw[X7,List.getElem?_map,List.getElem?_range hi];rfl
  rw[e];exact CS
 rw[h1]at hp;unfold eZ;rw[h2 p hp]
theorem zA {n m:Nat}(a b:Nat→Nb)(hn:n+m<2^38):Pr prog 107 [.one (.rows 1 2 (fun i j=>[ao n a,ao m b].getD (i*1+j) .any))] (.one (ao (n+m) fun i=>if i<n then a i else b (i-n))):=by
 have k:=(pn [yU n a,yU m b] (by simpa[gX]using hn) (by simp)).rows;have e:[yU n a,yU m b].flatten=yU n a++yU m b:=by simp
 rw[e]at k;have k2:Pr prog 107 [.one (.rows 1 2 (fun i j=>[ao n a,ao m b].getD (i*1+j) .any))] _:=k.args ⟨.cell (.rows rfl fun i j hi hj=>?_),trivial⟩;refine k2.res (fR.cell (.rows (by rw[X6,gX,gX]) fun p j hp _=>.of_eq ?_))
 rotate_left
 ·obtain rfl:j=0:=by omega
  match i,hi with
  |0,_=>exact CS
  |1,_=>exact CS
 rw[X6,gX,gX]at hp;unfold eZ;rw[X7]
 by_cases h:p<n
 ·rw[List.getElem?_append_left (by rw[gX];exact h),←X7,te h];simp only[if_pos h]
 rw[List.getElem?_append_right (by rw[gX];omega),gX,←X7,te (by omega)];simp only[if_neg h]
end Go.Proofs.YtehahgjkjfoebaaGreat
namespace Go.Eng
open Go
theorem H2 {w j:Nat}(hj:j<32)(hw:w<4294967296)(hd:w%2^(j+1)=0):fm .or .u32 (w:Int) ((2^j:Nat):Int)=((w+2^j:Nat):Int)∧w+2^j<4294967296:=by
 have hp:2^j<2^(j+1):=Nat.pow_lt_pow_right (by decide) (by omega);have UO:2^j<2^32:=Nat.pow_lt_pow_right (by decide) hj
 have e:w|||2^j=w+2^j:=by
  have h1:=Nat.two_pow_add_eq_or_of_lt (i:=j+1) (b:=2^j) hp (w/2^(j+1));have h2:2^(j+1)*(w/2^(j+1))=w:=by have:=Nat.div_add_mod w (2^(j+1));omega
  rw[h2]at h1;exact h1.symm
 have SI:w|||2^j<2^32:=Nat.or_lt_two_pow hw UO
 refine⟨?_,by rw[←e];exact SI⟩;show IntKind.u32.wrap _=_
 have eb:(BitVec.ofInt 32 (w:Int)|||BitVec.ofInt 32 ((2^j:Nat):Int)).toNat=w+2^j:=by
  rw[BitVec.toNat_or,BitVec.ofInt_natCast,BitVec.ofInt_natCast,BitVec.toNat_ofNat,BitVec.toNat_ofNat,O7 hw,O7 UO,e]
 have eb2:(BitVec.ofInt IntKind.u32.bits (w:Int)|||BitVec.ofInt IntKind.u32.bits ((2^j:Nat):Int)).toNat=w+2^j:=eb
 rw[eb2];exact IntWalk.u32_in _ (by omega)
theorem LO {w j:Nat}(hj:j<32)(hw:w<4294967296)(hd:w%2^(j+1)=0):fm .andNot .u32 ((w+2^j:Nat):Int) ((2^j:Nat):Int)=(w:Int):=by
 obtain⟨h1,h2⟩:=H2 hj hw hd;have UO:2^j<2^32:=Nat.pow_lt_pow_right (by decide) hj;have hp:2^j<2^(j+1):=Nat.pow_lt_pow_right (by decide) (by omega)
 have e:w|||2^j=w+2^j:=by
  have h1:=Nat.two_pow_add_eq_or_of_lt (i:=j+1) (b:=2^j) hp (w/2^(j+1));have h2:2^(j+1)*(w/2^(j+1))=w:=by have:=Nat.div_add_mod w (2^(j+1));omega
  rw[h2]at h1;exact h1.symm
 have bj:w.testBit j=false:=by
  rw[Nat.testBit_eq_decide_div_mod_eq]
  have:w=2^j*(2*(w/2^(j+1))):=by
   have h4:=Nat.div_add_mod w (2^(j+1));have h5:2^(j+1)*(w/2^(j+1))=2^j*(2*(w/2^(j+1))):=by
    generalize w/2^(j+1)=m
    rw[O4,Nat.mul_assoc]
   omega
  rw[this,Nat.mul_div_cancel_left _ (Nat.two_pow_pos j)]
  simp
 have eb:(BitVec.ofInt 32 ((w+2^j:Nat):Int)&&& ~~~(BitVec.ofInt 32 ((2^j:Nat):Int)))=BitVec.ofNat 32 w:=by
  rw[BitVec.ofInt_natCast,BitVec.ofInt_natCast]
  apply BitVec.eq_of_getLsbD_eq
  intro i hi;rw[BitVec.getLsbD_and,BitVec.getLsbD_not,BitVec.getLsbD_ofNat,BitVec.getLsbD_ofNat,BitVec.getLsbD_ofNat,←e,Nat.testBit_or,Nat.testBit_two_pow]
  by_cases VG:j=i
  ·subst VG;simp[bj]
  simp[VG,hi]
 show IntKind.u32.wrap ((BitVec.ofInt 32 ((w+2^j:Nat):Int)&&& ~~~(BitVec.ofInt 32 ((2^j:Nat):Int))).toNat:Int)=_;rw[eb,BitVec.toNat_ofNat,O7 hw];exact IntWalk.u32_in _ (by omega)
theorem zr {k r:Nat}(hr:r<BB^k)(i:Nat):(ij k r).getD i 0=((r/BB^i%BB:Nat):Int):=by
 have h:=dk (gn k r) i;rw[jV,O7 hr]at h;exact h
theorem Lc {k r i:Nat}(hk:i/32<k)(hr:r+2^i<BB^k)(hd:r%2^(i+1)=0):∃w:Nat,w<4294967296∧w+2^(i%32)<4294967296∧(ij k r).getD (i/32) 0=(w:Int)∧
  fm .or .u32 (w:Int) ((2^(i%32):Nat):Int)=((w+2^(i%32):Nat):Int)∧(ij k r).set (i/32) ((w+2^(i%32):Nat):Int)=ij k (r+2^i)∧
  (ij k (r+2^i)).getD (i/32) 0=((w+2^(i%32):Nat):Int)∧fm .andNot .u32 ((w+2^(i%32):Nat):Int) ((2^(i%32):Nat):Int)=(w:Int)∧(ij k (r+2^i)).set (i/32) (w:Int)=ij k r:=by
 obtain⟨c,hc⟩:∃c,c=i/32:=⟨_,rfl⟩;obtain⟨j,hj⟩:∃j,j=i%32:=⟨_,rfl⟩;have VG:i=32*c+j:=by omega
 rw[←hc]at hk⊢;rw[←hj];have aaj:j<32:=by omega
 have Ui:r<BB^k:=by have:=Nat.two_pow_pos i;omega
 obtain⟨w,hw⟩:∃w,w=r/BB^c%BB:=⟨_,rfl⟩;have ZR:w<4294967296:=by rw[hw];exact Nat.mod_lt _ (by decide)
 have UY:w%2^(j+1)=0:=by
  obtain⟨m,hm⟩:=Nat.dvd_of_mod_eq_zero hd;have e1:2^(i+1)=BB^c*2^(j+1):=by rw[qY,←Nat.pow_add];congr 1;omega
  have e2:r/BB^c=2^(j+1)*m:=by
   rw[hm,e1,Nat.mul_assoc,Nat.mul_div_cancel_left _ (Nat.pow_pos (by decide))]
  have e3:BB=2^(j+1)*2^(31-j):=by rw[←Nat.pow_add,show j+1+(31-j)=32 by omega];rfl
  rw[hw,e2]
  conv=>lhs;lhs;rhs;rw[e3]
  rw[Nat.mul_mod_mul_left,Nat.mul_mod_right]
 obtain⟨b1,b2⟩:=H2 aaj ZR UY;have b3:=LO aaj ZR UY;have hl:c<(ij k r).length:=by rw[aP];exact hk
 have g1:(ij k r).getD c 0=(w:Int):=by rw[zr Ui,hw]
 have s1:(ij k r).set c ((w+2^j:Nat):Int)=ij k (r+2^i):=by
  refine qJ ((gn k r).set c ⟨by omega,by omega⟩) (by rw[List.length_set,aP]) ?_;have h:=dN (xs:=ij k r) (x:=((w+2^j:Nat):Int)) hl;rw[g1,jV,O7 Ui,Q1,Q1,Nat.mul_add]at h;have e4:BB^c*2^j=2^i:=by rw[qY,←Nat.pow_add,←VG]
  omega
 refine⟨w,ZR,b2,g1,b1,s1,?_,b3,?_⟩
 ·rw[←s1,X7,List.getElem?_set,if_pos rfl,if_pos hl];rfl
 rw[←s1,List.set_set,←g1];refine List.ext_getElem (by simp) fun n h1 h2=>?_;rw[List.getElem_set]
 split
 ·rename_i e
  subst e;rw[X7,X8 h2];rfl
 rfl
structure G7 (a n i r:Nat):Prop where
 le:i≤n
 d:r%2^i=0
 lo:r*r≤a
 hi:a<(r+2^i)*(r+2^i)
 lt:r+2^i≤2^n
theorem G7.init {a n:Nat}(h:a<2^n*2^n):G7 a n n 0:=⟨O1 _,Nat.zero_mod _,O2 _,by rw[Nat.zero_add];exact h,by omega⟩
theorem G7.up {a n i r:Nat}(H:G7 a n (i+1) r)(h:(r+2^i)*(r+2^i)≤a):G7 a n i (r+2^i):=by
 have e:2^(i+1)=2^i+2^i:=by rw[O4];omega
 obtain⟨h1,h2,h3,h4,h5⟩:=H;rw[e]at h4 h5;refine⟨by omega,?_,h,by rw[Nat.add_assoc];exact h4,by omega⟩;obtain⟨m,hm⟩:=Nat.dvd_of_mod_eq_zero h2;rw[hm,O4,Nat.mul_assoc,Nat.add_mod_right,Nat.mul_mod_right]
theorem G7.stay {a n i r:Nat}(H:G7 a n (i+1) r)(h:a<(r+2^i)*(r+2^i)):G7 a n i r:=by
 have e:2^(i+1)=2^i+2^i:=by rw[O4];omega
 obtain⟨h1,h2,h3,h4,h5⟩:=H;rw[e]at h5;refine⟨by omega,?_,h3,h,by omega⟩;obtain⟨m,hm⟩:=Nat.dvd_of_mod_eq_zero h2;rw[hm,O4,Nat.mul_assoc,Nat.mul_mod_right]
theorem G7.done {a n r:Nat}(H:G7 a n 0 r):r=cJ a:=(tL H.lo H.hi).symm
end Go.Eng
namespace Go.Proofs.YtehahgjkjfoebaaGreat
open Go.Proofs.Tryz
open Go Go.Eng
theorem xB (K a:Nat)(hr:a<BB^K)(hl:nl a≤K)(hK:K<2^44):Mc prog 188 [.one (.own 0 1 0 (nl a)),.one (.own 0 1 0 (nl a))] (.ints 161 .u32 (ij K a)) (fun r B'=>r= .one (.ints .u32 (ak (a*a)))∧B'= .ints 161 .u32 (ij K a)):=by
 have dl:=aP K a;have dw:=fun i=>zr hr i;refine mw func188 ⟨[0,1,4,5,6,7,8,18,24],[]⟩ ?_;simp only[Tryz.f188,ntmps188,iz,seval];simp only[vx,T,seval,dl]
 simp(disch:=omega) only[lG,←X2,←Q2,Q1,Q4,Q5,aD,aK,true_and,and_true,dw]
 refine⟨⟨by omega,by omega,by omega,by omega⟩,Lk (fun i:{i:Nat×List Int//gG a a i.1 i.2}=>⟨[(0,.one (.own 0 1 0 (nl a))),(1,.one (.own 0 1 0 (nl a))),(5,.one (.own 1 1 0 (nl a+nl a))),(6,.one (.int .i64 i.1.1))],[(0,⟨.ints 161 .u32 (ij K a),true⟩),(1,⟨.ints 161 .u32 i.1.2,true⟩)],3,67⟩) (fun i=>nl a-i.1.1) ⟨(0,List.replicate (nl a+nl a) 0),gG.init a a⟩ ?_ (fun⟨⟨i,os⟩,hi⟩=>?_)⟩
 ·refine Sa ?_;simp only[ry,seval,rz,dl]
 have h1:=hi.le;have h2:=hi.len;simp only at h1 h2;simp only[vx,T,seval,dl];refine⟨fun h=>Lg ?_,fun h=>Lg ?_⟩
 ·simp only[vx,T,seval,dl];have hx:=bd (a/BB^i);refine Lk (fun k:{k:Nat×List Int×Nat//pZ a a i k.1 k.2.1 k.2.2}=>⟨[(0,.one (.own 0 1 0 (nl a))),(1,.one (.own 0 1 0 (nl a))),(5,.one (.own 1 1 0 (nl a+nl a))),(6,.one (.int .i64 i)),(7,.one (.int .u64 k.1.2.2)),(8,.one (.int .i64 k.1.1))],[(0,⟨.ints 161 .u32 (ij K a),true⟩),(1,⟨.ints 161 .u32 k.1.2.1,true⟩)],3,67⟩) (fun k=>nl a-k.1.1) ⟨(0,os,0),hi.start⟩ ?_ (fun⟨⟨k,os',c⟩,hk⟩=>?_)
  ·refine Sa ?_;simp only[ry,seval,rz,lG]
  have h3:=hk.le;have h4:=hk.len;have h5:=hk.c;have h5:c<4294967296:=h5;have hz:=hk.inr.getD (i+k);simp only at h3 h4 hz;obtain⟨o,ho⟩:=Int.eq_ofNat_of_zero_le hz.1;rw[ho]at hz;simp only[vx,T,seval,dl];refine⟨fun h'=>Lg ?_,fun h'=>Lg ?_⟩
  ·simp only[vx,T,seval,dl];have hy:=bd (a/BB^k);have hp:(a/BB^i%BB)*(a/BB^k%BB)≤4294967295*4294967295:=Nat.mul_le_mul (by omega) (by omega)
   simp(disch:=omega) only[lG,←X2,←Q2,Q1,Q4,Q5,aD,aK,true_and,and_true,ho,dw]
   refine⟨by omega,by omega,by omega,by omega,Lq ⟨(k+1,_,_),hk.put (s:=c+o+(a/BB^i%BB)*(a/BB^k%BB)) (by omega) (by omega) ho (by simp only;omega)⟩ ?_ ?_⟩
   ·refine Sa ?_;simp only[ry,seval,rz,dl]
   simp only;omega
  simp only[vx,T,seval,dl];have YT:k=nl a:=by omega
  subst YT
  simp(disch:=omega) only[lG,←X2,←Q2,Q1,Q4,Q5,aD,aK,true_and,and_true,dw]
  refine⟨by omega,Lq ⟨(i+1,_),hk.next (by omega)⟩ ?_ ?_⟩
  ·refine Sa ?_;simp only[ry,seval,rz,dl]
  simp only;omega
 simp only[vx,T,seval,dl];have Uq:i=nl a:=by omega
 subst Uq;have hr:=hi.inr;have hv:=hi.done;simp only at hr hv;rw[List.take_of_length_le (by omega)];refine Cg (bL _ hr (by omega)) ?_;rw[hv];simp only[vx,T,seval,dl]
theorem HR:Pr prog 193 [.one (.ints .u32 (ak 0))] (.one (.int .i64 0)):=by
 have hl:(ak 0).length=0:=by rw[br];rfl
 refine pw func193 ⟨[0,2,3,4,7,15],[]⟩ ?_;simp only[Tryz.f193,ntmps193,iz,seval];simp only[vx,T,seval,br];exact Ve rfl
theorem C1 (z:Int)(hz:zn z<2^42):Pr prog 239 [ZV z] (.one (.int .i64 (if z=0 then 0 else lf z.natAbs:Nat))):=by
 have t:=CG z (by omega);have l:Pr prog 193 [.one (.ints .u32 (ak z.natAbs))] (.one (.int .i64 (if z=0 then 0 else lf z.natAbs:Nat))):=by
  by_cases h:z=0
  ·subst h;exact HR
  rw[if_neg h];exact px _ (by omega) (by show nl z.natAbs<_;unfold zn at hz;omega)
 refine pw func239 ⟨[0,1,2],[]⟩ ?_;simp only[Tryz.f239,ntmps239,iz,seval];simp only[vx,T,seval,ZV];refine Cg t ?_;simp only[vx,T,seval,ZV];refine Cg l ?_;simp only[vx,T,seval,ZV];exact Ve rfl
theorem ES (a b:Int)(ha:zn a<2^42)(hb:zn b<2^42):Pr prog 242 [ZV a,ZV b] (.one (.int .i64 (bQ (a-b)))):=by
 have s:=rf a b (by omega) (by omega);have hs:zn (a-b)<2^59:=by
  have:=pa a (-b)
  have e:zn (-b)=zn b:=by unfold zn;rw[Int.natAbs_neg]
  rw[Int.sub_eq_add_neg];omega
 have g:=gL (a-b) hs;refine pw func242 ⟨[0,1,2,3,4],[]⟩ ?_;simp only[Tryz.f242,ntmps242,iz,seval];simp only[vx,T,seval,ZV];refine Cg s ?_;simp only[vx,T,seval,ZV];refine Cg g ?_;simp only[vx,T,seval,ZV];exact Ve rfl
theorem uv (z:Int)(h0:0≤z)(hz:zn z<2^38):Pr prog 220 [ZV z] (.aB [ZV (cJ z.natAbs:Nat),.one (.int .i64 0)]):=by
 have c:=fb z (by omega);have b:=C1 z (by omega);obtain⟨a,ha⟩:∃a,a=z.natAbs:=⟨_,rfl⟩;obtain⟨q,hq⟩:∃q:Nat,q=if z=0 then 0 else lf z.natAbs:=⟨_,rfl⟩
 rw[←hq]at b;have TO:zs z=false:=dE.2 h0;have hal:nl a<2^38:=by rw[ha];exact hz
 have Vm:a<2^q∧q≤32*nl a:=by
  rw[hq]
  by_cases h:z=0
  ·rw[if_pos h,ha,h];exact⟨by decide,O2 _⟩
  rw[if_neg h,←ha];exact⟨Ey (by omega),xD (by omega)⟩
 obtain⟨n,hn⟩:∃n,n=(q+1)/2:=⟨_,rfl⟩;have w1:=wI q (by omega);have w2:IntKind.i64.wrap (((q+1:Nat):Int).tdiv 2)=(n:Int):=by rw[Int.tdiv_eq_ediv_of_nonneg (by omega),Q4 _ (by omega)];omega
 have w3:IntKind.i64.wrap ((n:Int).tdiv 32)=((n/32:Nat):Int):=by rw[Int.tdiv_eq_ediv_of_nonneg (by omega),Q4 _ (by omega)];omega
 have w4:IntKind.i64.wrap (((n/32:Nat):Int)+1)=((n/32+1:Nat):Int):=by rw[Q4 _ (by omega)];omega
 have w5:IntKind.i64.wrap ((n:Int)-1)=(n:Int)-1:=by rw[Q4 _ (by omega)]
 have hini:a<2^n*2^n:=by
  rw[←Nat.pow_add];exact Nat.lt_of_lt_of_le Vm.1 (O3 (by decide) (by omega))
 have hK:2^n<BB^(n/32+1):=by rw[qY];exact Nat.pow_lt_pow_right (by decide) (by omega)
 obtain⟨K,hKe⟩:∃K,K=n/32+1:=⟨_,rfl⟩;rw[←hKe]at hK w4;have er:(List.replicate K (0:Int))=ij K 0:=qJ (bO.replicate _) (by simp) (cO _);have b:Pr prog 239 [.agg [.bool false,.ints .u32 (zm z)]] (.one (.int .i64 q)):=by
  have b:=b;unfold ZV at b;rw[TO]at b;exact b
 refine pw func220 ⟨[0,1,2,3,4,5,6,10,23,47],[(10,(.cons 1 [2,5,6] (.cons 3 [5,6] (.cons 4 [5,6] (.cons 7 [] (.cons 8 [] .nil .nil) .nil) .nil) .nil) .nil))]⟩ ?_;simp only[Tryz.f220,ntmps220,iz,seval];simp only[vx,T,seval,ZV];refine Cg c ?_;simp only[vx,T,seval,ZV,TO];refine Cg b ?_;simp only[vx,T,seval,ZV,w1,w2,w3,w4,w5,Q1];refine⟨⟨by omega,by omega,by omega,by omega⟩,Lk (fun y:{y:Nat×Nat//G7 a n y.1 y.2}=>⟨[(1,.one (.ptr 1 0)),(2,.one (.ptr 2 0)),(3,.one (.int .i64 0)),(5,.one (.own 3 1 0 K)),(6,.one (.int .i64 ((y.1.1:Int)-1)))],[(1,⟨.var [.bool false,.ints .u32 (zm z)],true⟩),(2,⟨.var [.bool false,.nil],true⟩),(3,⟨.ints 161 .u32 (ij K y.1.2),true⟩)],4,63⟩) (fun y=>y.1.1) ⟨(n,0),.init hini⟩ ?_ (fun⟨⟨i,r⟩,hI⟩=>?_)⟩
 ·refine Sa ?_;simp only[ry,seval,rz,ZV,er]
 simp only;have hle:=hI.le;simp only at hle;simp only[vx,T,seval,ZV];refine⟨fun g=>Lg ?_,fun g=>Lg ?_⟩
 ·obtain⟨k,rfl⟩:∃k,i=k+1:=⟨i-1,by omega⟩;have e6:(((k+1:Nat):Int)-1)=(k:Int):=by omega
  have SI:=hI.lt;have hd:=hI.d;simp only at SI hd;have UO:2^(k+1)=2^k+2^k:=by rw[O4];omega
  have hpk:=Nat.two_pow_pos k;obtain⟨w,k1,k2,k3,k4,k5,k6,k7,k8⟩:=Lc (k:=K) (r:=r) (i:=k) (by omega) (by omega) hd;have v1:IntKind.i64.wrap ((k:Int).tdiv 32)=((k/32:Nat):Int):=by rw[Int.tdiv_eq_ediv_of_nonneg (by omega),Q4 _ (by omega)];omega
  have v2:(k:Int).tmod 32=((k%32:Nat):Int):=rfl;have v3:IntKind.u32.wrap (1*2^(if k%32≤32 then k%32 else 32))=((2^(k%32):Nat):Int):=by
   have e:(2:Int)^(k%32)=((2^(k%32):Nat):Int):=by rw[Int.natCast_pow];rfl
   have hw:2^(k%32)<2^32:=Nat.pow_lt_pow_right (by decide) (Nat.mod_lt _ (by decide));rw[if_pos (by omega),Int.one_mul,e]
   generalize 2^(k%32)=m at hw
   rw[IntWalk.u32_in _ (by omega)]
  have v4:IntKind.i64.wrap ((k:Int)-1)=(k:Int)-1:=by rw[Q4 _ (by omega)]
  have Vy:r+2^k<BB^K:=by omega
  have TB:=aP K (r+2^k);have hdr:=aP K r;have hvd:val ((ij K (r+2^k)).take K)=r+2^k:=by rw[dB,jV,O7 Vy]
  have Zd:nl (r+2^k)≤K:=aE Vy;have tm:=nk (ij K (r+2^k)) 0 K (gn _ _) (by rw[TB];omega) (by rw[TB];omega);rw[List.drop_zero,hvd]at tm;have xm:=xB K (r+2^k) Vy Zd (by omega);have hsq:nl ((r+2^k)*(r+2^k))<2^62:=by
   have:=jG (r+2^k) (r+2^k)
   omega
  have cp:=fN ((r+2^k)*(r+2^k)) a hsq (by omega);have ea:zm z=ak a:=by rw[ha];rfl
  rw[ea];simp only[vx,T,seval,ZV,e6,v1,v2,v3,v4,k3,k4,k5,hdr,Q1];refine⟨⟨by omega,by omega⟩,by omega,⟨by omega,by omega⟩,Cm 3 (B:=.ints 161 .u32 (ij K (r+2^k))) rfl trivial tm ?_⟩;rintro _ _ ⟨rfl,rfl⟩ _;simp only[vx,T,seval,ZV,v1,v2,v3,v4,TB,Q1];refine Cm 3 (B:=.ints 161 .u32 (ij K (r+2^k))) rfl trivial tm ?_;rintro _ _ ⟨rfl,rfl⟩ _;simp only[vx,T,seval,ZV,v1,v2,v3,v4,TB,Q1];refine Cm 3 (B:=.ints 161 .u32 (ij K (r+2^k))) rfl trivial xm ?_;rintro _ _ ⟨rfl,rfl⟩ _;simp only[vx,T,seval,ZV,v1,v2,v3,v4,TB,Q1];refine Cg cp ?_;simp only[vx,T,seval,ZV,v1,v2,v3,v4,TB,Q1];refine⟨fun g2=>Lg ?_,fun g2=>Lg ?_⟩
  ·have hgt:a<(r+2^k)*(r+2^k):=by
    unfold fe at g2
    generalize(r+2^k)*(r+2^k)=m at g2⊢
    (repeat' split at g2)<;>omega
   simp only[vx,T,seval,ZV,v1,v2,v3,v4,k6,k7,k8,TB,Q1];refine⟨⟨by omega,by omega⟩,by omega,⟨by omega,by omega⟩,Lq ⟨(k,r),hI.stay hgt⟩ ?_ (by show k<k+1;omega)⟩;refine Sa ?_;simp only[ry,seval,rz,ZV,ea]
  have hle2:(r+2^k)*(r+2^k)≤a:=by
   unfold fe at g2
   generalize(r+2^k)*(r+2^k)=m at g2⊢
   (repeat' split at g2)<;>omega
  simp only[vx,T,seval,ZV,v1,v2,v3,v4,TB,Q1];refine Lq ⟨(k,r+2^k),hI.up hle2⟩ ?_ (by show k<k+1;omega);refine Sa ?_;simp only[ry,seval,rz,ZV,ea]
 have Xu:i=0:=by omega
 subst Xu;have hr:=hI.done;simp only at hr;have hdr:=aP K r;have hrK:r<BB^K:=by
  have:=hI.lt
  simp only at this;omega
 have sg:=qq false (ij K r) (gn _ _) (by rw[hdr];omega);rw[jV,O7 hrK,Bool.false_and]at sg;have tk:=dB K r;have e7:zs ((cJ z.natAbs:Nat):Int)=false:=dE.2 (by omega);have e8:zm ((cJ z.natAbs:Nat):Int)=ak r:=by rw[hr,ha];rfl
 simp only[vx,T,seval,ZV,hdr,tk];refine Cg sg ?_;simp only[vx,T,seval,ZV,e7,e8];exact Ve rfl
open Go Go.Eng
theorem ne_false_iff {z w:Int}(h:zs z≠zs w∨zn z≠zn w):decide (z=w)=false:=by
 refine decide_eq_false ?_;rintro rfl
 rcases h with h|h<;>exact h rfl
theorem oE (z w:Int)(hz:zn z<2^44)(hw:zn w<2^44):Pr prog 221 [ZV z,ZV w] (.one (.bool (decide (z=w)))):=by
 refine pw func221 ⟨[0,1,2,3,4,5,19,24,37],[]⟩ ?_;simp only[Tryz.f221,ntmps221,iz,seval];simp only[vx,T,seval,ZV];refine⟨fun h1=>Lg ?_,fun h1=>Lg ?_⟩
 ·have hb:=ne_false_iff (z:=z) (w:=w) (.inl (by simpa using h1));simp only[vx,T,seval,ZV];exact vb hb.symm
 have h1:zs z=zs w:=by simpa using h1
 simp only[vx,T,seval,ZV];refine⟨fun h2=>Lg ?_,fun h2=>Lg ?_⟩
 ·rw[aX,aX]at h2;have hb:=ne_false_iff (z:=z) (w:=w) (.inr (by omega));simp only[vx,T,seval,ZV];exact vb hb.symm
 rw[aX,aX]at h2;have Zr:zn z=zn w:=by omega
 simp only[vx,T,seval,ZV];refine Lk (fun y:{i:Nat//i≤zn z∧z.natAbs%BB^i=w.natAbs%BB^i}=>⟨[(2,.one (.ptr 1 0)),(3,.one (.ptr 2 0)),(4,.one (.bool false)),(5,.one (.int .i64 y.1))],[(1,⟨.var [.bool (zs z),.ints .u32 (zm z)],true⟩),(2,⟨.var [.bool (zs w),.ints .u32 (zm w)],true⟩)],3,38⟩) (fun y=>zn z-y.1) ⟨0,by omega,by rw[Nat.pow_zero,Nat.mod_one,Nat.mod_one]⟩ ?_ (fun⟨i,hi,he⟩=>?_)
 ·refine Sa ?_;simp only[ry,seval,rz]
 simp only[vx,T,seval,aX];refine⟨fun h3=>Lg ?_,fun h3=>Lg ?_⟩
 ·have g1:(zm z).getD i 0=((z.natAbs/BB^i%BB:Nat):Int):=lG _ _;have g2:(zm w).getD i 0=((w.natAbs/BB^i%BB:Nat):Int):=lG _ _;have i1:=wI i (by omega);simp only[vx,T,seval,aX];simp only[Q1,g1,g2];refine⟨by omega,by omega,?_⟩;refine⟨fun h4=>Lg ?_,fun h4=>Lg ?_⟩
  ·have hb:decide (z=w)=false:=decide_eq_false (by rintro rfl;exact h4 rfl);simp only[vx,T,seval,ZV];exact vb hb.symm
  simp only[vx,T,seval,ZV];simp only[i1];refine Lq ⟨i+1,by omega,?_⟩ ?_ ?_
  ·rw[kI,kI,he,show z.natAbs/BB^i%BB=w.natAbs/BB^i%BB by omega]
  ·refine Sa ?_;simp only[ry,seval,rz,ZV]
  simp only;omega
 simp only[vx,T,seval,ZV];have Uk:i=zn z:=by omega
 refine vb (decide_eq_true ?_).symm;have e1:z.natAbs%BB^i=z.natAbs:=O7 (by rw[Uk];exact cG _);have e2:w.natAbs%BB^i=w.natAbs:=O7 (by rw[Uk,Zr];exact cG _);rw[e1,e2]at he;rw[←cB z,←cB w,h1,he]
open Go Go.Eng
theorem Hi {x:Rat}(h0:0<x.num):(x⁻¹).num=(x.den:Int)∧((x⁻¹).den:Int)=x.num:=by
 obtain⟨d,hd⟩:∃d:Nat,x.num=d:=⟨x.num.toNat,by omega⟩;have hc:(x.den:Int).natAbs.Coprime d:=by
  have:=x.reduced
  rw[hd]at this;exact this.symm
 obtain⟨r0,Ui⟩:∃r0:Rat,r0=⟨(x.den:Int),d,by omega,hc⟩:=⟨_,rfl⟩;have e1:r0.num=(x.den:Int):=by rw[Ui]
 have e2:r0.den=d:=by rw[Ui]
 have e3:mkRat x.den d=r0:=by rw[←e1,←e2];exact Rat.mkRat_self r0
 rw[inv_pos hd,e3,e1,e2,hd];exact⟨rfl,rfl⟩
theorem HK {x:Rat}(h0:x.num<0):(x⁻¹).num= -(x.den:Int)∧((x⁻¹).den:Int)= -x.num:=by
 obtain⟨d,hd⟩:∃d:Nat,x.num= -(d:Int):=⟨(-x.num).toNat,by omega⟩;have hc:(-(x.den:Int)).natAbs.Coprime d:=by
  have:=x.reduced
  rw[hd,Int.natAbs_neg]at this;rw[Int.natAbs_neg];exact this.symm
 obtain⟨r0,Ui⟩:∃r0:Rat,r0=⟨-(x.den:Int),d,by omega,hc⟩:=⟨_,rfl⟩;have e1:r0.num= -(x.den:Int):=by rw[Ui]
 have e2:r0.den=d:=by rw[Ui]
 have e3:mkRat (-(x.den:Int)) d=r0:=by rw[←e1,←e2];exact Rat.mkRat_self r0
 rw[inv_neg hd,e3,e1,e2,hd];exact⟨rfl,by omega⟩
theorem B9 (x:Rat)(hx:qm x<2^40)(h0:x≠0):Pr prog 157 [QV x] (QV x⁻¹):=by
 have hn:x.num≠0:=fun h=>h0 (Rat.num_eq_zero.1 h);unfold qm at hx;have n1:=oi (x.den:Int) (by rw[aG];omega);have n2:=oi x.num (by omega)
 by_cases hp:0<x.num
 ·have hz:zs x.num=false:=dE.2 (by omega);obtain⟨e1,e2⟩:=Hi hp;have e:=IE e1 e2;unfold QV;rw[e];refine pw func157 ⟨[0,1,2,5],[]⟩ ?_;simp only[Tryz.f157,ntmps157,iz,seval];simp only[vx,T,seval,QC];refine⟨fun h=>(by rw[hz]at h;cases h),fun _=>Lg ?_⟩;simp only[vx,T,seval,QC];exact Ve rfl
 have hz:zs x.num=true:=lR.2 (by omega);obtain⟨e1,e2⟩:=HK (by omega:x.num<0);have e:=IE e1 e2;unfold QV;rw[e];refine pw func157 ⟨[0,1,2,5],[]⟩ ?_;simp only[Tryz.f157,ntmps157,iz,seval];simp only[vx,T,seval,QC];refine⟨fun _=>Lg ?_,fun h=>(by rw[hz]at h;cases h)⟩;simp only[vx,T,seval,QC];refine Cg n1 ?_;simp only[vx,T,seval,QC,ZV];refine Cg n2 ?_;simp only[vx,T,seval,QC,ZV];exact Ve rfl
theorem BJ (n:Int)(d:Nat)(hn:zn n<2^40)(hd:nl d<2^40)(h0:0<d):Pr prog 55 [ZV n,ZV (d:Int)] (QV (mkRat n d)):=by
 have hg:(0:Int)<(Int.gcd n d:Nat):=by have:=yR (n:=n) h0;omega
 have Zw:zn (Int.gcd n d)≤nl d:=sh (b:=(d:Int)) (by
  have:=Nat.gcd_le_right n.natAbs (show 0<(d:Int).natAbs by omega)
  exact this)
 have c:=eH n (d:Int) (by omega) (by rw[aG];omega);have s:=gL (d:Int) (by rw[aG];omega);rw[show bQ (d:Int)=1 by unfold bQ;rw[if_neg (by omega),if_neg (by omega)]]at s;have q1:=bG n (Int.gcd n d) (by omega) (by omega) (by omega);have q2:=bG d (Int.gcd n d) (by rw[aG];omega) (by omega) (by omega);rw[xY h0]at q1;rw[yv h0]at q2;refine pw func55 ⟨[0,1,2,3,4,5,11],[]⟩ ?_;simp only[Tryz.f55,ntmps55,iz,seval];simp only[vx,T,seval,ZV];refine Cg c ?_;simp only[vx,T,seval,ZV];refine Cg s ?_;simp only[vx,T,seval,ZV];refine Cg q1 ?_;simp only[vx,T,seval,ZV];refine Cg q2 ?_;simp only[vx,T,seval,ZV];refine Va ?_;simp only[cY,a5,ry,seval,QV,QC]
theorem oY (n:Int)(d:Nat)(hn: -9223372036854775808≤n∧n≤9223372036854775807)(hd:d≤9223372036854775807)(h0:0<d)(k1:zn n<2^39)(k2:nl d<2^39):
  Pr prog 27 [.one (.int .i64 n),.one (.int .i64 d)] (QV (mkRat n d)):=by
 have c1:=fP n hn.1 hn.2;have c2:=fP (d:Int) (by omega) (by omega);have m:=BJ n d (by omega) (by omega) h0;refine pw func27 ⟨[0,1,4,6],[]⟩ ?_;simp only[Tryz.f27,ntmps27,iz,seval];simp only[vx,T,seval,ZV];refine⟨fun h=>absurd h (by omega),fun _=>Lg ?_⟩;simp only[vx,T,seval,ZV];refine Cg c1 ?_;simp only[vx,T,seval,ZV];refine Cg c2 ?_;simp only[vx,T,seval,ZV];refine Cg m ?_;simp only[vx,T,seval,ZV,QV,QC];exact Ve rfl
def OZ (a b:Rat):Int:=bQ (a.num*b.den-b.num*a.den)
theorem xi {a b:Rat}:OZ a b=0↔a=b:=by
 unfold OZ
 have e:bQ (a.num*b.den-b.num*a.den)=0↔a.num*b.den-b.num*a.den=0:=by unfold bQ;(repeat' split)<;>omega
 rw[e]
 constructor
 ·intro h;have h2:a.num*b.den=b.num*a.den:=by omega
  rw[←Rat.mkRat_self a,←Rat.mkRat_self b];exact(Rat.mkRat_eq_iff a.den_nz b.den_nz).2 h2
 rintro rfl;omega
theorem BE (a b:Rat)(ha:qm a<2^38)(hb:qm b<2^38):Pr prog 225 [QV a,QV b] (.one (.int .i64 (OZ a b))):=by
 have na:zn a.num<2^38∧nl a.den<2^38:=by unfold qm at ha;omega
 have nb:zn b.num<2^38∧nl b.den<2^38:=by unfold qm at hb;omega
 have ma:=bq a.num (b.den:Int) (by omega) (by rw[aG];omega);have mb:=bq b.num (a.den:Int) (by omega) (by rw[aG];omega);have e1:=cZ a.num (b.den:Int);have e2:=cZ b.num (a.den:Int);rw[aG]at e1 e2;have cc:=ES (a.num*b.den) (b.num*a.den) (by omega) (by omega);refine pw func225 ⟨[0,1,2,3,4],[]⟩ ?_;simp only[Tryz.f225,ntmps225,iz,seval];simp only[vx,T,seval,QV,QC];refine Cg ma ?_;simp only[vx,T,seval,ZV];refine Cg mb ?_;simp only[vx,T,seval,ZV];refine Cg cc ?_;simp only[vx,T,seval,ZV];exact Ve rfl
theorem Oj {x:Rat}(h:A7 x=none)(h0:0≤x.num):cJ x.num.natAbs*cJ x.num.natAbs≠x.num.natAbs∨cJ x.den*cJ x.den≠x.den:=by
 unfold A7 at h
 split at h
 ·cases h
 rename_i hc
 by_cases k1:cJ x.num.natAbs*cJ x.num.natAbs=x.num.natAbs
 ·by_cases k2:cJ x.den*cJ x.den=x.den
  ·exact absurd ⟨h0,k1,k2⟩ hc
  exact .inr k2
 exact .inl k1
theorem Ar (x:Rat)(hx:qm x<2^38):Pr prog 179 [QV x] (match A7 x with
  |some r=>.aB [QV r,.one (.bool true)]
  |none=>.aB [.agg [.bool false,.nil,.bool false,.nil],.one (.bool false)]):=by
 have hx':=hx;unfold qm at hx'
 by_cases h0:0≤x.num
 ·have hz:zs x.num=false:=dE.2 h0;have s1:=uv x.num h0 (by omega);have s2:=uv (x.den:Int) (by omega) (by rw[aG];omega);rw[Int.natAbs_natCast]at s2;have l1:nl (cJ x.num.natAbs)≤zn x.num:=bh (Bz _);have l2:nl (cJ x.den)≤nl x.den:=bh (Bz _);have m1:=bq (cJ x.num.natAbs:Nat) (cJ x.num.natAbs:Nat) (by rw[aG];omega) (by rw[aG];omega);have m2:=bq (cJ x.den:Nat) (cJ x.den:Nat) (by rw[aG];omega) (by rw[aG];omega);have e1:=cZ (cJ x.num.natAbs:Nat) (cJ x.num.natAbs:Nat);have e2:=cZ (cJ x.den:Nat) (cJ x.den:Nat);rw[aG]at e1 e2;have t1:=oE (((cJ x.num.natAbs:Nat):Int)*(cJ x.num.natAbs:Nat)) x.num (by omega) (by omega);have t2:=oE (((cJ x.den:Nat):Int)*(cJ x.den:Nat)) (x.den:Int) (by omega) (by rw[aG];omega);have q1:(((cJ x.num.natAbs:Nat):Int)*(cJ x.num.natAbs:Nat)=x.num)↔cJ x.num.natAbs*cJ x.num.natAbs=x.num.natAbs:=by
   rw[←Q2]
   generalize cJ x.num.natAbs*cJ x.num.natAbs=m
   omega
  have q2:(((cJ x.den:Nat):Int)*(cJ x.den:Nat)=(x.den:Int))↔cJ x.den*cJ x.den=x.den:=by
   rw[←Q2]
   generalize cJ x.den*cJ x.den=m
   omega
  cases hq:A7 x with
  |some r=>
   obtain⟨_,_,k1,k2,k3,k4⟩:=qE hq;rw[decide_eq_true (q1.2 k1)]at t1;rw[decide_eq_true (q2.2 k2)]at t2;have er:=IE k3 (show(r.den:Int)=(cJ x.den:Nat) by rw[k4]);simp only;rw[show QV r= .agg _ from congrArg V.agg er];refine pw func179 ⟨[0,1,2,3,4,6,10,39],[]⟩ ?_;simp only[Tryz.f179,ntmps179,iz,seval];simp only[vx,T,seval,QV,QC];refine⟨fun h=>(by rw[hz]at h;cases h),fun _=>Lg ?_⟩;simp only[vx,T,seval,QV,QC];refine Cg s1 ?_;simp only[vx,T,seval,QV,QC,ZV];refine Cg s2 ?_;simp only[vx,T,seval,QV,QC,ZV];refine Cg m1 ?_;simp only[vx,T,seval,QV,QC,ZV];refine Cg t1 ?_;simp only[vx,T,seval,QV,QC,ZV];refine Cg m2 ?_;simp only[vx,T,seval,QV,QC,ZV];refine Cg t2 ?_;simp only[vx,T,seval,QV,ZV];exact Ve rfl
  |none=>
   simp only
   by_cases k1:cJ x.num.natAbs*cJ x.num.natAbs=x.num.natAbs
   ·have k2:=(Oj hq h0).resolve_left fun h=>h k1;rw[decide_eq_true (q1.2 k1)]at t1;rw[decide_eq_false fun h=>k2 (q2.1 h)]at t2;refine pw func179 ⟨[0,1,2,3,4,6,10,39],[]⟩ ?_;simp only[Tryz.f179,ntmps179,iz,seval];simp only[vx,T,seval,QV,QC];refine⟨fun h=>(by rw[hz]at h;cases h),fun _=>Lg ?_⟩;simp only[vx,T,seval,QV,QC];refine Cg s1 ?_;simp only[vx,T,seval,QV,QC,ZV];refine Cg s2 ?_;simp only[vx,T,seval,QV,QC,ZV];refine Cg m1 ?_;simp only[vx,T,seval,QV,QC,ZV];refine Cg t1 ?_;simp only[vx,T,seval,QV,QC,ZV];refine Cg m2 ?_;simp only[vx,T,seval,QV,QC,ZV];refine Cg t2 ?_;simp only[vx,T,seval,QV,ZV];exact Ve rfl
   rw[decide_eq_false fun h=>k1 (q1.1 h)]at t1;refine pw func179 ⟨[0,1,2,3,4,6,10,39],[]⟩ ?_;simp only[Tryz.f179,ntmps179,iz,seval];simp only[vx,T,seval,QV,QC];refine⟨fun h=>(by rw[hz]at h;cases h),fun _=>Lg ?_⟩;simp only[vx,T,seval,QV,QC];refine Cg s1 ?_;simp only[vx,T,seval,QV,QC,ZV];refine Cg s2 ?_;simp only[vx,T,seval,QV,QC,ZV];refine Cg m1 ?_;simp only[vx,T,seval,QV,QC,ZV];refine Cg t1 ?_;simp only[vx,T,seval,QV,QC,ZV];exact Ve rfl
 have hz:zs x.num=true:=lR.2 (by omega);have hq:A7 x=none:=by unfold A7;rw[if_neg fun h=>h0 h.1]
 rw[hq];refine pw func179 ⟨[0,1,2,3,4,6,10,39],[]⟩ ?_;simp only[Tryz.f179,ntmps179,iz,seval];simp only[vx,T,seval,QV,QC];refine⟨fun _=>Lg ?_,fun h=>(by rw[hz]at h;cases h)⟩;simp only[vx,T,seval,QV,QC];exact Ve rfl
open Go Go.Eng
open Go.Tw (El aC aH zE aj av au ar aa QB cM ai ah aO aJ tB aU aA dL)
theorem CW (q:Rat)(hq:qm q<2^40):Pr prog 160 [QV q] (QV (-q)):=by
 have c:=oi q.num (by unfold qm at hq;omega);refine pw func160 ⟨[0,1,2],[]⟩ ?_;simp only[Tryz.f160,ntmps160,iz,seval];simp only[vx,T,seval,QV,QC];refine Cg c ?_;simp only[vx,T,seval,ZV];exact Ve rfl
theorem Ex {ks:El}{k:Nat}(hk:ks.length=k)(q:Rat):∀(i j:Nat),i<k+1→j<4→
  (if i<k then fQ ks i j else[C.bool (zs q.num),C.ints .u32 (zm q.num),C.bool (zs (q.den:Int)),C.ints .u32 (zm (q.den:Int))].getD ((i-k)*4+j) C.any)=fQ (ks++[q]) i j:=by
 subst hk;intro i j hi hj
 by_cases h:i<ks.length
 ·rw[if_pos h];unfold fQ;rw[X7,X7,List.getElem?_append_left h]
 have:i=ks.length:=by omega
 subst this;rw[if_neg h,Nat.sub_self,Nat.zero_mul,Nat.zero_add];exact dD q (by rw[X7,List.getElem?_append_right (O1 _),Nat.sub_self];rfl) j
theorem take_add {a b:El}{i:Nat}(h:i<a.length)(UD:b.length=a.length):(aC a b).take (i+1)=(aC a b).take i++[a.getD i default+b.getD i default]:=by
 rw[eY h,eY (by omega:i<b.length),List.take_add_one];show _++(List.zipWith (· + ·) a b)[i]?.toList=_;rw[List.getElem?_zipWith,X8 h,X8 (by omega:i<b.length)];rfl
theorem Hj {a:El}{i:Nat}(h:i<a.length):(aH a).take (i+1)=(aH a).take i++[-(a.getD i default)]:=by
 rw[eY h,List.take_add_one];show _++(List.map (- ·) a)[i]?.toList=_;rw[List.getElem?_map,X8 h];rfl
theorem tW {h:Nat}{t:List El}(a b:El)(hl:a.length<2^30)(UD:b.length=a.length)(Vm:Qk a)(Us:Qk b):Fr prog 100 [tV h t,eV a,eV b] (.rows 66 4 (aC a b).length (fQ (aC a b))):=by
 have hlen:(aC a b).length=a.length:=by unfold aC;rw[List.length_zipWith];omega
 refine fw func100 ⟨[1,2,6,7,8,12],[]⟩ ?_;simp only[Tryz.f100,ntmps100,iz,seval];simp only[vx,T,seval,eV,ag];refine Lk (fun y:{i:Nat//i≤a.length}=>⟨[(1,eV a),(2,eV b),(6,.one .nil),(7,.one (.own 1 4 0 y.1)),(8,.one (.int .i64 y.1))],[(1,⟨.rows 66 4 y.1 (fQ ((aC a b).take y.1)),true⟩)],2,28⟩) (fun y=>a.length-y.1) ⟨0,O2 _⟩ ?_ (fun⟨i,hi⟩=>?_)
 ·refine Sa ?_;simp only[ry,seval,rz,eV,ag]
 have i1:=wI i (by omega);simp only[vx,T,seval,eV,ag];refine⟨fun h1=>Lg ?_,fun h1=>Lg ?_⟩
 ·have SU:i<a.length:=by omega
  have VD:=Vm.get i;have Xg:=Us.get i;have S1:=take_add SU UD;obtain⟨x,hx⟩:∃x,x=a.getD i default:=⟨_,rfl⟩;obtain⟨y,hy⟩:∃y,y=b.getD i default:=⟨_,rfl⟩;rw[←hx]at VD;rw[←hy]at Xg;rw[←hx,←hy]at S1;simp only[vx,T,seval,eV,ag,←hx,←hy,qC];refine⟨by omega,by omega,Cg (Dk x y VD Xg) ?_⟩;simp only[vx,T,seval,QV,QC];simp only[i1];refine⟨⟨by omega,by omega⟩,Lq ⟨i+1,by omega⟩ ?_ ?_⟩
  ·refine Sa ?_;simp only[ry,seval,rz,eV,ag];rw[S1];exact Ex (by rw[X5];omega) (x+y)
  simp only;omega
 have SU:i=a.length:=by omega
 subst SU;have e:(aC a b).take a.length=aC a b:=by rw[←hlen,List.take_length]
 simp only[vx,T,seval,e];exact⟨hlen.symm,rfl,hlen.symm,fun _ _ _ _=>rfl⟩
theorem z5 {h:Nat}{t:List El}(a:El)(hl:a.length<2^30)(Vm:Qk a):Fr prog 111 [tV h t,eV a] (.rows 66 4 (aH a).length (fQ (aH a))):=by
 have hlen:(aH a).length=a.length:=by unfold Go.Tw.aH;rw[List.length_map]
 refine fw func111 ⟨[1,4,5,6,10],[]⟩ ?_;simp only[Tryz.f111,ntmps111,iz,seval];simp only[vx,T,seval,eV,ag];refine Lk (fun y:{i:Nat//i≤a.length}=>⟨[(1,eV a),(4,.one .nil),(5,.one (.own 1 4 0 y.1)),(6,.one (.int .i64 y.1))],[(1,⟨.rows 66 4 y.1 (fQ ((aH a).take y.1)),true⟩)],2,22⟩) (fun y=>a.length-y.1) ⟨0,O2 _⟩ ?_ (fun⟨i,hi⟩=>?_)
 ·refine Sa ?_;simp only[ry,seval,rz,eV,ag]
 have i1:=wI i (by omega);simp only[vx,T,seval,eV,ag];refine⟨fun h1=>Lg ?_,fun h1=>Lg ?_⟩
 ·have SU:i<a.length:=by omega
  have VD:=Vm.get i;have S1:=Hj SU;obtain⟨x,hx⟩:∃x,x=a.getD i default:=⟨_,rfl⟩;rw[←hx]at VD;rw[←hx]at S1;simp only[vx,T,seval,eV,ag,←hx,qC];refine⟨by omega,Cg (CW x (by omega)) ?_⟩;simp only[vx,T,seval,QV,QC];simp only[i1];refine⟨⟨by omega,by omega⟩,Lq ⟨i+1,by omega⟩ ?_ ?_⟩
  ·refine Sa ?_;simp only[ry,seval,rz,eV,ag];rw[S1];exact Ex (by rw[X5];omega) (-x)
  simp only;omega
 have SU:i=a.length:=by omega
 subst SU;have e:(aH a).take a.length=aH a:=by rw[←hlen,List.take_length]
 simp only[vx,T,seval,e];exact⟨hlen.symm,rfl,hlen.symm,fun _ _ _ _=>rfl⟩
theorem IU {h:Nat}{t:List El}(a b:El)(hl:a.length<2^30)(UD:b.length=a.length)(Vm:Qk a)(Us:Qk b):Fr prog 181 [tV h t,eV a,eV b] (.rows 66 4 (aC a (aH b)).length (fQ (aC a (aH b)))):=by
 have hqn:Qk (aH b):=fun x hx=>by
  obtain⟨y,hy,rfl⟩:=List.mem_map.1 hx;rw[Go.Tw.Df];exact Us y hy
 have n:=(z5 (h:=h) (t:=t) b (by omega) Us).rows;have s:=tW (h:=h) (t:=t) a (aH b) hl (by rw[au];exact UD) Vm hqn;refine fw func181 ⟨[0,1,2,6],[]⟩ ?_;simp only[Tryz.f181,ntmps181,iz,seval];simp only[vx,T,seval,tV,tC,eV,ag];refine Cg n ?_;simp only[vx,T,seval,tV,tC,eV,ag];refine cN.fresh s ?_;simp only[vx,T,seval,tV,tC,eV,ag];exact⟨rfl,rfl,fun _ _ _ _=>rfl⟩
theorem BD {x:Rat}:(0:Int)<((zm x.num).length:Nat)↔x≠0:=by
 rw[aX];have h:zn x.num=0↔x.num=0:=dY;have h2:x.num=0↔x=0:=Rat.num_eq_zero
 constructor
 ·intro k e
  have:=h.2 (h2.2 e)
  omega
 intro k
 have:¬zn x.num=0:=fun e=>k (h2.1 (h.1 e))
 omega
theorem DP {a:El}:a=zE a.length↔∀i,i<a.length→a.getD i default=0:=by
 constructor
 ·intro h i hi;rw[h];unfold zE;rw[X7,List.getElem?_replicate]
  split<;>rfl
 intro h;refine List.ext_getElem (by rw[av]) fun i h1 h2=>?_
 have:=h i h1
 rw[eY h1]at this;rw[this];exact(List.eq_of_mem_replicate (List.getElem_mem h2)).symm
theorem jO (a:El)(hl:a.length<2^38):Pr prog 98 [eV a] (.one (.bool (decide (a=zE a.length)))):=by
 refine pw func98 ⟨[0,2,3,7,17],[]⟩ ?_;simp only[Tryz.f98,ntmps98,iz,seval];simp only[vx,T,seval,eV,ag];refine Lk (fun y:{i:Nat//i≤a.length∧∀j,j<i→a.getD j default=0}=>⟨[(0,eV a),(2,.one (.bool false)),(3,.one (.int .i64 y.1))],[],1,18⟩) (fun y=>a.length-y.1) ⟨0,O2 _,fun j hj=>absurd hj (O5 _)⟩ ?_ (fun⟨i,hi,hz⟩=>?_)
 ·refine Sa ?_;simp only[ry,seval,rz,eV,ag]
 have i1:=wI i (by omega);simp only[vx,T,seval,eV,ag];refine⟨fun h1=>Lg ?_,fun h1=>Lg ?_⟩
 ·have SU:i<a.length:=by omega
  have key:a.getD i default≠0→(decide (a=zE a.length))=false:=fun h=>decide_eq_false fun e=>h (DP.1 e i SU);have TC:∀x,x=a.getD i default→x=0→∀j,j<i+1→a.getD j default=0:=fun x hx h0 j hj=>by
   by_cases Ux:j<i
   ·exact hz j Ux
   obtain rfl:j=i:=by omega
   rw[←hx,h0]
  obtain⟨x,hx⟩:∃x,x=a.getD i default:=⟨_,rfl⟩;rw[←hx]at key;simp only[vx,T,seval,eV,ag,←hx,qC];refine⟨by omega,fun g=>Lg ?_,fun g=>Lg ?_⟩
  ·rw[key (BD.1 g)];simp only[vx,T,seval,eV,ag];exact Ve rfl
  have h0:x=0:=Classical.byContradiction fun h=>g (BD.2 h);simp only[vx,T,seval,eV,ag,i1];refine Lq ⟨i+1,by omega,TC x hx h0⟩ ?_ (by show a.length-(i+1)<a.length-i;omega);refine Sa ?_;simp only[ry,seval,rz,eV,ag]
 have SU:i=a.length:=by omega
 subst SU;rw[decide_eq_true (DP.2 hz)];simp only[vx,T,seval,eV,ag];exact Ve rfl
end Go.Proofs.YtehahgjkjfoebaaGreat
namespace Go.Tw
open Go Go.R Go.Eng
section
variable {A:List R}
def jβ:Nat:=2^20
def jμ:Nat:=12288
def jB (F:Nat):Nat:=mF F jβ jμ
theorem Qw:∀F,F≤6→∀k,k≤F→jB F<2^37∧jX F (jB F) k<2^37:=by decide+kernel
theorem ax.Ru (S:Src 64 A)(hA:oF A){t U rs:List El}{a:El}{x:R}{β μ:Nat}(h:ax A t a x β μ)(h1:β≤jβ)(h2:μ≤jμ)(E:Ext A t t.length U rs):
  ∃B X,B<2^37∧X<2^37∧QB B a∧OP B X U.length t.length U rs:=by
 by_cases hV:dV A
 ·obtain⟨F,I,_⟩:=h.tg.rk S hV;obtain⟨n1,n2⟩:=Qw F I.le t.length (I.mx _ h.tg);exact⟨jB F,jX F (jB F) t.length,n1,n2,(h.R6 S hV I).mono (Mu h1 h2),E.RZ S hV (fun i hi=>h.tg.mem i hi) I (O1 _)⟩
 obtain⟨k1,k2⟩:=hA.l hV;have h6:=h.tg.my hA;obtain⟨z,w,d,L,hx⟩:=h.tg.xH S k1 k2;refine⟨2^30,_,by decide,by decide,(L.qb h.len (by rw[h.val];exact hx h.in (h.sz.lt hV))).mono ?_,E.PN S k1 k2 (fun i hi=>h.tg.mem i hi) h6⟩
 have:=O8 lW h6
 unfold jβ at h1;unfold jμ at h2;unfold lW at*
 omega
end
end Go.Tw
namespace Go.Tw
open Go Go.R Go.Eng
def wo (i:Nat)(a:El):Nat→El
 |0=>[]
 |k+1=>if k/2^i%2=0 then wo i a k++[a.getD k 0]else wo i a k
def Oc (i:Nat)(a:El):Prop:=∃k,k<a.length∧k/2^i%2=1∧a.getD k 0≠0
theorem uh {a b:El}{k:Nat}(h:k<a.length):(a++b).getD k 0=a.getD k 0:=by
 rw[X7,List.getElem?_append_left h,←X7]
theorem oZ {a b:El}{k:Nat}:(a++b).getD (a.length+k) 0=b.getD k 0:=by
 rw[X7,List.getElem?_append_right (by omega),←X7,Nat.add_sub_cancel_left]
theorem CJ {i:Nat}{a:El}:∀{n:Nat},n≤a.length→∀c∈wo i a n,c∈a
 |0,_,c,h=>by cases h
 |n+1,hn,c,h=>by
  rw[wo]at h
  split at h
  ·rcases List.mem_append.1 h with h|h
   ·exact CJ (by omega) c h
   rw[List.mem_singleton.1 h,X7,X8 (by omega)];exact List.getElem_mem _
  exact CJ (by omega) c h
theorem Jw {i:Nat}{a:El}:∀{n:Nat},(wo i a n).length≤n
 |0=>O1 _
 |n+1=>by
  have:=Jw (i:=i) (a:=a) (n:=n)
  rw[wo]
  split
  ·rw[X6];show _+1≤_;omega
  omega
theorem DI {i:Nat}{a b:El}:∀{n:Nat},n≤a.length→wo i (a++b) n=wo i a n
 |0,_=>rfl
 |n+1,hn=>by rw[wo,wo,DI (by omega),uh (by omega)]
theorem DM {i h n:Nat}(hi:i<h):(2^h+n)/2^i%2=n/2^i%2:=by
 have e:2^h=2^i*(2*2^(h-i-1)):=by
  rw[←Nat.mul_assoc,O6 (2^i) 2,←Nat.pow_succ',←Nat.pow_add]
  congr 1;omega
 rw[e,Nat.mul_add_div (Nat.two_pow_pos i)];omega
theorem AN {i h:Nat}{a b:El}(hi:i<h)(ha:a.length=2^h):∀{n:Nat},wo i (a++b) (2^h+n)=wo i a (2^h)++wo i b n
 |0=>by rw[Nat.add_zero,DI (by omega),wo,List.append_nil]
 |n+1=>by
  rw[←Nat.add_assoc,wo,wo,AN hi ha,DM hi];rw[show (a++b).getD (2^h+n) 0=b.getD n 0 by rw[←ha];exact oZ]
  split
  ·rw[List.append_assoc]
  rfl
theorem BI {i:Nat}{a:El}:∀{n:Nat},n≤2^i→n≤a.length→wo i a n=a.take n
 |0,_,_=>by rw[wo,List.take_zero]
 |n+1,h1,h2=>by
  rw[wo,BI (by omega) (by omega),Nat.div_eq_of_lt (by omega),if_pos rfl,List.take_add_one,X7,X8 (by omega)];rfl
theorem Cq {i:Nat}{a:El}:∀{n:Nat},n≤2^i→wo i a (2^i+n)=wo i a (2^i)
 |0,_=>rfl
 |n+1,h=>by
  have e:(2^i+n)/2^i%2=1:=by
   have:=Nat.add_div_left n (Nat.two_pow_pos i)
   rw[this,Nat.div_eq_of_lt (by omega)]
  rw[←Nat.add_assoc,wo,if_neg (by omega),Cq (by omega)]
theorem Oc.left {i:Nat}{a b:El}(h:Oc i a):Oc i (a++b):=by
 obtain⟨k,h1,h2,h3⟩:=h;exact⟨k,by rw[X6];omega,h2,by rw[uh h1];exact h3⟩
theorem Oc.right {i h:Nat}{a b:El}(hi:i<h)(ha:a.length=2^h)(H:Oc i b):Oc i (a++b):=by
 obtain⟨k,h1,h2,h3⟩:=H;exact⟨2^h+k,by rw[X6,ha];omega,by rw[DM hi];exact h2,by rw[←ha,oZ];exact h3⟩
theorem Bd {h:Nat}{a b:El}(ha:a.length=2^h)(hb:b.length=2^h)(H:¬Oc h (a++b)):b=zE (2^h):=by
 refine List.ext_getElem (by rw[hb,av]) fun k h1 h2=>?_;have e:(2^h+k)/2^h%2=1:=by
  have:=Nat.add_div_left k (Nat.two_pow_pos h)
  rw[this,Nat.div_eq_of_lt (by omega)]
 have:b.getD k 0=0:=Classical.byContradiction fun h0=>H ⟨2^h+k,by rw[X6];omega,e,by rw[←ha,oZ];exact h0⟩
 rw[X7,X8 h1]at this;rw[show b[k]=0 from this];exact(List.getElem_replicate _).symm
theorem Pn {t t':List El}{i n:Nat}(h1:∀k,k<i→t'.getD k []=t.getD k [])
  (h2:∀k,i≤k→k+1<n→t'.getD k []=wo i (t.getD (k+1) []) (2^(k+1))∧(t.getD (k+1) []).length=2^(k+1)∧¬Oc i (t.getD (k+1) [])):
  ∀(h:Nat),i≤h→h+1≤n→∀a:El,a.length=2^(h+1)→¬Oc i a→(wo i a (2^(h+1))).length=2^h∧val h t' (wo i a (2^(h+1)))=val (h+1) t a:=by
 intro h
 induction h with
 |zero=>
  intro hi _ a ha hn;obtain rfl:i=0:=by omega
  have e:a=a.take (2^0)++a.drop (2^0):=(List.take_append_drop _ a).symm;have z:=Bd (ai ha) (ah ha) (e▸hn);have w:wo 0 a (2^(0+1))=a.take (2^0):=by
   rw[O4,Nat.mul_two,Cq (O1 _),BI (O1 _) (by rw[ha];decide)]
  rw[w];refine⟨ai ha,?_⟩;show val 0 t' _=val 0 t (a.take (2^0))+val 0 t (a.drop (2^0))*_;rw[z,val_zero,zero_mul,add_zero];rfl
 |succ h ih=>
  intro hi hn a ha no;have e:a=a.take (2^(h+1))++a.drop (2^(h+1)):=(List.take_append_drop _ a).symm;have p2:2^(h+1+1)=2^(h+1)+2^(h+1):=by rw[O4,Nat.mul_two]
  by_cases k:i=h+1
  ·subst k;have z:=Bd (ai ha) (ah ha) (e▸no);have w:wo (h+1) a (2^(h+1+1))=a.take (2^(h+1)):=by
    rw[p2,Cq (O1 _),BI (O1 _) (by rw[ha,p2];omega)]
   rw[w];refine⟨ai ha,?_⟩;rw[val_congr (z:=t) h1,show val (h+1+1) t a=val (h+1) t (a.take (2^(h+1)))+val (h+1) t (a.drop (2^(h+1)))*sqrt (val (h+1) t (t.getD (h+1) []))from rfl,z,val_zero,zero_mul,add_zero]
  have Uk:i≤h:=by omega
  have n1:¬Oc i (a.take (2^(h+1))):=fun H=>no (e▸H.left);have n2:¬Oc i (a.drop (2^(h+1))):=fun H=>no (e▸H.right (by omega) (ai ha));have w:wo i a (2^(h+1+1))=wo i (a.take (2^(h+1))) (2^(h+1))++wo i (a.drop (2^(h+1))) (2^(h+1)):=by
   conv=>lhs;rw[e,p2]
   exact AN (by omega) (ai ha)
  obtain⟨l1,v1⟩:=ih Uk (by omega) _ (ai ha) n1;obtain⟨l2,v2⟩:=ih Uk (by omega) _ (ah ha) n2;obtain⟨r1,r2,r3⟩:=h2 h Uk (by omega);obtain⟨_,v3⟩:=ih Uk (by omega) _ r2 r3;rw[w];refine⟨by rw[X6,l1,l2,←Nat.mul_two,←O4],?_⟩;rw[ft l1,v1,v2,r1,v3];rfl
def fD (i:Nat)(t:List El):List El:=(List.range (t.length-1)).map fun k=>if k<i then t.getD k []else wo i (t.getD (k+1) []) (2^(k+1))
theorem kT {i:Nat}{t:List El}:(fD i t).length=t.length-1:=by unfold fD;simp
theorem jD {i k:Nat}{t:List El}(h:k<t.length-1):(fD i t).getD k []=if k<i then t.getD k []else wo i (t.getD (k+1) []) (2^(k+1)):=by
 unfold fD;rw[X7,List.getElem?_map,List.getElem?_range h];rfl
section
variable {A:List R}{t:List El}{i:Nat}
theorem TG.wo (T:TG A t)(hi:i<t.length)(no:∀k,i<k→k<t.length→¬Oc i (t.getD k [])){h:Nat}(h1:i≤h)(h2:h<t.length){a:El}(ha:a.length=2^(h+1))(na:¬Oc i a):
  (Tw.wo i a (2^(h+1))).length=2^h∧val h (fD i t) (Tw.wo i a (2^(h+1)))=val (h+1) t a:=
 Pn (n:=t.length) (fun k hk=>by rw[jD (by omega),if_pos hk]) (fun k hk hn=>⟨by rw[jD (by omega),if_neg (by omega)],(T.rd.rl (k+1) hn).1,no _ (by omega) hn⟩) h h1 h2 a ha na
theorem TG.drop (T:TG A t)(hi:i<t.length)(no:∀k,i<k→k<t.length→¬Oc i (t.getD k [])):TG A (fD i t):=by
 have low:∀k,k<i→(fD i t).getD k []=t.getD k []:=fun k hk=>by rw[jD (by omega),if_pos hk]
 have lowv:∀k,k≤i→∀a,val k (fD i t) a=val k t a:=fun k hk a=>val_congr (fun j hj=>low j (by omega)) a;have high:∀k,i≤k→k<t.length-1→((fD i t).getD k []).length=2^k∧val k (fD i t) ((fD i t).getD k [])=val (k+1) t (t.getD (k+1) []):=fun k hk hn=>by
  rw[jD hn,if_neg (by omega)];exact T.wo hi no hk (by omega) (T.rd.rl (k+1) (by omega)).1 (no _ (by omega) (by omega))
 have root:∀j,j<t.length-1→∀m,m<j→In (if j<i then j else j+1) t (R.sqrt (val m (fD i t) ((fD i t).getD m []))):=fun j hj m hm=>by
  by_cases k:m<i
  ·rw[low m k,lowv m (by omega)]
   exact(In.root (h:=m) (t:=t)).le (by split<;>omega)
  rw[(high m (by omega) (by omega)).2,if_neg (by omega)];exact(In.root (h:=m+1) (t:=t)).le (by omega)
 refine⟨⟨fun k hk=>?_,fun k hk x hx=>?_⟩,fun k hk=>?_⟩
 all_goals rw[kT]at hk
 ·by_cases g:k<i
  ·rw[low k g,lowv k (by omega)];exact T.rd.rl k (by omega)
  obtain⟨e1,e2⟩:=high k (by omega) hk;exact⟨e1,by rw[e2];exact(T.rd.rl (k+1) (by omega)).2⟩
 ·by_cases g:k<i
  ·rw[low k g,lowv k (by omega)];refine T.rd.ns k (by omega) x ?_;obtain⟨a,ha,e⟩:=hx;exact⟨a,ha,by rw[←e,lowv k (by omega)]⟩
  rw[(high k (by omega) hk).2];refine T.rd.ns (k+1) (by omega) x (In.m9 (T.rd.le (by omega)) (fun m hm=>?_) hx)
  have:=root k hk m hm
  rwa [if_neg g]at this
 by_cases g:k<i
 ·rw[low k g,lowv k (by omega)];exact T.mem k (by omega)
 rw[(high k (by omega) hk).2];exact T.mem (k+1) (by omega)
end
structure bI (A:List R) (B:Nat) (t:List El) (a:El) (x:R):Prop where
 tg:TG A t
 len:a.length=2^t.length
 val:val t.length t a=x
 bits:iu B a
 tb:∀j,j<t.length→iu B (t.getD j [])
theorem iu.wo {B i n:Nat}{a:El}(h:iu B a)(hn:n≤a.length):iu B (Tw.wo i a n):=fun c hc=>h c (CJ hn c hc)
theorem bI.drop {A:List R}{B:Nat}{t:List El}{a:El}{x:R}(h:bI A B t a x){i:Nat}(hi:i<t.length)(no:∀k,i<k→k<t.length→¬Oc i (t.getD k []))(na:¬Oc i a):
  bI A B (fD i t) (Tw.wo i a a.length) x:=by
 obtain⟨n,hn⟩:∃n,t.length=n+1:=⟨t.length-1,by omega⟩;have hl:=h.len;rw[hn]at hl;have hv:=h.val;rw[hn]at hv;obtain⟨e1,e2⟩:=h.tg.wo hi no (h:=n) (by omega) (by omega) hl na;have hd:(fD i t).length=n:=by rw[kT];omega
 refine⟨h.tg.drop hi no,by rw[hd,hl];exact e1,by rw[hd,hl,e2,hv],h.bits.wo (O1 _),fun j hj=>?_⟩;rw[hd]at hj;rw[jD (by omega)]
 split
 ·exact h.tb j (by omega)
 exact(h.tb (j+1) (by omega)).wo (by rw[(h.tg.rd.rl (j+1) (by omega)).1];exact O1 _)
theorem bI.num {A:List R}(hV:dV A){B:Nat}{t:List El}{a:El}{x:R}(h:bI A B t a x):ax A t a x ((B+1)*2^t.length) (2^t.length):=by
 rw[←h.val];exact(ax.short h.tg h.len h.bits).mono (Nat.sub_le _ _) (by rw[oL hV,Nat.one_mul];exact Nat.sub_le _ _)
theorem bI.sub {A A':List R}{B:Nat}{t:List El}{a:El}{x:R}(hA:∀a,a∈A→a∈A')(h:bI A B t a x):bI A' B t a x:=⟨h.tg.sub hA,h.len,h.val,h.bits,h.tb⟩
end Go.Tw
namespace Go.Proofs.YtehahgjkjfoebaaGreat
open Go.Proofs.Tryz
open Go Go.Eng
open Go.Tw (El Oc wo)
theorem sV {k i:Nat}(hi:i≤8):(k:Int).fdiv (2^(if i≤64 then i else 64))=((k/2^i:Nat):Int):=by
 rw[if_pos (by omega),Int.fdiv_eq_ediv_of_nonneg _ (Int.pow_nonneg (by decide)),show ((2:Int)^i)=((2^i:Nat):Int) by rw[Int.natCast_pow];rfl];rfl
theorem Jg {x:Rat}(h:bQ x.num=0):x=0:=Rat.num_eq_zero.1 (wS.1 h)
theorem DU (m:Nat):(m:Int).tmod 2=((m%2:Nat):Int):=rfl
theorem AT (a:El)(i:Nat)(hi:i≤8)(hl:a.length<2^38)(ha:Qk a){b:Bool}(hb:b=true↔Oc i a):Pr prog 112 [eV a,.one (.int .i64 i)] (.one (.bool b)):=by
 refine pw func112 ⟨[0,1,4,5,9,24],[]⟩ ?_;simp only[Tryz.f112,ntmps112,iz,seval];simp only[vx,T,seval,eV,ag];refine Lk (fun y:{k:Nat//k≤a.length∧∀j,j<k→j/2^i%2=1→a.getD j default=0}=>⟨[(0,eV a),(1,.one (.int .i64 i)),(4,.one (.bool false)),(5,.one (.int .i64 y.1))],[],1,25⟩) (fun y=>a.length-y.1) ⟨0,O2 _,fun j hj=>absurd hj (O5 _)⟩ ?_ (fun⟨k,hk,hz⟩=>?_)
 ·refine Sa ?_;simp only[ry,seval,rz,eV,ag]
 have i1:=wI k (by omega);simp only[vx,T,seval,eV,ag,sV hi,DU];refine⟨fun g=>Lg ?_,fun g=>Lg ?_⟩
 ·have U3:k<a.length:=by omega
  have c:=rZ (a.getD k default) (by have:=ha.get k;omega);have UE:k/2^i%2=1→a.getD k default≠0→b=true:=fun h1 h2=>hb.2 ⟨k,U3,h1,h2⟩;have TC:(k/2^i%2=1→a.getD k default=0)→∀j,j<k+1→j/2^i%2=1→a.getD j default=0:=fun h0 j hj h1=>by
   by_cases We:j<k
   ·exact hz j We h1
   obtain rfl:j=k:=by omega
   exact h0 h1
  obtain⟨x,hx⟩:∃x,x=a.getD k default:=⟨_,rfl⟩;rw[←hx]at c UE TC;simp only[vx,T,seval,eV,ag,sV hi,DU];refine⟨by omega,fun g2=>Lg ?_,fun g2=>Lg ?_⟩
  ·simp only[vx,T,seval,eV,ag,←hx,qC];refine⟨by omega,Cg c ?_⟩;simp only[vx,T,seval,eV,ag];refine⟨fun h=>Lg ?_,fun h=>Lg ?_⟩
   ·rw[UE (by omega) (fun e=>h (by rw[e];rfl))];simp only[vx,T,seval,eV,ag];exact Ve rfl
   simp only[vx,T,seval,eV,ag,i1];refine Lq ⟨k+1,by omega,TC fun _=>Jg (by omega)⟩ ?_ (by show a.length-(k+1)<a.length-k;omega);refine Sa ?_;simp only[ry,seval,rz,eV,ag]
  simp only[vx,T,seval,eV,ag,i1];refine Lq ⟨k+1,by omega,TC fun e=>absurd e (by omega)⟩ ?_ (by show a.length-(k+1)<a.length-k;omega);refine Sa ?_;simp only[ry,seval,rz,eV,ag]
 have U3:k=a.length:=by omega
 have e:b=false:=by
  cases b with
  |false=>rfl
  |true=>
   obtain⟨j,h1,h2,h3⟩:=hb.1 rfl;exact absurd (hz j (by omega) h2) h3
 rw[e];simp only[vx,T,seval,eV,ag];exact Ve rfl
theorem Kc {i:Nat}{a:El}{k:Nat}(h:k/2^i%2=0):wo i a (k+1)=wo i a k++[a.getD k default]:=by rw[wo,if_pos h];rfl
theorem LW {i:Nat}{a:El}{k:Nat}(h:k/2^i%2≠0):wo i a (k+1)=wo i a k:=by rw[wo,if_neg h]
theorem vN (a:El)(i:Nat)(hi:i≤8)(hl:a.length<2^38):Fr prog 113 [eV a,.one (.int .i64 i)] (.rows 66 4 (wo i a a.length).length (fQ (wo i a a.length))):=by
 refine fw func113 ⟨[0,1,4,5,6,10,17],[]⟩ ?_;simp only[Tryz.f113,ntmps113,iz,seval];simp only[vx,T,seval,eV,ag];refine Lk (fun y:{k:Nat//k≤a.length}=>⟨[(0,eV a),(1,.one (.int .i64 i)),(4,.one .nil),(5,.one (.own 1 4 0 (wo i a y.1).length)),(6,.one (.int .i64 y.1))],[(1,⟨.rows 66 4 (wo i a y.1).length (fQ (wo i a y.1)),true⟩)],2,26⟩) (fun y=>a.length-y.1) ⟨0,O2 _⟩ ?_ (fun⟨k,hk⟩=>?_)
 ·refine Sa ?_;simp only[ry,seval,rz,eV,ag];exact⟨rfl,rfl⟩
 have i1:=wI k (by omega);simp only;have wl:=Go.Tw.Jw (i:=i) (a:=a) (n:=k);simp only[vx,T,seval,eV,ag,sV hi,DU];refine⟨fun g=>Lg ?_,fun g=>Lg ?_⟩
 ·have U3:k<a.length:=by omega
  simp only[vx,T,seval,eV,ag,sV hi,DU];refine⟨by omega,fun g2=>Lg ?_,fun g2=>Lg ?_⟩
  ·have S1:=Kc (a:=a) (show k/2^i%2=0 by omega);have SJ:=congrArg List.length S1;rw[X6]at SJ;obtain⟨x,hx⟩:∃x,x=a.getD k default:=⟨_,rfl⟩;rw[←hx]at S1;simp only[vx,T,seval,eV,ag,←hx,qC];simp only[i1];refine⟨by omega,⟨by omega,by omega⟩,Lq ⟨k+1,by omega⟩ ?_ ?_⟩
   ·refine Sa ?_;simp only[ry,seval,rz,eV,ag];rw[S1];exact⟨by simp,by simp,Ex rfl x⟩
   simp only;omega
  have S1:=LW (a:=a) (show k/2^i%2≠0 by omega);simp only[vx,T,seval,eV,ag,i1];refine Lq ⟨k+1,by omega⟩ ?_ ?_
  ·refine Sa ?_;simp only[ry,seval,rz,eV,ag,S1]
  simp only;omega
 have U3:k=a.length:=by omega
 subst U3;simp only[vx,T,seval,eV,ag];exact⟨rfl,rfl,fun _ _ _ _=>rfl⟩
open Go Go.Eng
open Go.Tw (El)
def ny (n:Nat)(c:Rat):Prop:=n<zn c.num∨n<nl c.den
def Qx (n:Nat)(x:List El×El):Prop:=(∃i,i<x.2.length∧ny n (x.2.getD i default))∨∃j,j<x.1.length∧∃i,i<(x.1.getD j []).length∧ny n ((x.1.getD j []).getD i default)
theorem vX (x o:List El×El):Pr prog 62 [nX x,.one (.int .i64 0),nX o] (nX x):=by
 refine pw func62 ⟨[0,1,2,3,5,6,8],[]⟩ ?_;simp only[Tryz.f62,ntmps62,iz,seval];simp only[vx,T,seval,nX,nV,tC,ag];exact Ve rfl
theorem Bo (o:List El×El):Pr prog 62 [.agg [.nil,.nil],.one (.int .i64 6),nX o] (nX o):=by
 refine pw func62 ⟨[0,1,2,3,5,6,8],[]⟩ ?_;simp only[Tryz.f62,ntmps62,iz,seval];simp only[vx,T,seval,nX,nV,tC,ag];exact Ve rfl
theorem Po (x:List El×El)(hl:x.2.length<2^38)(hh:x.1.length<2^38)(ht:∀j,j<x.1.length→(x.1.getD j []).length<2^38){b:Bool}(hb:b=true↔Qx 2 x):Pr prog 67 [nX x] (.one (.bool b)):=by
 obtain⟨t,a⟩:=x;simp only at hl hh ht;refine pw func67 ⟨[0,1,2,3,4,5,6,11,33,38,48,70],[]⟩ ?_;simp only[Tryz.f67,ntmps67,iz,seval];simp only[vx,T,seval,nX,nV,tC,ag];refine Lk (fun y:{i:Nat//i≤a.length∧∀j,j<i→¬ny 2 (a.getD j default)}=>⟨[(1,.one (.ptr 1 0)),(2,.one (.bool false)),(3,.one (.int .i64 y.1))],[(1,⟨.var [tC t.length t,ag a],true⟩)],2,71⟩) (fun y=>a.length-y.1) ⟨0,O2 _,fun j hj=>absurd hj (O5 _)⟩ ?_ (fun⟨i,hi,hz⟩=>?_)
 ·refine Sa ?_;simp only[ry,seval,rz,tC,ag]
 have i1:=wI i (by omega);simp only[vx,T,seval,tC,ag];refine⟨fun g=>Lg ?_,fun g=>Lg ?_⟩
 ·have SU:i<a.length:=by omega
  have UE:ny 2 (a.getD i default)→b=true:=fun h=>hb.2 (.inl ⟨i,SU,h⟩);have TC:¬ny 2 (a.getD i default)→∀j,j<i+1→¬ny 2 (a.getD j default):=fun h0 j hj=>by
   by_cases h:j<i
   ·exact hz j h
   obtain rfl:j=i:=by omega
   exact h0
  obtain⟨x,hx⟩:∃x,x=a.getD i default:=⟨_,rfl⟩;rw[←hx]at UE TC;have ln:(zm x.num).length=zn x.num:=rfl;have ld:(zm (x.den:Int)).length=nl x.den:=rfl;simp only[vx,T,seval,tC,ag,←hx,qC];refine⟨by omega,fun h=>Lg ?_,fun h=>Lg ?_⟩
  ·rw[UE (.inl (by omega))];simp only[vx,T,seval,tC,ag];exact Ve rfl
  simp only[vx,T,seval,tC,ag,←hx,qC];refine⟨by omega,fun h'=>Lg ?_,fun h'=>Lg ?_⟩
  ·rw[UE (.inr (by omega))];simp only[vx,T,seval,tC,ag];exact Ve rfl
  simp only[vx,T,seval,tC,ag,i1];refine Lq ⟨i+1,by omega,TC fun h2=>by unfold ny at h2;omega⟩ ?_ (by show a.length-(i+1)<a.length-i;omega);refine Sa ?_;simp only[ry,seval,rz,tC,ag]
 have ha:∀i,i<a.length→¬ny 2 (a.getD i default):=fun j hj=>hz j (by omega);clear hz i1 g;simp only[vx,T,seval,tC,ag];refine Lk (fun y:{j:Nat//j≤t.length∧∀k,k<j→∀i,i<(t.getD k []).length→¬ny 2 ((t.getD k []).getD i default)}=>⟨[(1,.one (.ptr 1 0)),(2,.one (.bool false)),(4,.one (.int .i64 y.1))],[(1,⟨.var [tC t.length t,ag a],true⟩)],2,71⟩) (fun y=>t.length-y.1) ⟨0,O2 _,fun j hj=>absurd hj (O5 _)⟩ ?_ (fun⟨j,hj,hz⟩=>?_)
 ·refine Sa ?_;simp only[ry,seval,rz,tC,ag]
 have j1:=wI j (by omega);simp only[vx,T,seval,tC,ag];refine⟨fun g=>Lg ?_,fun g=>Lg ?_⟩
 ·have Tj:j<t.length:=by omega
  have UE:∀i,i<(t.getD j []).length→ny 2 ((t.getD j []).getD i default)→b=true:=fun i hi h=>hb.2 (.inr ⟨j,Tj,i,hi,h⟩);have TC:(∀i,i<(t.getD j []).length→¬ny 2 ((t.getD j []).getD i default))→∀k,k<j+1→∀i,i<(t.getD k []).length→¬ny 2 ((t.getD k []).getD i default):=fun h0 k hk=>by
   by_cases h:k<j
   ·exact hz k h
   obtain rfl:k=j:=by omega
   exact h0
  have Xy:=ht j Tj;obtain⟨e,he⟩:∃e,e=t.getD j []:=⟨_,rfl⟩;rw[←he]at UE TC Xy;simp only[vx,T,seval,tC,ag];refine Lk (fun y:{i:Nat//i≤e.length∧∀k,k<i→¬ny 2 (e.getD k default)}=>⟨[(1,.one (.ptr 1 0)),(2,.one (.bool false)),(4,.one (.int .i64 j)),(5,.one (.int .i64 y.1))],[(1,⟨.var [tC t.length t,ag a],true⟩)],2,71⟩) (fun y=>e.length-y.1) ⟨0,O2 _,fun j hj=>absurd hj (O5 _)⟩ ?_ (fun⟨i,hi,hz⟩=>?_)
  ·refine Sa ?_;simp only[ry,seval,rz,tC,ag]
  have i1:=wI i (by omega);simp only[vx,T,seval,tC,ag,←he];refine⟨by omega,fun g=>Lg ?_,fun g=>Lg ?_⟩
  ·have SU:i<e.length:=by omega
   have UE:=UE i SU;have TC:¬ny 2 (e.getD i default)→∀j,j<i+1→¬ny 2 (e.getD j default):=fun h0 j hj=>by
    by_cases h:j<i
    ·exact hz j h
    obtain rfl:j=i:=by omega
    exact h0
   obtain⟨x,hx⟩:∃x,x=e.getD i default:=⟨_,rfl⟩;rw[←hx]at UE TC;have ln:(zm x.num).length=zn x.num:=rfl;have ld:(zm (x.den:Int)).length=nl x.den:=rfl;simp only[vx,T,seval,tC,ag,←he,←hx,qC];refine⟨by omega,by omega,fun h=>Lg ?_,fun h=>Lg ?_⟩
   ·rw[UE (.inl (by omega))];simp only[vx,T,seval,tC,ag];exact Ve rfl
   simp only[vx,T,seval,tC,ag,←he,←hx,qC];refine⟨fun h'=>Lg ?_,fun h'=>Lg ?_⟩
   ·rw[UE (.inr (by omega))];simp only[vx,T,seval,tC,ag];exact Ve rfl
   simp only[vx,T,seval,tC,ag,i1];refine Lq ⟨i+1,by omega,TC fun h2=>by unfold ny at h2;omega⟩ ?_ (by show e.length-(i+1)<e.length-i;omega);refine Sa ?_;simp only[ry,seval,rz,tC,ag]
  simp only[vx,T,seval,tC,ag,j1];refine Lq ⟨j+1,by omega,TC fun i hi=>hz i (by omega)⟩ ?_ (by show t.length-(j+1)<t.length-j;omega);refine Sa ?_;simp only[ry,seval,rz,tC,ag]
 rw[show b=false by
  cases UX:b with
  |false=>rfl
  |true=>
   rcases hb.1 UX with⟨i,h1,h2⟩|⟨k,h1,i,h2,h3⟩
   ·exact absurd h2 (ha i h1)
   exact absurd h3 (hz k (by have:k<t.length:=h1;omega) i h2)]
 simp only[vx,T,seval,tC,ag];exact Ve rfl
theorem KA (x:List El×El)(hl:x.2.length<2^38)(hh:x.1.length<2^38)(ht:∀j,j<x.1.length→(x.1.getD j []).length<2^38){b:Bool}(hb:b=false↔Qx 6 x):Pr prog 69 [nX x] (.one (.bool b)):=by
 obtain⟨t,a⟩:=x;simp only at hl hh ht;refine pw func69 ⟨[0,1,2,3,4,5,10,32,37,47,75],[]⟩ ?_;simp only[Tryz.f69,ntmps69,iz,seval];simp only[vx,T,seval,nX,nV,tC,ag];refine Lk (fun y:{i:Nat//i≤a.length∧∀j,j<i→¬ny 6 (a.getD j default)}=>⟨[(1,.one (.ptr 1 0)),(2,.one (.bool false)),(3,.one (.int .i64 y.1))],[(1,⟨.var [tC t.length t,ag a],true⟩)],2,76⟩) (fun y=>a.length-y.1) ⟨0,O2 _,fun j hj=>absurd hj (O5 _)⟩ ?_ (fun⟨i,hi,hz⟩=>?_)
 ·refine Sa ?_;simp only[ry,seval,rz,tC,ag]
 have i1:=wI i (by omega);simp only[vx,T,seval,tC,ag];refine⟨fun g=>Lg ?_,fun g=>Lg ?_⟩
 ·have SU:i<a.length:=by omega
  have UE:ny 6 (a.getD i default)→b=false:=fun h=>hb.2 (.inl ⟨i,SU,h⟩);have TC:¬ny 6 (a.getD i default)→∀j,j<i+1→¬ny 6 (a.getD j default):=fun h0 j hj=>by
   by_cases h:j<i
   ·exact hz j h
   obtain rfl:j=i:=by omega
   exact h0
  obtain⟨x,hx⟩:∃x,x=a.getD i default:=⟨_,rfl⟩;rw[←hx]at UE TC;have ln:(zm x.num).length=zn x.num:=rfl;have ld:(zm (x.den:Int)).length=nl x.den:=rfl;simp only[vx,T,seval,tC,ag,←hx,qC];refine⟨by omega,fun h=>Lg ?_,fun h=>Lg ?_⟩
  ·rw[UE (.inl (by omega))];simp only[vx,T,seval,tC,ag];exact Ve rfl
  simp only[vx,T,seval,tC,ag,←hx,qC];refine⟨by omega,fun h'=>Lg ?_,fun h'=>Lg ?_⟩
  ·rw[UE (.inr (by omega))];simp only[vx,T,seval,tC,ag];exact Ve rfl
  simp only[vx,T,seval,tC,ag,i1];refine Lq ⟨i+1,by omega,TC fun h2=>by unfold ny at h2;omega⟩ ?_ (by show a.length-(i+1)<a.length-i;omega);refine Sa ?_;simp only[ry,seval,rz,tC,ag]
 have ha:∀i,i<a.length→¬ny 6 (a.getD i default):=fun j hj=>hz j (by omega);clear hz i1 g;simp only[vx,T,seval,tC,ag];refine Lk (fun y:{j:Nat//j≤t.length∧∀k,k<j→∀i,i<(t.getD k []).length→¬ny 6 ((t.getD k []).getD i default)}=>⟨[(1,.one (.ptr 1 0)),(2,.one (.bool false)),(4,.one (.int .i64 y.1))],[(1,⟨.var [tC t.length t,ag a],true⟩)],2,76⟩) (fun y=>t.length-y.1) ⟨0,O2 _,fun j hj=>absurd hj (O5 _)⟩ ?_ (fun⟨j,hj,hz⟩=>?_)
 ·refine Sa ?_;simp only[ry,seval,rz,tC,ag]
 have j1:=wI j (by omega);simp only[vx,T,seval,tC,ag];refine⟨fun g=>Lg ?_,fun g=>Lg ?_⟩
 ·have Tj:j<t.length:=by omega
  have UE:∀i,i<(t.getD j []).length→ny 6 ((t.getD j []).getD i default)→b=false:=fun i hi h=>hb.2 (.inr ⟨j,Tj,i,hi,h⟩);have TC:(∀i,i<(t.getD j []).length→¬ny 6 ((t.getD j []).getD i default))→∀k,k<j+1→∀i,i<(t.getD k []).length→¬ny 6 ((t.getD k []).getD i default):=fun h0 k hk=>by
   by_cases h:k<j
   ·exact hz k h
   obtain rfl:k=j:=by omega
   exact h0
  have Xy:=ht j Tj;obtain⟨e,he⟩:∃e,e=t.getD j []:=⟨_,rfl⟩;rw[←he]at UE TC Xy;simp only[vx,T,seval,tC,ag];refine Lk (fun y:{i:Nat//i≤e.length∧∀k,k<i→¬ny 6 (e.getD k default)}=>⟨[(1,.one (.ptr 1 0)),(2,.one (.bool false)),(4,.one (.int .i64 j)),(5,.one (.int .i64 y.1))],[(1,⟨.var [tC t.length t,ag a],true⟩)],2,76⟩) (fun y=>e.length-y.1) ⟨0,O2 _,fun j hj=>absurd hj (O5 _)⟩ ?_ (fun⟨i,hi,hz⟩=>?_)
  ·refine Sa ?_;simp only[ry,seval,rz,tC,ag]
  have i1:=wI i (by omega);simp only[vx,T,seval,tC,ag,←he];refine⟨by omega,fun g=>Lg ?_,fun g=>Lg ?_⟩
  ·have SU:i<e.length:=by omega
   have UE:=UE i SU;have TC:¬ny 6 (e.getD i default)→∀j,j<i+1→¬ny 6 (e.getD j default):=fun h0 j hj=>by
    by_cases h:j<i
    ·exact hz j h
    obtain rfl:j=i:=by omega
    exact h0
   obtain⟨x,hx⟩:∃x,x=e.getD i default:=⟨_,rfl⟩;rw[←hx]at UE TC;have ln:(zm x.num).length=zn x.num:=rfl;have ld:(zm (x.den:Int)).length=nl x.den:=rfl;simp only[vx,T,seval,tC,ag,←he,←hx,qC];refine⟨by omega,by omega,fun h=>Lg ?_,fun h=>Lg ?_⟩
   ·rw[UE (.inl (by omega))];simp only[vx,T,seval,tC,ag];exact Ve rfl
   simp only[vx,T,seval,tC,ag,←he,←hx,qC];refine⟨by omega,by omega,fun h'=>Lg ?_,fun h'=>Lg ?_⟩
   ·rw[UE (.inr (by omega))];simp only[vx,T,seval,tC,ag];exact Ve rfl
   simp only[vx,T,seval,tC,ag,i1];refine Lq ⟨i+1,by omega,TC fun h2=>by unfold ny at h2;omega⟩ ?_ (by show e.length-(i+1)<e.length-i;omega);refine Sa ?_;simp only[ry,seval,rz,tC,ag]
  simp only[vx,T,seval,tC,ag,j1];refine Lq ⟨j+1,by omega,TC fun i hi=>hz i (by omega)⟩ ?_ (by show t.length-(j+1)<t.length-j;omega);refine Sa ?_;simp only[ry,seval,rz,tC,ag]
 rw[show b=true by
  cases UX:b with
  |true=>rfl
  |false=>
   rcases hb.1 UX with⟨i,h1,h2⟩|⟨k,h1,i,h2,h3⟩
   ·exact absurd h2 (ha i h1)
   exact absurd h3 (hz k (by have:k<t.length:=h1;omega) i h2)]
 simp only[vx,T,seval,tC,ag];exact Ve rfl
open Go Go.Eng
open Go.Tw (El Oc wo fD kT jD bI TG iu)
def Nd (i:Nat)(x:List El×El)(k:Nat):Prop:=Oc i x.2∨∃m,i<m∧m<k∧Oc i (x.1.getD m [])
open Classical in
noncomputable def kL:Nat→List El×El→List El×El
 |0,x=>x
 |i+1,x=>if Nd i x x.1.length then kL i x else kL i (fD i x.1,wo i x.2 x.2.length)
theorem mK {A:List R}{B:Nat}{v:R}:∀(n:Nat) {x:List El×El},n≤x.1.length→bI A B x.1 x.2 v→bI A B (kL n x).1 (kL n x).2 v
 |0,_,_,h=>h
 |n+1,x,hn,h=>by
  rw[kL]
  split
  ·exact mK n (by omega) h
  rename_i no
  refine mK n (by show n≤(fD n x.1).length;rw[kT];omega) (h.drop (by omega) (fun k h1 h2 h3=>no (.inr ⟨k,h1,h2,h3⟩)) fun h3=>no (.inl h3))
theorem iu.qk {B:Nat}{a:El}(h:iu B a)(hB:B<2^38):Qk a:=fun c hc=>by
 have:=Go.Tw.tc (h c hc).1 (h c hc).2
 omega
theorem Ds (p:Prop):∃b:Bool,b=true↔p:=by
 by_cases h:p
 ·exact⟨true,fun _=>h,fun _=>rfl⟩
 exact⟨false,fun e=>(by cases e),fun k=>absurd k h⟩
def wR (t:List El)(i k m:Nat):El:=if i<m∧m<k then wo i (t.getD m []) (2^m)else t.getD m []
theorem IH {t:List El}{i m:Nat}:wR t i (i+1) m=t.getD m []:=if_neg (by omega)
theorem My {t:List El}{i k:Nat}:wR t i k k=t.getD k []:=if_neg (by omega)
theorem N3 {t:List El}{i k m j:Nat}{e:El}(Vd:i<k)(he:e=wo i (t.getD k []) (2^k))(hj:j<1):bz (fun m _=>ag (wR t i k m)) k 0 [ag e] m j=ag (wR t i (k+1) m):=by
 obtain rfl:j=0:=by omega
 unfold bz wR
 by_cases h:m=k
 ·subst h;rw[if_pos rfl,if_pos (O2 _),if_pos (by simp),if_pos ⟨Vd,by omega⟩,he];rfl
 rw[if_neg h];simp only
 by_cases h2:i<m∧m<k
 ·rw[if_pos h2,if_pos ⟨h2.1,by omega⟩]
 rw[if_neg h2,if_neg (by omega)]
theorem Kx {t:List El}{i m:Nat}(hi:i<t.length)(hm:m<t.length-1):(if m<i then ag (wR t i t.length m)else ag (wR t i t.length (i+1+(m-i))))=ag ((fD i t).getD m []):=by
 rw[jD hm]
 split
 ·unfold wR;rw[if_neg (by omega)]
 unfold wR;rw[show i+1+(m-i)=m+1 by omega,if_pos ⟨by omega,by omega⟩]
section
variable {A:List R}(hA:Go.Tw.oF A)
include hA
theorem NR (x:List El×El){v:R}(hx:bI A 64 x.1 x.2 v):Pr prog 68 [nX x] (nX (kL x.1.length x)):=by
 obtain⟨R,hR⟩:∃R,R=kL x.1.length x:=⟨_,rfl⟩;rw[←hR];have h3:=hx.tg.my hA;have w1:IntKind.i64.wrap ((x.1.length:Int)-1)=(x.1.length:Int)-1:=Q4 _ (by omega);refine pw func68 ⟨[0,1,2,3,4,5,6,7,20,33,46,58],[(1,(.opt 7 3 (.cons 3 [4,5] (.cons 6 [] (.cons 8 [] .nil .nil) .nil) .nil) (.cons 3 [4,5] (.cons 6 [] (.cons 7 [] (.cons 8 [] .nil .nil) .nil) (.cons 7 [4,5] (.cons 6 [] (.cons 8 [] .nil .nil) .nil) .nil)) .nil)))]⟩ ?_;simp only[Tryz.f68,ntmps68,iz,seval];simp only[vx,T,seval,nX,nV,tC,ag,w1]
 repeat' (with_reducible refine Q3 ?_ ?_)
 all_goals first|omega|skip
 all_goals refine Lk (fun y:{y:Nat×(List El×El)//y.1≤y.2.1.length∧bI A 64 y.2.1 y.2.2 v∧kL y.1 y.2=R}=>⟨[(2,.one (.ptr 1 0)),(3,.one (.ptr 2 0)),(4,.one (.int .i64 ((y.1.1:Int)-1)))],[(1,⟨.var [.nil,.nil],true⟩),(2,⟨.var [.own 3 1 0 y.1.2.1.length,ag y.1.2.2],true⟩),(3,⟨.rows 54 1 y.1.2.1.length (fun i _=>ag (y.1.2.1.getD i [])),true⟩)],4,85⟩) (fun y=>y.1.1) ⟨(x.1.length,x),O1 _,hx,hR.symm⟩ ?_ (fun⟨⟨n,t,a⟩,hn,hs,hr⟩=>?_)
 all_goals first
  |(refine j4 [(1,some 2),(2,some 10),(3,some 12)] ?_;simp only[ry,seval,tC,ag,O5,Nat.sub_zero];done)
  |(refine j4 [(1,some 2),(2,some 14),(3,some 12)] ?_;simp only[ry,seval,tC,ag,O5,Nat.sub_zero];done)
  |(refine j4 [(1,some 2),(2,some 13),(3,some 12)] ?_;simp only[ry,seval,tC,ag,O5,Nat.sub_zero];done)
  |skip
 all_goals
  simp only at hn hs hr;have t3:=hs.tg.my hA;have al:a.length≤2^6:=by rw[hs.len];exact O3 (by decide) t3
  have tl:∀m,m<t.length→(t.getD m []).length=2^m:=fun m hm=>(hs.tg.rd.rl m hm).1;simp only[vx,T,seval,tC,ag];refine⟨fun g=>Lg ?_,fun g=>Lg ?_⟩
  ·obtain⟨i,rfl⟩:∃i,n=i+1:=⟨n-1,by omega⟩;have e0:((i+1:Nat):Int)-1=(i:Int):=by omega
   have i1:=wI i (by omega);have i2:IntKind.i64.wrap ((i:Int)-1)=(i:Int)-1:=Q4 _ (by omega);obtain⟨b0,YS⟩:∃b:Bool,b=true↔Oc i a:=Ds _;have c1:=AT a i (by omega) (by omega) (iu.qk hs.bits (by decide)) YS;clear g;simp only[vx,T,seval,tC,ag,e0,i1];refine Cg c1 ?_;simp only[vx,T,seval,tC,ag,e0,i1];refine Lk (fun y:{p:Nat×Bool//i+1≤p.1∧p.1≤t.length∧(p.2=true↔Nd i (t,a) p.1)}=>⟨[(2,.one (.ptr 1 0)),(3,.one (.ptr 2 0)),(4,.one (.int .i64 i)),(5,.one (.bool y.1.2)),(6,.one (.int .i64 y.1.1))],[(1,⟨.var [.nil,.nil],true⟩),(2,⟨.var [.own 3 1 0 t.length,ag a],true⟩),(3,⟨.rows 54 1 t.length (fun i _=>ag (t.getD i [])),true⟩)],4,85⟩) (fun y=>t.length-y.1.1) ⟨(i+1,b0),O1 _,hn,YS.trans ⟨.inl,fun h=>h.elim id fun⟨m,h1,h2,_⟩=>absurd h1 (by simp only at h2;omega)⟩⟩ ?_ (fun⟨⟨k,b⟩,YJ,TZ,hb⟩=>?_)
   ·refine j4 [(1,some 1),(2,some 2),(3,some 3)] ?_;simp only[ry,seval,tC,ag]
   simp only at YJ TZ hb;have k1:=wI k (by omega);simp only[vx,T,seval,tC,ag];refine⟨fun g=>Lg ?_,fun g=>Lg ?_⟩
   ·have U3:k<t.length:=by omega
    have Xy:=tl k U3;have p8:2^k≤2^6:=O3 (by decide) (by omega);obtain⟨b1,Vs⟩:∃b:Bool,b=true↔Oc i (t.getD k []):=Ds _;have c2:=AT (t.getD k []) i (by omega) (by omega) (iu.qk (hs.tb k U3) (by decide)) Vs;have nx:∀b':Bool,(b'=true↔b=true∨b1=true)→(b'=true↔Nd i (t,a) (k+1)):=fun b' h=>by
     rw[h,hb,Vs]
     constructor
     ·rintro((h|⟨m,h1,h2,h3⟩)|h)
      ·exact .inl h
      ·exact .inr ⟨m,h1,by omega,h3⟩
      exact .inr ⟨k,by omega,by omega,h⟩
     rintro(h|⟨m,h1,h2,h3⟩)
     ·exact .inl (.inl h)
     by_cases hm:m=k
     ·subst hm;exact .inr h3
     exact .inl (.inr ⟨m,h1,by omega,h3⟩)
    obtain⟨e,he⟩:∃e,e=t.getD k []:=⟨_,rfl⟩;rw[←he]at c2;simp only[vx,T,seval,tC,ag,k1];refine⟨fun h=>Lg ?_,fun h=>Lg ?_⟩
    ·simp only[vx,T,seval,tC,ag,k1];refine Lq ⟨(k+1,true),by simp only;omega,U3,nx true ⟨fun _=>.inl h,fun _=>rfl⟩⟩ ?_ (by show t.length-(k+1)<t.length-k;omega);refine j4 [(1,some 1),(2,some 2),(3,some 3)] ?_;simp only[ry,seval,tC,ag]
    simp only[vx,T,seval,tC,ag,k1,←he];refine⟨by omega,Cg c2 ?_⟩;simp only[vx,T,seval,tC,ag,k1];refine Lq ⟨(k+1,b1),by simp only;omega,U3,nx b1 ⟨.inr,fun x=>x.elim (fun y=>absurd y (by rw[h];decide)) id⟩⟩ ?_ (by show t.length-(k+1)<t.length-k;omega);refine j4 [(1,some 1),(2,some 2),(3,some 3)] ?_;simp only[ry,seval,tC,ag]
   have U3:k=t.length:=by omega
   subst U3;clear g
   cases b with
   |true=>
    have e1:kL i (t,a)=R:=by rw[←hr,kL,if_pos (hb.1 rfl)]
    simp only[vx,T,seval,tC,ag,i2];refine Lq ⟨(i,t,a),by simp only;omega,hs,e1⟩ ?_ (by show i<i+1;omega);refine j4 [(1,some 1),(2,some 2),(3,some 3)] ?_;simp only[ry,seval,tC,ag]
   |false=>
    have no:¬Nd i (t,a) t.length:=fun h=>absurd (hb.2 h) (by decide);have na:¬Oc i a:=fun h=>no (.inl h);have nt:∀k,i<k→k<t.length→¬Oc i (t.getD k []):=fun k h1 h2 h3=>no (.inr ⟨k,h1,h2,h3⟩);have e1:kL i (fD i t,wo i a a.length)=R:=by rw[←hr,kL,if_neg no]
    have U2:=hs.drop (by omega) nt na;have c3:=(vN a i (by omega) (by omega)).rows;rw[←Ig]at c3;obtain⟨a',To⟩:∃a',a'=wo i a a.length:=⟨_,rfl⟩;rw[←To]at c3 e1 U2;clear k1 hb YS c1 hr hs no na x hx hR h3 w1;simp only[vx,T,seval,tC,ag,i1];refine Cg c3 ?_;simp only[vx,T,seval,tC,ag,i1];refine Lk (fun y:{k:Nat//i+1≤k∧k≤t.length}=>⟨[(2,.one (.ptr 1 0)),(3,.one (.ptr 2 0)),(4,.one (.int .i64 i)),(7,.one (.int .i64 y.1))],[(1,⟨.var [.nil,.nil],true⟩),(2,⟨.var [.own 3 1 0 t.length,ag a'],true⟩),(3,⟨.rows 54 1 t.length (fun m _=>ag (wR t i y.1 m)),true⟩)],4,85⟩) (fun y=>t.length-y.1) ⟨i+1,O1 _,hn⟩ ?_ (fun⟨k,YJ,TZ⟩=>?_)
    ·refine j4 [(1,some 1),(2,some 2),(3,some 3)] ?_;simp only[ry,seval,tC,ag];exact fun m j _ _=>congrArg ag IH.symm
    simp only;have k1:=wI k (by omega);simp only[vx,T,seval,tC,ag];refine⟨fun g=>Lg ?_,fun g=>Lg ?_⟩
    ·have U3:k<t.length:=by omega
     have Xy:=tl k U3;have p8:2^k≤2^6:=O3 (by decide) (by omega);have c4:=(vN (t.getD k []) i (by omega) (by omega)).rows;rw[←Ig,Xy]at c4;obtain⟨e,he⟩:∃e,e=wo i (t.getD k []) (2^k):=⟨_,rfl⟩;rw[←he,←My (i:=i)]at c4;obtain⟨u,hu⟩:∃u,u=wR t i k k:=⟨_,rfl⟩;rw[←hu]at c4;simp only[vx,T,seval,tC,ag,k1,←hu];refine⟨by omega,Cg c4 ?_⟩;simp only[vx,T,seval,tC,ag,k1];refine⟨by omega,Lq ⟨k+1,by omega,U3⟩ ?_ (by show t.length-(k+1)<t.length-k;omega)⟩;refine j4 [(1,some 1),(2,some 2),(3,some 3)] ?_;simp only[ry,seval,tC,ag];exact fun m j _ hj=>N3 (by omega) he hj
    have U3:k=t.length:=by omega
    subst U3;have dl:(fD i t).length=t.length-1:=kT;have en:i+((t.length:Int)-((i+1:Nat):Int)).toNat=t.length-1:=by omega
    simp only[vx,T,seval,tC,ag,i1,i2,en];refine⟨by omega,by omega,by omega,Lq ⟨(i,fD i t,a'),by simp only[dl];omega,U2,e1⟩ ?_ (by show i<i+1;omega)⟩;refine j4 [(1,some 1),(2,some 2),(3,some 22)] ?_;simp only[ry,seval,tC,ag,dl];exact fun m j hm _=>Kx (by omega) hm
  obtain rfl:n=0:=by omega
  obtain rfl:(t,a)=R:=hr;simp only[vx,T,seval,tC,ag];exact Ve rfl
end
open Go Go.Eng
open Go.Tw (El aC aH zE aj av au ar aa QB cM ai ah aO aJ tB aU aA dL)
theorem dT {h:Nat}{t:List El}(hh:h≤8)(q:Rat):Fr prog 99 [tV h t,QV q] (.rows 66 4 (aU h q).length (fQ (aU h q))):=by
 have hp:=aN hh;have z:=bc 0 (by decide) (by decide);have hs:=dO (h:=h) hh;have hl:(aU h q).length=2^h:=aA;have h1:1≤2^h:=Nat.two_pow_pos h;have S1:∀k,k+1<2^h→(q::zE k)++[0]=q::zE (k+1):=fun k _=>by
  rw[List.cons_append,←Go.Tw.CU];rfl
 have er:aU h q=q::zE (2^h-1):=rfl;rw[er]at hl⊢;obtain⟨N,hN⟩:∃N,N=2^h:=⟨_,rfl⟩;rw[←hN]at hs hl hp h1 S1⊢;refine fw func99 ⟨[0,1,3,4,5,13],[]⟩ ?_;simp only[Tryz.f99,ntmps99,iz,seval];simp only[vx,T,seval,tV,tC,eV,ag,QV,QC];refine Lk (fun y:{k:Nat//k+1≤N}=>⟨[(0,tV h t),(4,.one .nil),(5,.one (.own 2 4 0 (y.1+1)))],[(2,⟨.rows 66 4 (y.1+1) (fQ (q::zE y.1)),true⟩)],3,19⟩) (fun y=>N-(y.1+1)) ⟨0,by omega⟩ ?_ (fun⟨k,hk⟩=>?_)
 ·refine Sa ?_;simp only[ry,seval,rz,tV,tC,eV,ag];intro i j hi hj;obtain rfl:i=0:=by omega
  rw[Nat.zero_mul,Nat.zero_add];exact dD q rfl j
 simp only;simp only[vx,T,seval,tV,tC,eV,ag,hs];refine⟨by omega,?_⟩;refine⟨fun g=>Lg ?_,fun g=>Lg ?_⟩
 ·simp only[vx,T,seval,tV,tC,eV,ag,hs];refine Cg z ?_;simp only[vx,T,seval,tV,tC,eV,ag,hs,QV,QC];refine⟨⟨by omega,by omega⟩,Lq ⟨k+1,by omega⟩ ?_ (by show N-(k+1+1)<N-(k+1);omega)⟩;refine Sa ?_;simp only[ry,seval,rz,tV,tC,eV,ag,hs];rw[←S1 k (by omega)];exact Ex (by rw[List.length_cons,av]) (Rat.ofInt 0)
 simp only[vx,T,seval,tV,tC,eV,ag,hs];have ek:k=N-1:=by omega
 subst ek;exact⟨av.symm,rfl,by rw[av],fun _ _ _ _=>rfl⟩
theorem ND {h:Nat}{U:List El}(h8:h+1≤8):Pr prog 143 [tV (h+1) U,.one (.int .i64 h)] (eV (dL h)):=by
 have U2:=dO (h:=h) (by omega);have hp:=aN h8;have o0:=bc 0 (by decide) (by decide);have o:=bc 1 (by decide) (by decide);have z:=dT (h:=h+1) (t:=U) h8 (Rat.ofInt 0);have e0:aU (h+1) (Rat.ofInt 0)=zE (2^(h+1)):=by
  have:=Nat.two_pow_pos (h+1)
  show(0:Rat)::List.replicate (2^(h+1)-1) 0=List.replicate (2^(h+1)) 0
  rw[←List.replicate_succ];congr 1;omega
 rw[e0]at z;have SI:2^h<2^(h+1):=Nat.pow_lt_pow_right (by decide) (by omega);have hlen:(zE (2^(h+1))).length=2^(h+1):=av;obtain⟨N,hN⟩:∃N,N=2^(h+1):=⟨_,rfl⟩;obtain⟨M,hM⟩:∃M,M=2^h:=⟨_,rfl⟩;have st:=zq h;rw[←hN]at z SI hlen hp st;rw[←hM]at U2 SI st;refine pw func143 ⟨[0,1,4,5],[]⟩ ?_;simp only[Tryz.f143,ntmps143,iz,seval];simp only[vx,T,seval,tV,tC,ag];refine Cg o0 ?_;simp only[vx,T,seval,tV,tC,ag,QV,QC];refine cN.fresh z ?_;simp only[vx,T,seval,tV,tC,ag,U2,hlen];refine⟨by omega,Cg o ?_⟩;simp only[vx,T,seval,tV,tC,ag,QV,QC,U2,hlen];exact⟨⟨by omega,by omega⟩,fR.cell (dH.rows (by rw[Go.Tw.kQ,hN]) fun i j _ hj=>.of_eq (st i j hj))⟩
theorem Fp (q:Rat)(hq:qm q<2^40):Pr prog 177 [QV q] (.one (.bool true)):=by
 have h:=ym (zs q.num) (zs (q.den:Int)) (zm q.num) (zm (q.den:Int)) (qP _) (qP _) (by unfold qm at hq;rw[aX];omega) (by unfold qm at hq;rw[aX,aG];omega);rw[M0]at h;exact h
theorem DQ (a:El)(n:Nat)(hl:a.length=n)(hn:n<2^38)(hq:Qk a):Pr prog 134 [eV a,.one (.int .i64 n)] (.one (.bool true)):=by
 subst hl;refine pw func134 ⟨[0,1,4,5,9,17],[]⟩ ?_;simp only[Tryz.f134,ntmps134,iz,seval];simp only[vx,T,seval,eV,ag];refine Lk (fun y:{i:Nat//i≤a.length}=>⟨[(0,eV a),(1,.one (.int .i64 a.length)),(4,.one (.bool false)),(5,.one (.int .i64 y.1))],[],2,22⟩) (fun y=>a.length-y.1) ⟨0,O2 _⟩ ?_ (fun⟨i,hi⟩=>?_)
 ·refine Sa ?_;simp only[ry,seval,rz,eV,ag]
 have i1:=wI i (by omega);simp only[vx,T,seval,eV,ag];refine⟨fun h1=>Lg ?_,fun h1=>Lg ?_⟩
 ·have v:=Fp _ (Nat.lt_trans (hq.get i) (by decide));obtain⟨x,hx⟩:∃x,x=a.getD i default:=⟨_,rfl⟩;rw[←hx]at v;simp only[vx,T,seval,eV,ag,←hx,qC];refine⟨by omega,Cg v ?_⟩;simp only[vx,T,seval,eV,ag,i1];refine Lq ⟨i+1,by omega⟩ ?_ (by show a.length-(i+1)<a.length-i;omega);refine Sa ?_;simp only[ry,seval,rz,eV,ag]
 simp only[vx,T,seval,eV,ag];exact Ve rfl
theorem DE {h:Nat}{t:List El}(tk:Tk h t):Pr prog 133 [tV h t] (.one (.bool true)):=by
 have h8:=tk.le8;refine pw func133 ⟨[0,2,3,7,17],[]⟩ ?_;simp only[Tryz.f133,ntmps133,iz,seval];simp only[vx,T,seval,tV,tC];refine Lk (fun y:{i:Nat//i≤h}=>⟨[(0,tV h t),(2,.one (.bool false)),(3,.one (.int .i64 y.1))],[],1,18⟩) (fun y=>h-y.1) ⟨0,O2 _⟩ ?_ (fun⟨i,hi⟩=>?_)
 ·refine Sa ?_;simp only[ry,seval,rz,tV,tC]
 have i1:=wI i (by omega);simp only[vx,T,seval,tV,tC];refine⟨fun g=>Lg ?_,fun g=>Lg ?_⟩
 ·have hih:i<h:=by omega
  have hs:=dO (h:=i) (by omega);have r:=DQ (t.getD i []) (2^i) (tk.len i hih) (aN (by omega)) (tk.q i hih);simp only[vx,T,seval,tV,tC,ag,hs];refine⟨by omega,by omega,Cg r ?_⟩;simp only[vx,T,seval,tV,tC,i1];refine Lq ⟨i+1,by omega⟩ ?_ (by show h-(i+1)<h-i;omega);refine Sa ?_;simp only[ry,seval,rz,tV,tC]
 simp only[vx,T,seval,tV,tC];exact Ve rfl
theorem qj {h:Nat}{t:List El}(tk:Tk h t)(a:El)(ha:a.length=2^h)(hq:Qk a):Pr prog 84 [tV h t,eV a] (.one (.bool true)):=by
 have hs:=dO (h:=h) tk.le8;have r:=DQ a (2^h) ha (aN tk.le8) hq;have tw:=DE tk;refine pw func84 ⟨[0,1,4],[]⟩ ?_;simp only[Tryz.f84,ntmps84,iz,seval];simp only[vx,T,seval,tV,tC,eV,ag,hs];refine Cg tw ?_;simp only[vx,T,seval,tV,tC,eV,ag,hs];refine⟨by omega,Cg r ?_⟩;simp only[vx,T,seval,tV,tC];exact Ve rfl
open Go Go.Eng
open Go.Tw (El aC aH zE aj av au ar aa QB cM ai ah aO aJ tB aU aA)
theorem JY:∀{a:El} {n:Nat},a.length=n→aC (zE n) a=a:=fun h=>by rw[Go.Tw.qT,Go.Tw.iR h]
theorem JH {h:Nat}{t:List El}{a b:El}(ha:a.drop (2^h)=zE (2^h))(hb:b.drop (2^h)=zE (2^h)):aj (h+1) t a b=aj h t (a.take (2^h)) (b.take (2^h))++zE (2^h):=by
 rw[aj,ha,hb,Go.Tw.bH,Go.Tw.bH,Go.Tw.iR aa,Go.Tw.gj,Go.Tw.bH,Go.Tw.iR av]
theorem Lj {h:Nat}{t:List El}{a b:El}(ha:a.drop (2^h)=zE (2^h)):aj (h+1) t a b=aj h t (a.take (2^h)) (b.take (2^h))++aj h t (a.take (2^h)) (b.drop (2^h)):=by
 rw[aj,ha,Go.Tw.bH,Go.Tw.bH,Go.Tw.iR aa,Go.Tw.bH,Go.Tw.iR aa]
theorem Lz {h:Nat}{t:List El}{a b:El}(hb:b.drop (2^h)=zE (2^h)):aj (h+1) t a b=aj h t (a.take (2^h)) (b.take (2^h))++aj h t (a.drop (2^h)) (b.take (2^h)):=by
 rw[aj,hb,Go.Tw.gj,Go.Tw.bH,Go.Tw.iR aa,Go.Tw.gj,JY aa]
theorem PA {a b:El}{t:List El}(ha:a.length=2^0)(hb:b.length=2^0)(qa:Qk a)(qb:Qk b):
  Fr prog 54 [tV 0 t,eV a,eV b] (.rows 66 4 (aj 0 t a b).length (fQ (aj 0 t a b))):=by
 have VD:=qa.get 0;have Xg:=qb.get 0;have em:aj 0 t a b=[a.getD 0 default*b.getD 0 default]:=rfl;obtain⟨x,hx⟩:∃x,x=a.getD 0 default:=⟨_,rfl⟩;obtain⟨y,hy⟩:∃y,y=b.getD 0 default:=⟨_,rfl⟩;rw[←hx,←hy]at em;rw[←hx]at VD;rw[←hy]at Xg;refine fw func54 ⟨[0,1,2,6,7,8,9,10,11,12,15,57,63,74],[(4,.nil)]⟩ ?_;simp only[Tryz.f54,ntmps54,iz,seval];simp only[vx,T,seval,tV,tC,eV,ag,←hx,←hy,qC];refine⟨by omega,by omega,Cg (BM x y VD Xg) ?_⟩;simp only[vx,T,seval,QV,QC];rw[em];refine⟨rfl,rfl,rfl,fun i j hi hj=>?_⟩;obtain rfl:i=0:=by omega
 show List.getD _ (0*4+j) _=_;rw[Nat.zero_mul,Nat.zero_add];exact dD (x*y) rfl j
def bg (a:El)(n:Nat):C:=.rows 4 n (fun i=>qC (a.getD i default))
def ba (a:El)(n:Nat):C:=.rows 4 (a.length-n) (fun i=>qC (a.getD (n+i) default))
theorem Pq {t:List El}{X:Nat}(hX:X<2^37){h:Nat}(ih:∀{a b:El},a.length=2^h→b.length=2^h→cM X h t a b→
  Fr prog 54 [tV h t,eV a,eV b] (.rows 66 4 (aj h t a b).length (fQ (aj h t a b)))) {a b:El} (tk:Tk (h+1) t)
  (ha:a.length=2^(h+1)) (hb:b.length=2^(h+1)) (hm:cM X (h+1) t a b):
  Fr prog 54 [tV (h+1) t,eV a,eV b] (.rows 66 4 (aj (h+1) t a b).length (fQ (aj (h+1) t a b))):=by
 have hh:=tk.le8;have hp:2^h≤2^8:=O3 (by decide) (by omega);have h30:2^h<2^30:=Nat.lt_of_le_of_lt hp (by decide);have h38:2^h<2^38:=Nat.lt_of_le_of_lt hp (by decide);obtain⟨_,_,_,k1,k2,k5,k3,k4⟩:=hm;have Tu:=ai ha;have Ts:=ah ha;have ZA:=ai hb;have Ys:=ah hb;have m1:=ih Tu ZA k1;have m2:=ih Ts Ys k2;have m3:=ih Tu Ys k3;have m4:=ih Ts ZA k4;have m5:=ih aa (tk.len h (by omega)) k5;have a1:=tW (h:=h) (t:=t) _ _ (by rw[aa];exact h30) (by rw[aa,aa]) (Qk.of k1.q.2.2 (by omega)) (Qk.of k5.q.2.2 (by omega));have a2:=tW (h:=h) (t:=t) _ _ (by rw[aa];exact h30) (by rw[aa,aa]) (Qk.of k3.q.2.2 (by omega)) (Qk.of k4.q.2.2 (by omega));have za:=jO (a.drop (2^h)) (by rw[Ts];exact h38);have zb:=jO (b.drop (2^h)) (by rw[Ys];exact h38);have o0:=bc 0 (by decide) (by decide);have fz:=(dT (h:=h) (t:=t) (by omega) (Rat.ofInt 0)).rows;have ez:aU h (Rat.ofInt 0)=zE (2^h):=by
  have:=Nat.two_pow_pos h
  show(0:Rat)::List.replicate (2^h-1) 0=List.replicate (2^h) 0
  rw[←List.replicate_succ];congr 1;omega
 rw[ez]at fz;have V8:(2^h:Nat)≤a.length:=by rw[ha,O4];omega
 have hnb:(2^h:Nat)≤b.length:=by rw[hb,O4];omega
 have cTa:=fF V8;have cDa:=e9 (a:=a) (n:=2^h);have cTb:=fF hnb;have cDb:=e9 (a:=b) (n:=2^h);have m1:=gg (xs:=[tV h t,.one (bg a (2^h)),.one (bg b (2^h))]) m1 ⟨.refl _,.cell cTa,.cell cTb,trivial⟩;have m2:=(gg (xs:=[tV h t,.one (ba a (2^h)),.one (ba b (2^h))]) m2 ⟨.refl _,.cell cDa,.cell cDb,trivial⟩).rows;have m3:=(gg (xs:=[tV h t,.one (bg a (2^h)),.one (ba b (2^h))]) m3 ⟨.refl _,.cell cTa,.cell cDb,trivial⟩).rows;have m4:=(gg (xs:=[tV h t,.one (ba a (2^h)),.one (bg b (2^h))]) m4 ⟨.refl _,.cell cDa,.cell cTb,trivial⟩).rows;have m5:=m5.rows;have a2:=a2.rows;have za:=za.args (xs:=[.one (ba a (2^h))]) ⟨.cell cDa,trivial⟩;have zb:=zb.args (xs:=[.one (ba b (2^h))]) ⟨.cell cDb,trivial⟩;have em:=fun(x:a.drop (2^h)=zE (2^h)) (y:b.drop (2^h)=zE (2^h))=>JH (t:=t) x y;have en:=fun(x:a.drop (2^h)=zE (2^h))=>Lj (t:=t) (b:=b) x;have eo:=fun(y:b.drop (2^h)=zE (2^h))=>Lz (t:=t) (a:=a) y;have ep:aj (h+1) t a b=aC (aj h t (a.take (2^h)) (b.take (2^h))) (aj h t (aj h t (a.drop (2^h)) (b.drop (2^h))) (t.getD h []))++aC (aj h t (a.take (2^h)) (b.drop (2^h))) (aj h t (a.drop (2^h)) (b.take (2^h))):=rfl;have l1:(aj h t (a.take (2^h)) (b.take (2^h))).length=2^h:=aa;have l2:(aj h t (a.drop (2^h)) (b.drop (2^h))).length=2^h:=aa;have l3:(aj h t (a.take (2^h)) (b.drop (2^h))).length=2^h:=aa;have l4:(aj h t (a.drop (2^h)) (b.take (2^h))).length=2^h:=aa;have l5:(aj h t (aj h t (a.drop (2^h)) (b.drop (2^h))) (t.getD h [])).length=2^h:=aa;have lz:(zE (2^h)).length=2^h:=av;rw[Ts]at za;rw[Ys]at zb;clear k1 k2 k3 k4 k5 ih cTa cDa cTb cDb;obtain⟨p,hP⟩:∃p,p=aj (h+1) t a b:=⟨_,rfl⟩;rw[←hP]at em en eo ep⊢;obtain⟨za',YW⟩:∃z,z=decide (a.drop (2^h)=zE (2^h)):=⟨_,rfl⟩;obtain⟨zb',Zz⟩:∃z,z=decide (b.drop (2^h)=zE (2^h)):=⟨_,rfl⟩;rw[←YW]at za;rw[←Zz]at zb;have em:za'=true→zb'=true→p=aj h t (a.take (2^h)) (b.take (2^h))++zE (2^h):=fun x y=>em (of_decide_eq_true (YW▸x)) (of_decide_eq_true (Zz▸y));have en:za'=true→p=aj h t (a.take (2^h)) (b.take (2^h))++aj h t (a.take (2^h)) (b.drop (2^h)):=fun x=>en (of_decide_eq_true (YW▸x));have eo:zb'=true→p=aj h t (a.take (2^h)) (b.take (2^h))++aj h t (a.drop (2^h)) (b.take (2^h)):=fun y=>eo (of_decide_eq_true (Zz▸y));clear YW Zz hP;obtain⟨p1,Vh⟩:∃p,p=aj h t (a.take (2^h)) (b.take (2^h)):=⟨_,rfl⟩;obtain⟨p2,UO⟩:∃p,p=aj h t (a.drop (2^h)) (b.drop (2^h)):=⟨_,rfl⟩;obtain⟨p3,VW⟩:∃p,p=aj h t (a.take (2^h)) (b.drop (2^h)):=⟨_,rfl⟩;obtain⟨p4,YX⟩:∃p,p=aj h t (a.drop (2^h)) (b.take (2^h)):=⟨_,rfl⟩;obtain⟨r,hr⟩:∃r,r=t.getD h []:=⟨_,rfl⟩;rw[←UO,←hr]at m5 l5;rw[←UO,←hr,←Vh]at a1;rw[←UO,←hr,←Vh,←VW,←YX]at ep;rw[←Vh]at m1 em en eo l1;rw[←UO]at m2 l2;rw[←VW]at m3 en l3;rw[←YX]at m4 eo l4;rw[←VW,←YX]at a2;obtain⟨p5,hp5⟩:∃p,p=aj h t p2 r:=⟨_,rfl⟩;rw[←hp5]at m5 a1 ep l5;obtain⟨s1,VE⟩:∃p,p=aC p1 p5:=⟨_,rfl⟩;obtain⟨s2,U4⟩:∃p,p=aC p3 p4:=⟨_,rfl⟩;have ls1:s1.length=2^h:=by rw[VE];exact ar l1 l5
 have ls2:s2.length=2^h:=by rw[U4];exact ar l3 l4
 rw[←VE]at a1 ep;rw[←U4]at a2 ep;obtain⟨n,SY⟩:∃n,n=2^h:=⟨_,rfl⟩;obtain⟨zn,Ut⟩:∃zn,zn=zE (2^h):=⟨_,rfl⟩;rw[←Ut]at fz em lz;have S9:a.length=2*n:=by rw[ha,O4,SY];omega
 have Tr:b.length=2*n:=by rw[hb,O4,SY];omega
 rw[←SY]at hp za zb m1 m2 m3 m4 l1 l2 l3 l4 l5 ls1 ls2 lz;clear h30 h38 Tu Ts ZA Ys V8 hnb Vh UO VW YX hp5 VE U4 ez Ut hX ha hb SY tk;have w1:IntKind.i64.wrap (((h+1:Nat):Int)-1)=(h:Int):=by rw[Q4 _ (by omega)];omega
 have w2:IntKind.i64.wrap (((a.length:Nat):Int).tdiv 2)=(n:Int):=by
  rw[S9,Int.tdiv_eq_ediv_of_nonneg (by omega),Q4 _ (by omega)];omega
 have w4:((a.length:Int)-(n:Int)).toNat=a.length-n:=by omega
 have w5:((b.length:Int)-(n:Int)).toNat=b.length-n:=by omega
 refine fw func54 ⟨[0,1,2,6,7,8,9,10,11,12,15,57,63,74],[(4,.nil)]⟩ ?_;simp only[Tryz.f54,ntmps54,iz,seval];simp only[vx,T,seval,tV,tC,eV,ag,bg,ba,QV,QC,w1,w2,w4,w5,←hr];refine⟨fun h=>absurd h (by omega),fun _=>Lg ?_⟩;simp only[vx,T,seval,tV,tC,eV,ag,bg,ba,QV,QC,w1,w2,w4,w5,←hr];refine⟨⟨by omega,by omega⟩,⟨by omega,by omega⟩,⟨by omega,by omega,by omega⟩,Cg za ?_⟩;simp only[vx,T,seval,tV,tC,eV,ag,bg,ba,QV,QC,w1,w2,w4,w5,←hr];refine⟨⟨by omega,by omega,by omega⟩,Cg zb ?_⟩;simp only[vx,T,seval,tV,tC,eV,ag,bg,ba,QV,QC,w1,w2,w4,w5,←hr];refine⟨⟨by omega,by omega⟩,⟨by omega,by omega⟩,cN.fresh m1 ?_⟩
 cases za' with
 |true=>
  cases zb' with
  |true=>
   rw[em rfl rfl];simp only[vx,T,seval,tV,tC,eV,ag,bg,ba,QV,QC,w1,w2,w4,w5,←hr];refine Cg o0 ?_;simp only[vx,T,seval,tV,tC,eV,ag,bg,ba,QV,QC,w1,w2,w4,w5,←hr];refine Cg fz ?_;simp only[vx,T,seval,tV,tC,eV,ag,bg,ba,QV,QC,w1,w2,w4,w5,←hr];exact⟨⟨by omega,by omega⟩,List.length_append.symm,rfl,List.length_append.symm,fun i j _ _=>lK p1 zn i j⟩
  |false=>
   rw[en rfl];simp only[vx,T,seval,tV,tC,eV,ag,bg,ba,QV,QC,w1,w2,w4,w5,←hr];refine⟨⟨by omega,by omega⟩,⟨by omega,by omega,by omega⟩,Cg m3 ?_⟩;simp only[vx,T,seval,tV,tC,eV,ag,bg,ba,QV,QC,w1,w2,w4,w5,←hr];exact⟨⟨by omega,by omega⟩,List.length_append.symm,rfl,List.length_append.symm,fun i j _ _=>lK p1 p3 i j⟩
 |false=>
  cases zb' with
  |true=>
   rw[eo rfl];simp only[vx,T,seval,tV,tC,eV,ag,bg,ba,QV,QC,w1,w2,w4,w5,←hr];refine⟨⟨by omega,by omega,by omega⟩,⟨by omega,by omega⟩,Cg m4 ?_⟩;simp only[vx,T,seval,tV,tC,eV,ag,bg,ba,QV,QC,w1,w2,w4,w5,←hr];exact⟨⟨by omega,by omega⟩,List.length_append.symm,rfl,List.length_append.symm,fun i j _ _=>lK p1 p4 i j⟩
  |false=>
   rw[ep];simp only[vx,T,seval,tV,tC,eV,ag,bg,ba,QV,QC,w1,w2,w4,w5,←hr];refine⟨⟨by omega,by omega,by omega⟩,⟨by omega,by omega,by omega⟩,Cg m2 ?_⟩;simp only[vx,T,seval,tV,tC,eV,ag,bg,ba,QV,QC,w1,w2,w4,w5,←hr];refine Cg m5 ?_;simp only[vx,T,seval,tV,tC,eV,ag,bg,ba,QV,QC,w1,w2,w4,w5,←hr];refine cN.fresh a1 ?_;simp only[vx,T,seval,tV,tC,eV,ag,bg,ba,QV,QC,w1,w2,w4,w5,←hr];refine⟨⟨by omega,by omega⟩,⟨by omega,by omega,by omega⟩,Cg m3 ?_⟩;simp only[vx,T,seval,tV,tC,eV,ag,bg,ba,QV,QC,w1,w2,w4,w5,←hr];refine⟨⟨by omega,by omega,by omega⟩,⟨by omega,by omega⟩,Cg m4 ?_⟩;simp only[vx,T,seval,tV,tC,eV,ag,bg,ba,QV,QC,w1,w2,w4,w5,←hr];refine Cg a2 ?_;simp only[vx,T,seval,tV,tC,eV,ag,bg,ba,QV,QC,w1,w2,w4,w5,←hr];exact⟨⟨by omega,by omega⟩,List.length_append.symm,rfl,List.length_append.symm,fun i j _ _=>lK s1 s2 i j⟩
theorem gi {t:List El}{X:Nat}(hX:X<2^37):∀{h:Nat} {a b:El},Tk h t→a.length=2^h→b.length=2^h→cM X h t a b→
  Fr prog 54 [tV h t,eV a,eV b] (.rows 66 4 (aj h t a b).length (fQ (aj h t a b)))
 |0,a,b,_,ha,hb,hm=>PA ha hb (.of hm.1 (by omega)) (.of hm.2.1 (by omega))
 |h+1,a,b,tk,ha,hb,hm=>Pq hX (fun la lb gs=>gi hX (tk.le (Nat.le_succ h)) la lb gs) tk ha hb hm
open Go Go.Eng
open Go.Tw (El aC aH zE aj av au ar aa QB cM ai ah aO aJ tB aU aA cF mn yS val Rd)
theorem B7 {h X:Nat}{t:List El}(W:TQ (h+1) t)(a:El)(ha:a.length=2^(h+1))(hX:X<2^37)(hN:yS X h t a):Pr prog 158 [tV (h+1) t,eV a] (eV (aO h t a)):=by
 have W':=W.le (Nat.le_succ h);have h3:=W.h6;have Tu:=ai ha;have Ts:=ah ha;have hp:2^h≤64:=O3 (n:=2) (by decide) (show h≤6 by omega);have hr:=W.tk.len h (by omega);obtain⟨k1,k2,k3⟩:=hN;have m1:=gi hX W'.tk Tu Tu k1;have m2:=gi hX W'.tk Ts Ts k2;have m3:=(gi hX W'.tk aa hr k3).rows;have sb:=(IU (h:=h) (t:=t) _ _ (by rw[aa];omega) (by rw[aa,aa]) (Qk.of k1.q.2.2 (by omega)) (Qk.of k3.q.2.2 (by omega))).rows;have hn:(2^h:Nat)≤a.length:=by rw[ha,O4];omega
 have cT:=fF hn;have cD:=e9 (a:=a) (n:=2^h);have m1:=(gg (xs:=[tV h t,.one (bg a (2^h)),.one (bg a (2^h))]) m1 ⟨.refl _,.cell cT,.cell cT,trivial⟩).rows;have m2:=(gg (xs:=[tV h t,.one (ba a (2^h)),.one (ba a (2^h))]) m2 ⟨.refl _,.cell cD,.cell cD,trivial⟩).rows;have em:aO h t a=aC (aj h t (a.take (2^h)) (a.take (2^h))) (aH (aj h t (aj h t (a.drop (2^h)) (a.drop (2^h))) (t.getD h []))):=rfl;rw[←em]at sb;clear em;obtain⟨e,he⟩:∃e,e=aO h t a:=⟨_,rfl⟩;rw[←he]at sb⊢;obtain⟨n,SY⟩:∃n,n=2^h:=⟨_,rfl⟩;obtain⟨p1,Vh⟩:∃p,p=aj h t (a.take (2^h)) (a.take (2^h)):=⟨_,rfl⟩;obtain⟨p2,UO⟩:∃p,p=aj h t (a.drop (2^h)) (a.drop (2^h)):=⟨_,rfl⟩;obtain⟨r,SQ⟩:∃r,r=t.getD h []:=⟨_,rfl⟩;rw[←Vh]at m1 sb;rw[←UO]at m2 m3 sb;rw[←SQ]at m3 sb;obtain⟨p3,VW⟩:∃p,p=aj h t p2 r:=⟨_,rfl⟩;rw[←VW]at m3 sb;have S9:a.length=2*n:=by rw[ha,O4,SY];omega
 have w1:IntKind.i64.wrap (((h+1:Nat):Int)-1)=(h:Int):=by rw[Q4 _ (by omega)];omega
 have w2:IntKind.i64.wrap (((a.length:Nat):Int).tdiv 2)=(n:Int):=by
  rw[S9,Int.tdiv_eq_ediv_of_nonneg (by omega),Q4 _ (by omega)];omega
 have w4:((a.length:Int)-(n:Int)).toNat=a.length-n:=by omega
 rw[←SY]at m1 m2;refine pw func158 ⟨[0,1,4,5,6,7],[(2,.nil)]⟩ ?_;simp only[Tryz.f158,ntmps158,iz,seval];simp only[vx,T,seval,tV,tC,eV,ag,bg,ba,QV,QC,w1,w2,w4,←SQ];refine⟨⟨by omega,by omega⟩,⟨by omega,by omega⟩,⟨by omega,by omega⟩,⟨by omega,by omega⟩,Cg m1 ?_⟩;simp only[vx,T,seval,tV,tC,eV,ag,bg,ba,QV,QC,w1,w2,w4,←SQ];refine⟨⟨by omega,by omega,by omega⟩,⟨by omega,by omega,by omega⟩,Cg m2 ?_⟩;simp only[vx,T,seval,tV,tC,eV,ag,bg,ba,QV,QC,w1,w2,w4,←SQ];refine Cg m3 ?_;simp only[vx,T,seval,tV,tC,eV,ag,bg,ba,QV,QC,w1,w2,w4,←SQ];refine Cg sb ?_;simp only[vx,T,seval,tV,tC,eV,ag,bg,ba,QV,QC,w1,w2,w4,←SQ];exact Ve rfl
def Ld (h:Nat)(t:List El)(a:El)(f:FuncId):Prop:=
 (∀n,cF h t a=some n→dK prog f [tV h t,eV a] (.rows 66 4 n.length (fQ n)) (.int .i64 0))∧
 (cF h t a=none→Pr prog f [tV h t,eV a] (.aB [.one .nil,.one (.int .i64 6)]))
theorem Pb {X:Nat}{t:List El}(hX:X<2^37){a:El}(ha:a.length=2^0)(hq:QB X a):Ld 0 t a 109:=by
 obtain⟨x,rfl⟩:=Go.Tw.bw ha;have hx:qm x≤X:=hq x (by simp);have e:cF 0 t [x]=if x=0 then none else some [x⁻¹]:=rfl
 have hz:=@BD x;unfold Ld;rw[e]
 by_cases h0:x=0
 ·rw[if_pos h0];have hl:(zm x.num).length=0:=by rw[aX];exact dY.2 (by rw[h0];rfl)
  refine⟨fun n h=>(by cases h),fun _=>?_⟩;refine pw func109 ⟨[0,1,4,5,6,7,8,9,10,11,14,21,38,48,64],[]⟩ ?_;simp only[Tryz.f109,ntmps109,iz,seval];simp only[vx,T,seval,tV,tC,eV,ag,qC,X0,hl];exact Ve rfl
 rw[if_neg h0];have hl:¬((zm x.num).length:Int)=0:=by have:=hz.2 h0;omega
 refine⟨fun n h=>?_,fun h=>(by cases h)⟩;obtain rfl:=Option.some.inj h;have d:=B9 x (by omega) h0;refine tw func109 ⟨[0,1,4,5,6,7,8,9,10,11,14,21,38,48,64],[]⟩ ?_;simp only[Tryz.f109,ntmps109,iz,seval];simp only[vx,T,seval,tV,tC,eV,ag,qC,X0];refine⟨fun h=>absurd h hl,fun _=>Lg ?_⟩;simp only[vx,T,seval,tV,tC,eV,ag,qC,X0];refine Cg d ?_;simp only[vx,T,seval,QV,QC];refine⟨rfl,rfl,fun i j hi hj=>?_⟩;obtain rfl:i=0:=by omega
 show List.getD _ (0*4+j) _=_;rw[Nat.zero_mul,Nat.zero_add];exact dD x⁻¹ rfl j
theorem OA {X h:Nat}{t:List El}{a n:El}(hX:X<2^37)(W:TQ (h+1) t)(ha:a.length=2^(h+1))(hv:a.drop (2^h)=zE (2^h))(ln:n.length=2^h)
  (c:dK prog 109 [tV h t,eV (a.take (2^h))] (.rows 66 4 n.length (fQ n)) (.int .i64 0)):
  dK prog 109 [tV (h+1) t,eV a] (.rows 66 4 (n++zE (2^h)).length (fQ (n++zE (2^h)))) (.int .i64 0):=by
 have h3:=W.h6;have hp:2^h≤64:=O3 (n:=2) (by decide) (show h≤6 by omega);have lz:(zE (2^h)).length=2^h:=av;have V8:(2^h:Nat)≤a.length:=by rw[ha,O4];omega
 have cT:=fF V8;have cD:=e9 (a:=a) (n:=2^h);have z:=jO (a.drop (2^h)) (by rw[ah ha];omega);rw[decide_eq_true (by rw[ah ha];exact hv)]at z;have z:=z.args (xs:=[.one (ba a (2^h))]) ⟨.cell cD,trivial⟩;have c:=c.args (xs:=[tV h t,.one (bg a (2^h))]) ⟨.refl _,.cell cT,trivial⟩;have o0:=bc 0 (by decide) (by decide);have fz:=(dT (h:=h) (t:=t) (by omega) (Rat.ofInt 0)).rows;have ez:aU h (Rat.ofInt 0)=zE (2^h):=by
  have:=Nat.two_pow_pos h
  show(0:Rat)::List.replicate (2^h-1) 0=List.replicate (2^h) 0
  rw[←List.replicate_succ];congr 1;omega
 rw[ez]at fz;obtain⟨zn,Ut⟩:∃zn,zn=zE (2^h):=⟨_,rfl⟩;rw[←Ut]at fz lz⊢;obtain⟨n',SY⟩:∃n,n=2^h:=⟨_,rfl⟩;have S9:a.length=2*n':=by rw[ha,O4,SY];omega
 have w1:IntKind.i64.wrap (((h+1:Nat):Int)-1)=(h:Int):=by rw[Q4 _ (by omega)];omega
 have hp8:n'≤64:=by omega
 have w2:IntKind.i64.wrap (((a.length:Nat):Int).tdiv 2)=(n':Int):=by
  rw[S9,Int.tdiv_eq_ediv_of_nonneg (by omega),Q4 _ (by omega)];omega
 have w4:((a.length:Int)-(n':Int)).toNat=a.length-n':=by omega
 rw[←SY]at z c hp ln lz;clear hv Ut ez cT cD V8 ha;refine tw func109 ⟨[0,1,4,5,6,7,8,9,10,11,14,21,38,48,64],[]⟩ ?_;simp only[Tryz.f109,ntmps109,iz,seval];simp only[vx,T,seval,tV,tC,eV,ag,bg,ba,QV,QC,w1,w2,w4];refine⟨fun h=>absurd h (by omega),fun _=>Lg ?_⟩;simp only[vx,T,seval,tV,tC,eV,ag,bg,ba,QV,QC,w1,w2,w4];refine⟨⟨by omega,by omega⟩,⟨by omega,by omega,by omega⟩,Cg z ?_⟩;simp only[vx,T,seval,tV,tC,eV,ag,bg,ba,QV,QC,w1,w2,w4];refine⟨⟨by omega,by omega⟩,cN.Bn c ?_⟩;simp only[vx,T,seval,tV,tC,eV,ag,bg,ba,QV,QC,w1,w2,w4];refine Cg o0 ?_;simp only[vx,T,seval,tV,tC,eV,ag,bg,ba,QV,QC,w1,w2,w4];refine Cg fz ?_;simp only[vx,T,seval,tV,tC,eV,ag,bg,ba,QV,QC,w1,w2,w4];exact⟨⟨by omega,by omega⟩,List.length_append.symm,rfl,List.length_append.symm,fun i j _ _=>lK n zn i j⟩
theorem LX {X h:Nat}{t:List El}{a:El}(hX:X<2^37)(W:TQ (h+1) t)(ha:a.length=2^(h+1))(hv:a.drop (2^h)=zE (2^h))
  (c:Pr prog 109 [tV h t,eV (a.take (2^h))] (.aB [.one .nil,.one (.int .i64 6)])):
  Pr prog 109 [tV (h+1) t,eV a] (.aB [.one .nil,.one (.int .i64 6)]):=by
 have h3:=W.h6;have hp:2^h≤64:=O3 (n:=2) (by decide) (show h≤6 by omega);have V8:(2^h:Nat)≤a.length:=by rw[ha,O4];omega
 have cT:=fF V8;have cD:=e9 (a:=a) (n:=2^h);have z:=jO (a.drop (2^h)) (by rw[ah ha];omega);rw[decide_eq_true (by rw[ah ha];exact hv)]at z;have z:=z.args (xs:=[.one (ba a (2^h))]) ⟨.cell cD,trivial⟩;have c:=c.args (xs:=[tV h t,.one (bg a (2^h))]) ⟨.refl _,.cell cT,trivial⟩;obtain⟨n',SY⟩:∃n,n=2^h:=⟨_,rfl⟩;have S9:a.length=2*n':=by rw[ha,O4,SY];omega
 have w1:IntKind.i64.wrap (((h+1:Nat):Int)-1)=(h:Int):=by rw[Q4 _ (by omega)];omega
 have hp8:n'≤64:=by omega
 have w2:IntKind.i64.wrap (((a.length:Nat):Int).tdiv 2)=(n':Int):=by
  rw[S9,Int.tdiv_eq_ediv_of_nonneg (by omega),Q4 _ (by omega)];omega
 have w4:((a.length:Int)-(n':Int)).toNat=a.length-n':=by omega
 rw[←SY]at z c hp;clear hv cT cD V8 ha;refine pw func109 ⟨[0,1,4,5,6,7,8,9,10,11,14,21,38,48,64],[]⟩ ?_;simp only[Tryz.f109,ntmps109,iz,seval];simp only[vx,T,seval,tV,tC,eV,ag,bg,ba,QV,QC,w1,w2,w4];refine⟨fun h=>absurd h (by omega),fun _=>Lg ?_⟩;simp only[vx,T,seval,tV,tC,eV,ag,bg,ba,QV,QC,w1,w2,w4];refine⟨⟨by omega,by omega⟩,⟨by omega,by omega,by omega⟩,Cg z ?_⟩;simp only[vx,T,seval,tV,tC,eV,ag,bg,ba,QV,QC,w1,w2,w4];refine⟨⟨by omega,by omega⟩,Cg c ?_⟩;simp only[vx,T,seval,tV,tC,eV,ag,bg,ba,QV,QC,w1,w2,w4];exact Ve rfl
theorem NF {X h:Nat}{t:List El}{a n:El}(hX:X<2^37)(W:TQ (h+1) t)(ha:a.length=2^(h+1))(hq:QB X a)(hN:yS X h t a)(qn:cM X h t (a.take (2^h)) n∧cM X h t (a.drop (2^h)) n)(hv:a.drop (2^h)≠zE (2^h))(ln:n.length=2^h)
  (c:dK prog 109 [tV h t,eV (aO h t a)] (.rows 66 4 n.length (fQ n)) (.int .i64 0)):
  dK prog 109 [tV (h+1) t,eV a] (.rows 66 4 (aj h t (a.take (2^h)) n++aH (aj h t (a.drop (2^h)) n)).length (fQ (aj h t (a.take (2^h)) n++aH (aj h t (a.drop (2^h)) n)))) (.int .i64 0):=by
 have h3:=W.h6;have W':=W.le (Nat.le_succ h);have hp:2^h≤64:=O3 (n:=2) (by decide) (show h≤6 by omega);have V8:(2^h:Nat)≤a.length:=by rw[ha,O4];omega
 have cT:=fF V8;have cD:=e9 (a:=a) (n:=2^h);have z:=jO (a.drop (2^h)) (by rw[ah ha];omega);rw[decide_eq_false (by rw[ah ha];exact hv)]at z;have z:=z.args (xs:=[.one (ba a (2^h))]) ⟨.cell cD,trivial⟩;have cn:=B7 W a ha hX hN;have m1:=gg (xs:=[tV h t,.one (bg a (2^h)),eV n]) (gi hX W'.tk (ai ha) ln qn.1) ⟨.refl _,.cell cT,.refl _,trivial⟩;have ng:=(gg (xs:=[tV h t,.one (ba a (2^h))]) (z5 (h:=h) (t:=t) (a.drop (2^h)) (by rw[ah ha];omega) (.of (hq.drop _) (by omega))) ⟨.refl _,.cell cD,trivial⟩).rows;have lneg:(aH (a.drop (2^h))).length=2^h:=by rw[au,ah ha]
 have m2:=(gi hX W'.tk lneg ln (qn.2.neg (ah ha))).rows;rw[Go.Tw.pH (ah ha)]at m2;have l1:(aj h t (a.take (2^h)) n).length=2^h:=aa;have l2:(aH (aj h t (a.drop (2^h)) n)).length=2^h:=by rw[au,aa]
 obtain⟨e,he⟩:∃e,e=aO h t a:=⟨_,rfl⟩;obtain⟨s1,VE⟩:∃s,s=aj h t (a.take (2^h)) n:=⟨_,rfl⟩;obtain⟨s2,U4⟩:∃s,s=aH (aj h t (a.drop (2^h)) n):=⟨_,rfl⟩;obtain⟨y,hy⟩:∃y,y=aH (a.drop (2^h)):=⟨_,rfl⟩;rw[←he]at c cn;rw[←VE]at m1 l1⊢;rw[←hy]at ng m2 lneg;rw[←U4]at m2 l2⊢;obtain⟨n',SY⟩:∃n,n=2^h:=⟨_,rfl⟩;have S9:a.length=2*n':=by rw[ha,O4,SY];omega
 have w1:IntKind.i64.wrap (((h+1:Nat):Int)-1)=(h:Int):=by rw[Q4 _ (by omega)];omega
 have hp8:n'≤64:=by omega
 have w2:IntKind.i64.wrap (((a.length:Nat):Int).tdiv 2)=(n':Int):=by
  rw[S9,Int.tdiv_eq_ediv_of_nonneg (by omega),Q4 _ (by omega)];omega
 have w4:((a.length:Int)-(n':Int)).toNat=a.length-n':=by omega
 rw[←SY]at z m1 ng hp ln l1 l2 lneg;clear hv cT cD V8 ha he VE U4 hy hq hN qn W';refine tw func109 ⟨[0,1,4,5,6,7,8,9,10,11,14,21,38,48,64],[]⟩ ?_;simp only[Tryz.f109,ntmps109,iz,seval];simp only[vx,T,seval,tV,tC,eV,ag,bg,ba,QV,QC,w1,w2,w4];refine⟨fun h=>absurd h (by omega),fun _=>Lg ?_⟩;simp only[vx,T,seval,tV,tC,eV,ag,bg,ba,QV,QC,w1,w2,w4];refine⟨⟨by omega,by omega⟩,⟨by omega,by omega,by omega⟩,Cg z ?_⟩;simp only[vx,T,seval,tV,tC,eV,ag,bg,ba,QV,QC,w1,w2,w4];refine Cg cn ?_;simp only[vx,T,seval,tV,tC,eV,ag,bg,ba,QV,QC,w1,w2,w4];refine cN.Bn c ?_;simp only[vx,T,seval,tV,tC,eV,ag,bg,ba,QV,QC,w1,w2,w4];refine⟨⟨by omega,by omega⟩,cN.fresh m1 ?_⟩;simp only[vx,T,seval,tV,tC,eV,ag,bg,ba,QV,QC,w1,w2,w4];refine⟨⟨by omega,by omega,by omega⟩,Cg ng ?_⟩;simp only[vx,T,seval,tV,tC,eV,ag,bg,ba,QV,QC,w1,w2,w4];refine Cg m2 ?_;simp only[vx,T,seval,tV,tC,eV,ag,bg,ba,QV,QC,w1,w2,w4];exact⟨⟨by omega,by omega⟩,List.length_append.symm,rfl,List.length_append.symm,fun i j _ _=>lK s1 s2 i j⟩
theorem JB {X h:Nat}{t:List El}{a:El}(hX:X<2^37)(W:TQ (h+1) t)(ha:a.length=2^(h+1))(hN:yS X h t a)(hv:a.drop (2^h)≠zE (2^h))
  (c:Pr prog 109 [tV h t,eV (aO h t a)] (.aB [.one .nil,.one (.int .i64 6)])):
  Pr prog 109 [tV (h+1) t,eV a] (.aB [.one .nil,.one (.int .i64 6)]):=by
 have h3:=W.h6;have hp:2^h≤64:=O3 (n:=2) (by decide) (show h≤6 by omega);have V8:(2^h:Nat)≤a.length:=by rw[ha,O4];omega
 have cT:=fF V8;have cD:=e9 (a:=a) (n:=2^h);have z:=jO (a.drop (2^h)) (by rw[ah ha];omega);rw[decide_eq_false (by rw[ah ha];exact hv)]at z;have z:=z.args (xs:=[.one (ba a (2^h))]) ⟨.cell cD,trivial⟩;have cn:=B7 W a ha hX hN;obtain⟨e,he⟩:∃e,e=aO h t a:=⟨_,rfl⟩;rw[←he]at c cn;obtain⟨n',SY⟩:∃n,n=2^h:=⟨_,rfl⟩;have S9:a.length=2*n':=by rw[ha,O4,SY];omega
 have w1:IntKind.i64.wrap (((h+1:Nat):Int)-1)=(h:Int):=by rw[Q4 _ (by omega)];omega
 have hp8:n'≤64:=by omega
 have w2:IntKind.i64.wrap (((a.length:Nat):Int).tdiv 2)=(n':Int):=by
  rw[S9,Int.tdiv_eq_ediv_of_nonneg (by omega),Q4 _ (by omega)];omega
 have w4:((a.length:Int)-(n':Int)).toNat=a.length-n':=by omega
 rw[←SY]at z hp;clear hv cT cD V8 ha he hN;refine pw func109 ⟨[0,1,4,5,6,7,8,9,10,11,14,21,38,48,64],[]⟩ ?_;simp only[Tryz.f109,ntmps109,iz,seval];simp only[vx,T,seval,tV,tC,eV,ag,bg,ba,QV,QC,w1,w2,w4];refine⟨fun h=>absurd h (by omega),fun _=>Lg ?_⟩;simp only[vx,T,seval,tV,tC,eV,ag,bg,ba,QV,QC,w1,w2,w4];refine⟨⟨by omega,by omega⟩,⟨by omega,by omega,by omega⟩,Cg z ?_⟩;simp only[vx,T,seval,tV,tC,eV,ag,bg,ba,QV,QC,w1,w2,w4];refine Cg cn ?_;simp only[vx,T,seval,tV,tC,eV,ag,bg,ba,QV,QC,w1,w2,w4];refine Cg c ?_;simp only[vx,T,seval,tV,tC,eV,ag,bg,ba,QV,QC,w1,w2,w4];exact Ve rfl
theorem vO {X:Nat}(hX:X<2^37){t:List El}:∀{h:Nat} {a:El},TQ h t→Rd h t→a.length=2^h→mn X h t a→Ld h t a 109
 |0,a,_,_,ha,hi=>Pb hX ha hi
 |h+1,a,W,D,ha,hi=>by
  have W':=W.le (Nat.le_succ h);have D':=D.le (Nat.le_succ h);have Vm:=hi.qb;obtain⟨_,hN,i2,i3,_,i5⟩:=hi;have ev:cF (h+1) t a=(cF h t (aO h t a)).map fun n=>aj h t (a.take (2^h)) n++aH (aj h t (a.drop (2^h)) n):=rfl
  by_cases hv:a.drop (2^h)=zE (2^h)
  ·have ih:=vO hX W' D' (ai ha) i2;have vl:=Go.Tw.sW (t:=t) hv;refine⟨fun n hn=>?_,fun hn=>?_⟩
   ·obtain⟨ln,en⟩:=Go.Tw.dz D.rl ha hn;rw[vl]at en;have h0:val h t (a.take (2^h))≠R.q 0:=fun e=>by rw[e,R.zero_mul]at en;exact R.iD en.symm
    obtain⟨m,hm,lm,em⟩:=Go.Tw.jR D' (ai ha) h0;have Xp:n=m++zE (2^h):=by
     refine Go.Tw.val_inj D ln (by rw[X6,lm,av,O4];omega) ?_;rw[Go.Tw.kD lm];refine R.jw (z:=val h t (a.take (2^h))) ?_ h0;rw[R.mul_comm,en,R.mul_comm,em]
    rw[Xp];exact OA hX W ha hv lm (ih.1 m hm)
   have e0:=Go.Tw.og D ha hn;rw[vl]at e0;refine LX hX W ha hv (ih.2 ?_)
   cases hk:cF h t (a.take (2^h))with
   |none=>rfl
   |some m=>
    have:=(Go.Tw.dz D'.rl (ai ha) hk).2
    rw[e0,R.zero_mul]at this;exact absurd this.symm R.iD
  have ih:=vO hX W' D' aJ i3;unfold Ld;rw[ev]
  cases hn:cF h t (aO h t a)with
  |none=>exact⟨fun n h=>(by cases h),fun _=>JB hX W ha hN hv (ih.2 hn)⟩
  |some n=>
   refine⟨fun n' hh=>?_,fun hh=>(by cases hh)⟩;obtain rfl:=Option.some.inj hh;exact NF hX W ha Vm hN (i5 n hn) hv (Go.Proofs.YtehahgjkjfoebaaGreat.jx hn) (ih.1 n hn)
open Go Go.Eng
open Go.Tw (El aC aH zE aj av au ar aa QB cM ai ah aO aJ tB aU aA bp iF dF td)
theorem JM {t:List El}{a:El}(ha:a.length=2^0)(hq:Qk a):Pr prog 159 [tV 0 t,eV a] (.one (.int .i64 (bp 0 t a))):=by
 obtain⟨x,rfl⟩:=Go.Tw.bw ha;have hx:qm x<2^38:=hq x (by simp);have e:bp 0 t [x]=bQ x.num:=td x;have c:=rZ x (by omega);rw[e];refine pw func159 ⟨[0,1,4,5,6,7,8,9,12,46,49],[(4,.nil)]⟩ ?_;simp only[Tryz.f159,ntmps159,iz,seval];simp only[vx,T,seval,tV,tC,eV,ag,qC,X0];refine Cg c ?_;simp only[vx,T,seval,ag];exact Ve rfl
theorem qO {X:Nat}(hX:X<2^37){t:List El}:∀{h:Nat} {a:El},TQ h t→a.length=2^h→iF X h t a→Pr prog 159 [tV h t,eV a] (.one (.int .i64 (bp h t a)))
 |0,a,_,ha,hi=>JM ha (.of hi.qb (by omega))
 |h+1,a,W,ha,hi=>by
  have W':=W.le (Nat.le_succ h);obtain⟨Vm,hN,i1,i2,i3⟩:=hi;have v1:=qO hX W' (ai ha) i1;have v2:=qO hX W' (ah ha) i2;have v3:=qO hX W' aJ i3;have h3:=W.h6;have hp:2^h≤64:=O3 (n:=2) (by decide) (show h≤6 by omega);have cn:=B7 W a ha hX hN;have hn:(2^h:Nat)≤a.length:=by rw[ha,O4];omega
  have cT:=fF hn;have cD:=e9 (a:=a) (n:=2^h);have v1:=v1.args (xs:=[tV h t,.one (bg a (2^h))]) ⟨.refl _,.cell cT,trivial⟩;have v2:=v2.args (xs:=[tV h t,.one (ba a (2^h))]) ⟨.refl _,.cell cD,trivial⟩;have e:bp (h+1) t a=if bp h t (a.drop (2^h))=0∨bp h t (a.take (2^h))=bp h t (a.drop (2^h))then bp h t (a.take (2^h))else if bp h t (a.take (2^h))=0 then bp h t (a.drop (2^h))else bp h t (a.take (2^h))*bp h t (aO h t a):=rfl
  have r1:=@dF h t (a.take (2^h));have r3:=@dF h t (aO h t a);obtain⟨n,SY⟩:∃n,n=2^h:=⟨_,rfl⟩;have S9:a.length=2*n:=by rw[ha,O4,SY];omega
  obtain⟨m,hm⟩:∃m,m=aO h t a:=⟨_,rfl⟩;obtain⟨s1,VE⟩:∃s,s=bp h t (a.take (2^h)):=⟨_,rfl⟩;obtain⟨s2,U4⟩:∃s,s=bp h t (a.drop (2^h)):=⟨_,rfl⟩;rw[←hm]at v3 e cn r3;obtain⟨s3,YZ⟩:∃s,s=bp h t m:=⟨_,rfl⟩;rw[←VE,←U4,←YZ]at e;rw[←VE]at v1 r1;rw[←U4]at v2;rw[←YZ]at v3 r3;rw[e];rw[←SY]at v1 v2 hp;clear Vm hN i1 i2 i3 VE U4 YZ cT cD W hm hn ha;have w1:IntKind.i64.wrap (((h+1:Nat):Int)-1)=(h:Int):=by rw[Q4 _ (by omega)];omega
  have w2:IntKind.i64.wrap (((a.length:Nat):Int).tdiv 2)=(n:Int):=by
   rw[S9,Int.tdiv_eq_ediv_of_nonneg (by omega),Q4 _ (by omega)];omega
  have w4:((a.length:Int)-(n:Int)).toNat=a.length-n:=by omega
  have w3:IntKind.i64.wrap (s1*s3)=s1*s3:=by
   rw[Q4]
   have:s1= -1∨s1=0∨s1=1:=by omega
   rcases this with h|h|h<;>rw [h]<;>omega
  refine pw func159 ⟨[0,1,4,5,6,7,8,9,12,46,49],[(4,.nil)]⟩ ?_;simp only[Tryz.f159,ntmps159,iz,seval];simp only[vx,T,seval,tV,tC,eV,ag,bg,ba,w1,w2,w3,w4];refine⟨fun h=>absurd h (by omega),fun _=>Lg ?_⟩;simp only[vx,T,seval,tV,tC,eV,ag,bg,ba,w1,w2,w3,w4];refine⟨⟨by omega,by omega⟩,⟨by omega,by omega,by omega⟩,⟨by omega,by omega⟩,Cg v1 ?_⟩;simp only[vx,T,seval,tV,tC,eV,ag,bg,ba,w1,w2,w3,w4];refine⟨⟨by omega,by omega⟩,Cg v2 ?_⟩;simp only[vx,T,seval,tV,tC,eV,ag,bg,ba,w1,w2,w3,w4];refine⟨fun k2=>Lg ?_,fun k2=>Lg ?_⟩
  ·rw[if_pos (.inl k2)];simp only[vx,T,seval,tV,tC,eV,ag,bg,ba,w1,w2,w3,w4];exact Ve rfl
  simp only[vx,T,seval,tV,tC,eV,ag,bg,ba,w1,w2,w3,w4];refine⟨fun k3=>Lg ?_,fun k3=>Lg ?_⟩
  ·rw[if_pos (.inr k3)];simp only[vx,T,seval,tV,tC,eV,ag,bg,ba,w1,w2,w3,w4];exact Ve rfl
  rw[if_neg (not_or.2 ⟨k2,k3⟩)];simp only[vx,T,seval,tV,tC,eV,ag,bg,ba,w1,w2,w3,w4];refine⟨fun k1=>Lg ?_,fun k1=>Lg ?_⟩
  ·rw[if_pos k1];simp only[vx,T,seval,tV,tC,eV,ag,bg,ba,w1,w2,w3,w4];exact Ve rfl
  rw[if_neg k1];simp only[vx,T,seval,tV,tC,eV,ag,bg,ba,w1,w2,w3,w4];refine⟨⟨by omega,by omega⟩,Cg cn ?_⟩;simp only[vx,T,seval,tV,tC,eV,ag,bg,ba,w1,w2,w3,w4];refine Cg v3 ?_;simp only[vx,T,seval,tV,tC,eV,ag,bg,ba,w1,w2,w3,w4];exact Ve rfl
theorem Ou {X h:Nat}(hX:X<2^37){t:List El}{a:El}(W:TQ h t)(ha:a.length=2^h)(hs:iF X h t a):Pr prog 110 [tV h t,eV a] (.one (.int .i64 (bp h t a))):=by
 have c:=qO hX W ha hs;refine pw func110 ⟨[0,1,4],[]⟩ ?_;simp only[Tryz.f110,ntmps110,iz,seval];simp only[vx,T,seval,tV,tC,eV,ag];refine Cg c ?_;simp only[vx,T,seval,ag];exact Ve rfl
theorem OR {X h:Nat}(hX:X<2^37){t:List El}(W:yb X h t):Pr prog 178 [tV h t] (.one (.bool true)):=by
 have h3:=W.tq.h6;have f:=DE W.tq.tk;have v:∀i,i<h→Pr prog 159 [tV i t,eV (t.getD i [])] (.one (.int .i64 1)):=fun i hi=>by
  have c:=qO hX (W.tq.le (show i≤h by omega)) (W.tq.tk.len i hi) (W.s i hi);have p:=W.p i hi;have q:=@dF i t (t.getD i [])
  rwa [show bp i t (t.getD i [])=1 by omega]at c
 refine pw func178 ⟨[0,2,3,6,10,21],[]⟩ ?_;simp only[Tryz.f178,ntmps178,iz,seval];simp only[vx,T,seval,tV,tC,ag];refine Cg f ?_;simp only[vx,T,seval,tV,tC,ag];refine Lk (fun y:{i:Nat//i≤h}=>⟨[(0,tV h t),(2,.one (.bool false)),(3,.one (.int .i64 y.1))],[],2,22⟩) (fun y=>h-y.1) ⟨0,O2 _⟩ ?_ (fun⟨i,hi⟩=>?_)
 ·refine Sa ?_;simp only[ry,seval,rz,tV,tC,ag]
 simp only;have wi:=wI i (by omega);simp only[vx,T,seval,tV,tC,ag];refine⟨fun k=>Lg ?_,fun k=>Lg ?_⟩
 ·have vi:=v i (by omega);obtain⟨r,hr⟩:∃r,r=t.getD i []:=⟨_,rfl⟩;rw[←hr]at vi;simp only[vx,T,seval,tV,tC,ag,←hr];refine⟨⟨by omega,by omega⟩,⟨by omega,by omega⟩,Cg vi ?_⟩;simp only[vx,T,seval,tV,tC,ag,wi];refine Lq ⟨i+1,by omega⟩ ?_ (by show h-(i+1)<h-i;omega);refine Sa ?_;simp only[ry,seval,rz,tV,tC,ag]
 simp only[vx,T,seval,tV,tC,ag];exact Ve rfl
theorem l7 {X h:Nat}(hX:X<2^37){t:List El}{a:El}(W:yb X h t)(ha:a.length=2^h)(hs:iF X h t a):Pr prog 135 [tV h t,eV a] (.one (.int .i64 (bp h t a))):=by
 have v:=qO hX W.tq ha hs;have f:=qj W.tq.tk a ha (.of hs.qb (by omega));have g:=OR hX W;refine pw func135 ⟨[0,1,4,13],[]⟩ ?_;simp only[Tryz.f135,ntmps135,iz,seval];simp only[vx,T,seval,tV,tC,eV,ag];refine Cg f ?_;simp only[vx,T,seval,tV,tC,eV,ag];refine Cg g ?_;simp only[vx,T,seval,tV,tC,eV,ag];refine Cg v ?_;simp only[vx,T,seval,tV,tC,eV,ag];exact Ve rfl
end Go.Proofs.YtehahgjkjfoebaaGreat
