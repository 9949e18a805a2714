/-
  MatrixMul: for every input the law returns true, and each argument reads afterwards as it read before. No condition.
  (Text 5 of 9; made by a program out of smaller texts.)
-/
import Derived.Test.YtehahgjkjfoebaaGreatP4
set_option linter.unusedSimpArgs false
set_option linter.unusedVariables false
set_option maxHeartbeats 16000000
set_option maxRecDepth 10000
open Nat renaming reduceAdd→J1,reduceMul→J2,reduceSub→J3,reduceEqDiff→J4,reduceLT→J5,reduceLeDiff→J6,reduceBEq→J7,reduceDiv→J8,reduceMod→J9,reducePow→J0
open Int renaming reduceToNat→K1,reduceLE→K2,reduceLT→K3,reduceEq→K4,reducePow→K5,reduceSub→K6,reduceNeg→K7,natCast_add→X2,natCast_one→X3,natCast_zero→X4
open List renaming getD_cons_zero→X0,getD_cons_succ→X1,length_take→X5,length_append→X6,getD_eq_getElem?_getD→X7,getElem?_eq_getElem→X8
open Nat renaming le_trans→O0,le_refl→O1,zero_le→O2,pow_le_pow_right→O3,pow_succ→O4,not_lt_zero→O5,mul_comm→O6,mod_eq_of_lt→O7,mul_le_mul_right→O8,mul_le_mul_left→O9
open Int renaming natCast_mul→Q2
open Option.some renaming injEq→Q6
namespace Go.Eng
def qm (q:Rat):Nat:=max (zn q.num) (nl q.den)
theorem yR {n:Int}{d:Nat}(hd:0<d):0<Int.gcd n d:=by
 unfold Int.gcd;exact Nat.gcd_pos_of_pos_right _ (by simpa using hd)
theorem xY {n:Int}{d:Nat}(hd:0<d):n.fdiv (Int.gcd n d)=(mkRat n d).num:=by
 rw[Rat.num_mkRat,if_neg (by omega),Int.fdiv_eq_ediv_of_nonneg _ (by omega)];unfold Int.gcd;rw[Nat.gcd_comm];rfl
theorem yv {n:Int}{d:Nat}(hd:0<d):(d:Int).fdiv (Int.gcd n d)=((mkRat n d).den:Int):=by
 rw[Rat.den_mkRat,if_neg (by omega),Int.fdiv_eq_ediv_of_nonneg _ (by omega)];unfold Int.gcd;rw[Nat.gcd_comm];rfl
theorem fdiv_one (n:Int):n.fdiv 1=n:=by rw[Int.fdiv_eq_ediv_of_nonneg _ (by omega)];exact Int.ediv_one n
theorem Fq (n:Int)(d:Nat):zn (mkRat n d).num≤zn n:=by
 rw[Rat.num_mkRat]
 split
 ·unfold zn;rw[Int.natAbs_zero,jf];omega
 refine sh ?_;exact Int.natAbs_ediv_le_natAbs _ _
theorem EN {n:Int}{d:Nat}(h:0<d):nl (mkRat n d).den≤nl d:=by
 rw[Rat.den_mkRat,if_neg (by omega)];exact bh (Nat.div_le_self _ _)
theorem M4 {n:Int}{d:Nat}(h:0<d):qm (mkRat n d)≤max (zn n) (nl d):=by
 have h1:=Fq n d;have h2:=EN (n:=n) h;unfold qm;omega
theorem aG (n:Nat):zn (n:Int)=nl n:=rfl
theorem Ob (a b:Rat):qm (a+b)≤qm a+qm b+1:=by
 rw[Rat.add_def'];have h:=M4 (n:=a.num*b.den+b.num*a.den) (Nat.mul_pos a.den_pos b.den_pos);have h1:=cZ a.num b.den;have h2:=cZ b.num a.den;have h3:=pa (a.num*b.den) (b.num*a.den);have h4:=jG a.den b.den;rw[aG]at h1 h2;unfold qm at*;omega
theorem add_one {a b:Rat}(ha:a.den=1)(hb:b.den=1):(a+b).num=a.num+b.num∧(a+b).den=1:=by
 rw[Rat.add_def',ha,hb]
 constructor
 ·rw[Rat.num_mkRat];simp
 rw[Rat.den_mkRat];simp
theorem AV {a b:Rat}(ha:a.den=1)(hb:b.den=1):(a*b).num=a.num*b.num∧(a*b).den=1:=by
 rw[Rat.mul_def',ha,hb]
 constructor
 ·rw[Rat.num_mkRat];simp
 rw[Rat.den_mkRat];simp
theorem Ea {a b:Rat}(h:a.den.gcd b.den=1):(a+b).num=a.num*b.den+b.num*a.den∧(a+b).den=a.den*b.den:=by
 show(Rat.add a b).num=_∧(Rat.add a b).den=_
 delta Rat.add
 dsimp only
 rw[dif_pos h];exact⟨rfl,rfl⟩
theorem JN {a b:Rat}{g:Nat}(hg:g=a.den.gcd b.den){num:Int}(hn:num=a.num*((b.den/g:Nat):Int)+b.num*((a.den/g:Nat):Int)){h:Nat}(hh:h=num.natAbs.gcd g):
  num.fdiv h=(a+b).num∧(((a.den/g)*(b.den/h):Nat):Int)=((a+b).den:Int):=by
 have Yl:0<g:=by rw[hg];exact Nat.gcd_pos_of_pos_left _ a.den_pos
 have hga:g∣a.den:=by rw[hg];exact Nat.gcd_dvd_left _ _
 have hgb:g∣b.den:=by rw[hg];exact Nat.gcd_dvd_right _ _
 have hdp:0<a.den/g:=Nat.div_pos (Nat.le_of_dvd a.den_pos hga) Yl;have e1:a+b=mkRat num (a.den/g*b.den):=by
  rw[Rat.add_def',←Rat.mkRat_mul_right (a:=g) (n:=num) (by omega)]
  congr 1
  ·rw[hn,Int.add_mul,Int.mul_assoc,Int.mul_assoc,←Q2,←Q2,Nat.div_mul_cancel hgb,Nat.div_mul_cancel hga]
  rw[Nat.mul_right_comm,Nat.div_mul_cancel hga]
 have e2:num.natAbs.gcd g=num.natAbs.gcd (a.den/g*b.den):=by
  have:=Rat.add.aux a b (g:=g) hg rfl rfl
  simp only[←hn]at this;exact this
 have hp:0<a.den/g*b.den:=Nat.mul_pos hdp b.den_pos;have e3:h=Int.gcd num ((a.den/g*b.den:Nat):Int):=by rw[hh,e2];rfl
 have hhb:h∣b.den:=Nat.dvd_trans (by rw[hh];exact Nat.gcd_dvd_right _ _) hgb;rw[e1]
 constructor
 ·rw[←xY hp,←e3]
 rw[←yv hp,←e3,Int.fdiv_eq_ediv_of_nonneg _ (by omega),←Nat.mul_div_assoc _ hhb,Int.natCast_ediv]
theorem JZ (a b:Rat){g h:Nat}(hg:g=a.num.natAbs.gcd b.den)(hh:h=b.num.natAbs.gcd a.den):
  a.num.fdiv g*b.num.fdiv h=(a*b).num∧(((a.den/h)*(b.den/g):Nat):Int)=((a*b).den:Int):=by
 have hga:(g:Int)∣a.num:=Int.ofNat_dvd_left.2 (by rw[hg];exact Nat.gcd_dvd_left _ _);have hhb:(h:Int)∣b.num:=Int.ofNat_dvd_left.2 (by rw[hh];exact Nat.gcd_dvd_left _ _);rw[Int.fdiv_eq_ediv_of_nonneg _ (by omega),Int.fdiv_eq_ediv_of_nonneg _ (by omega)];have e:a*b=Rat.mul a b:=rfl;rw[e]
 delta Rat.mul
 dsimp only
 simp only[Int.divExact_eq_tdiv,Nat.divExact_eq_div];subst hg hh;refine⟨?_,rfl⟩;rw[Int.tdiv_eq_ediv_of_dvd hga,Int.tdiv_eq_ediv_of_dvd hhb]
end Go.Eng
namespace Go.Proofs.YtehahgjkjfoebaaGreat
open Go.Proofs.Tryz
open Go Go.Eng
def QC (q:Rat):List C:=[.bool (zs q.num),.ints .u32 (zm q.num),.bool (zs (q.den:Int)),.ints .u32 (zm (q.den:Int))]
def QV (q:Rat):V:=.agg (QC q)
theorem Em {z:Int}:z=1↔zs z=false∧zn z=1∧z.natAbs%BB=1:=by
 constructor
 ·rintro rfl;refine⟨rfl,?_,by decide⟩;have h1:zn 1≤1:=aE (by decide);have h2:zn 1≠0:=fun e=>by have:=dY.1 e;omega
  omega
 rintro⟨h1,h2,h3⟩;have h4:=dE.1 h1;have h5:z.natAbs<BB:=by have:=cL.1 (show nl z.natAbs≤1 by unfold zn at h2;omega);simpa using this
 rw[O7 h5]at h3;omega
theorem vb {p q:Bool}(h:p=q):fR (.one (.bool p)) (.one (.bool q)):=Ve (by rw[h])
theorem ED (z:Int):(zm z).getD 0 0=((z.natAbs%BB:Nat):Int):=by
 unfold zm;rw[lG,Nat.pow_zero,Nat.div_one]
def Gf (s:Bool)(xs:List Int)(t:Bool)(ys:List Int):Bool:=
 Bg s xs&&(Bg t ys&&(decide (0<fL t (val ys))&&decide (((Int.gcd (fL s (val xs)) (fL t (val ys)):Nat):Int)=1)))
theorem M0 (q:Rat):Gf (zs q.num) (zm q.num) (zs (q.den:Int)) (zm (q.den:Int))=true:=by
 unfold Gf;rw[lH,cB,lH,cB,Ng,Ng];have h1:=q.den_pos;have h2:Int.gcd q.num (q.den:Int)=1:=q.reduced;rw[h2]
 simp;omega
theorem jo (z:Int)(hz:zn z<2^60):Pr prog 231 [ZV z] (.one (.bool (decide (z=1)))):=by
 have VC:=Em (z:=z);refine pw func231 ⟨[0,1,2],[]⟩ ?_;simp only[Tryz.f231,ntmps231,iz,seval];simp only[vx,T,seval,ZV];refine⟨fun h1=>Lg ?_,fun h1=>Lg ?_⟩
 ·have h1:zs z=false:=by simpa using h1
  simp only[vx,T,seval];refine⟨fun h2=>Lg ?_,fun h2=>Lg ?_⟩
  ·rw[aX]at h2;simp only[vx,T,seval,aX,ED];refine⟨by omega,vb (decide_eq_decide.2 ?_)⟩;rw[VC];refine⟨fun h=>⟨h1,by omega,by omega⟩,fun h=>by omega⟩
  rw[aX]at h2;simp only[vx,T,seval];refine vb (decide_eq_false ?_).symm;rw[VC];omega
 simp only[vx,T,seval];refine vb (decide_eq_false ?_).symm;rw[VC];rintro⟨h2,_⟩;rw[h2]at h1;cases h1
theorem gK (z:Int)(hz:zn z<2^60):Pr prog 148 [ZV z] (.one (.bool (decide (z=1)))):=by
 have VC:=Em (z:=z);refine pw func148 ⟨[0,1,2],[]⟩ ?_;simp only[Tryz.f148,ntmps148,iz,seval];simp only[vx,T,seval,ZV];refine⟨fun h1=>Lg ?_,fun h1=>Lg ?_⟩
 ·rw[aX]at h1;simp only[vx,T,seval,aX,ED];refine⟨by omega,?_⟩;refine⟨fun h2=>Lg ?_,fun h2=>Lg ?_⟩
  ·simp only[vx,T,seval];refine vb ?_
   cases TO:zs z
   ·refine(decide_eq_true ?_).symm
    rw[VC];exact⟨TO,by omega,by omega⟩
   refine(decide_eq_false ?_).symm
   rw[VC,TO];rintro⟨h,_⟩
   cases h
  simp only[vx,T,seval];refine vb (decide_eq_false ?_).symm;rw[VC];omega
 rw[aX]at h1;simp only[vx,T,seval];refine vb (decide_eq_false ?_).symm;rw[VC];omega
theorem x5 (s t:Bool)(xs ys:List Int)(hx:bO xs)(hy:bO ys)(Wb:xs.length<2^40)(hyl:ys.length<2^40):Pr prog 211 [.agg [.bool s,.ints .u32 xs,.bool t,.ints .u32 ys]] (.one (.bool (Gf s xs t ys))):=by
 refine pw func211 ⟨[0,1,2],[]⟩ ?_;simp only[Tryz.f211,ntmps211,iz,seval];simp only[vx,T,seval];refine Cg (r7 s xs hx (by omega)) ?_;simp only[vx,T,seval];refine⟨fun h1=>Lg ?_,fun h1=>Lg ?_⟩
 ·simp only[vx,T,seval];refine Cg (r7 t ys hy (by omega)) ?_;simp only[vx,T,seval];refine⟨fun h2=>Lg ?_,fun h2=>Lg ?_⟩
  ·obtain⟨z,rfl,rfl⟩:=xF h1;obtain⟨d,rfl,rfl⟩:=xF h2;rw[aX]at Wb hyl;have Tc:Gf (zs z) (zm z) (zs d) (zm d)=(decide (0<d)&&decide (((Int.gcd z d:Nat):Int)=1)):=by
    unfold Gf;rw[h1,h2,lH,cB,lH,cB];rfl
   rw[Tc];simp only[vx,T,seval];refine Cg (fZ d (by omega)) ?_;simp only[vx,T,seval]
   have hs:(0<bQ d)↔0<d:=by unfold bQ;(repeat' split)<;>omega
   refine⟨fun h3=>Lg ?_,fun h3=>Lg ?_⟩
   ·rw[hs]at h3;simp only[vx,T,seval];refine Cg (rP z d (by omega) (by omega)) ?_;have Zw:zn (Int.gcd z d)≤zn d:=sh (by
     have:=Nat.gcd_le_right z.natAbs (show 0<d.natAbs by omega)
     exact this)
    simp only[vx,T,seval,ZV];refine Cg (jo (Int.gcd z d) (by omega)) ?_;simp only[vx,T,seval];refine vb ?_;rw[decide_eq_true h3];rfl
   rw[hs]at h3;simp only[vx,T,seval];refine vb ?_;rw[decide_eq_false h3];rfl
  simp only[vx,T,seval];refine vb ?_;unfold Gf;rw[h1,h2];rfl
 simp only[vx,T,seval];refine vb ?_;unfold Gf;rw[h1];rfl
theorem ym (s t:Bool)(xs ys:List Int)(hx:bO xs)(hy:bO ys)(Wb:xs.length<2^40)(hyl:ys.length<2^40):Pr prog 177 [.agg [.bool s,.ints .u32 xs,.bool t,.ints .u32 ys]] (.one (.bool (Gf s xs t ys))):=by
 refine pw func177 ⟨[0,1,2],[]⟩ ?_;simp only[Tryz.f177,ntmps177,iz,seval];simp only[vx,T,seval];refine Cg (rU s xs hx (by omega)) ?_;simp only[vx,T,seval];refine⟨fun h1=>Lg ?_,fun h1=>Lg ?_⟩
 ·simp only[vx,T,seval];refine Cg (rU t ys hy (by omega)) ?_;simp only[vx,T,seval];refine⟨fun h2=>Lg ?_,fun h2=>Lg ?_⟩
  ·obtain⟨z,rfl,rfl⟩:=xF h1;obtain⟨d,rfl,rfl⟩:=xF h2;rw[aX]at Wb hyl;have Tc:Gf (zs z) (zm z) (zs d) (zm d)=(decide (0<d)&&decide (((Int.gcd z d:Nat):Int)=1)):=by
    unfold Gf;rw[h1,h2,lH,cB,lH,cB];rfl
   rw[Tc];simp only[vx,T,seval];refine Cg (gL d (by omega)) ?_;simp only[vx,T,seval]
   have hs:(0<bQ d)↔0<d:=by unfold bQ;(repeat' split)<;>omega
   refine⟨fun h3=>Lg ?_,fun h3=>Lg ?_⟩
   ·rw[hs]at h3;simp only[vx,T,seval];refine Cg (eH z d (by omega) (by omega)) ?_;have Zw:zn (Int.gcd z d)≤zn d:=sh (by
     have:=Nat.gcd_le_right z.natAbs (show 0<d.natAbs by omega)
     exact this)
    simp only[vx,T,seval,ZV];refine Cg (gK (Int.gcd z d) (by omega)) ?_;simp only[vx,T,seval];refine vb ?_;rw[decide_eq_true h3];rfl
   rw[hs]at h3;simp only[vx,T,seval];refine vb ?_;rw[decide_eq_false h3];rfl
  simp only[vx,T,seval];refine vb ?_;unfold Gf;rw[h1,h2];rfl
 simp only[vx,T,seval];refine vb ?_;unfold Gf;rw[h1];rfl
theorem pj:Pr prog 171 [] (ZV 1):=by
 refine pw func171 ⟨[0],[]⟩ ?_;simp only[Tryz.f171,ntmps171,iz,seval];simp only[vx,T,seval,ZV];refine Cg (gO 1 (by omega) (by omega)) ?_;simp only[vx,T,seval,ZV];refine Va ?_;simp only[cY,a5,ry,seval,ZV]
theorem nH (a b:Int)(ha:zn a<2^40)(hb:zn b<2^40)(h0:b≠0):Pr prog 252 [ZV a,ZV b] (ZV (a.fdiv b)):=by
 refine pw func252 ⟨[0,1,2,3,4,5,9],[]⟩ ?_;simp only[Tryz.f252,ntmps252,iz,seval];simp only[vx,T,seval,ZV];refine Cg (jo b (by omega)) ?_;simp only[vx,T,seval,ZV];refine⟨fun h1=>Lg ?_,fun h1=>Lg ?_⟩
 ·subst h1;simp only[vx,T,seval,ZV];rw[fdiv_one];refine Va ?_;simp only[cY,a5,ry,seval,ZV]
 simp only[vx,T,seval,ZV];refine Cg (yq a b (by omega) (by omega) h0) ?_;simp only[vx,T,seval,ZV];refine Va ?_;simp only[cY,a5,ry,seval,ZV]
theorem bG (a b:Int)(ha:zn a<2^40)(hb:zn b<2^40)(h0:b≠0):Pr prog 104 [ZV a,ZV b] (ZV (a.fdiv b)):=by
 refine pw func104 ⟨[0,1,2,3,4,5],[]⟩ ?_;simp only[Tryz.f104,ntmps104,iz,seval];simp only[vx,T,seval,ZV];refine Cg (yY a b (by omega) (by omega) h0) ?_;simp only[vx,T,seval,ZV];refine Va ?_;simp only[cY,a5,ry,seval,ZV]
theorem fA (n:Int)(d:Nat)(hn:zn n<2^40)(hd:nl d<2^40)(h0:0<d):Pr prog 238 [ZV n,ZV (d:Int)] (QV (mkRat n d)):=by
 have hg:(0:Int)<(Int.gcd n d:Nat):=by have:=yR (n:=n) h0;omega
 have Zw:zn (Int.gcd n d)≤nl d:=sh (b:=(d:Int)) (by
  have:=Nat.gcd_le_right n.natAbs (show 0<(d:Int).natAbs by omega)
  exact this)
 have XU:zs (d:Int)=false:=dE.2 (by omega);refine pw func238 ⟨[0,1,2,3,4,5,10],[]⟩ ?_;simp only[Tryz.f238,ntmps238,iz,seval];simp only[vx,T,seval,ZV];refine Cg (rP n d (by omega) (by rw[aG];omega)) ?_;simp only[vx,T,seval,ZV];refine⟨fun h=>(by rw[XU]at h;cases h),fun _=>Lg ?_⟩;simp only[vx,T,seval,ZV];refine Cg (nH n (Int.gcd n d) (by omega) (by omega) (by omega)) ?_;rw[xY h0];simp only[vx,T,seval,ZV];refine Cg (nH d (Int.gcd n d) (by rw[aG];omega) (by omega) (by omega)) ?_;rw[yv h0];simp only[vx,T,seval,ZV];refine Va ?_;simp only[cY,a5,ry,seval,QV,QC]
theorem cP (z:Int)(h1: -9223372036854775808≤z)(h2:z≤9223372036854775807):Pr prog 121 [.one (.int .i64 z)] (QV (Rat.ofInt z)):=by
 refine pw func121 ⟨[0,2],[]⟩ ?_;simp only[Tryz.f121,ntmps121,iz,seval];simp only[vx,T,seval,QV,QC];refine Cg (gO z h1 h2) ?_;simp only[vx,T,seval,ZV];refine Cg pj ?_;simp only[vx,T,seval,ZV];refine Va ?_;simp only[cY,a5,ry,seval,Rat.ofInt_num,Rat.ofInt_den,X3]
theorem bc (z:Int)(h1: -9223372036854775808≤z)(h2:z≤9223372036854775807):Pr prog 52 [.one (.int .i64 z)] (QV (Rat.ofInt z)):=by
 refine pw func52 ⟨[0,2],[]⟩ ?_;simp only[Tryz.f52,ntmps52,iz,seval];simp only[vx,T,seval,QV,QC];refine Cg (fP z h1 h2) ?_;simp only[vx,T,seval,ZV];refine Cg (fP 1 (by omega) (by omega)) ?_;simp only[vx,T,seval,ZV];refine Va ?_;simp only[cY,a5,ry,seval,Rat.ofInt_num,Rat.ofInt_den,X3]
theorem ki (q:Rat)(hq:qm q<2^40):Pr prog 162 [QV q] (.one (.int .i64 (bQ q.num))):=by
 unfold qm at hq;refine pw func162 ⟨[0,1,2],[]⟩ ?_;simp only[Tryz.f162,ntmps162,iz,seval];simp only[vx,T,seval,QV,QC];refine Cg (fZ q.num (by omega)) ?_;simp only[vx,T,seval,ZV];exact Ve rfl
theorem rZ (q:Rat)(hq:qm q<2^40):Pr prog 161 [QV q] (.one (.int .i64 (bQ q.num))):=by
 unfold qm at hq;refine pw func161 ⟨[0,1,2],[]⟩ ?_;simp only[Tryz.f161,ntmps161,iz,seval];simp only[vx,T,seval,QV,QC];refine Cg (gL q.num (by omega)) ?_;simp only[vx,T,seval,ZV];exact Ve rfl
open Go Go.Eng
theorem IE {n:Int}{d:Int}{q:Rat}(h1:q.num=n)(h2:(q.den:Int)=d):QC q=[.bool (zs n),.ints .u32 (zm n),.bool (zs d),.ints .u32 (zm d)]:=by
 unfold QC;rw[h1,h2]
theorem fO (a g:Nat):(a:Int).fdiv (g:Int)=((a/g:Nat):Int):=by
 rw[Int.fdiv_eq_ediv_of_nonneg _ (by omega)];rfl
theorem pI (n:Int)(g:Nat):zn (n.fdiv g)≤zn n:=by
 rw[Int.fdiv_eq_ediv_of_nonneg _ (by omega)];exact sh (Int.natAbs_ediv_le_natAbs _ _)
theorem tf {z:Int}(h:((zm z).length:Int)=0):z=0:=dY.1 (by rw[aX]at h;omega)
theorem Hy:Rat.ofInt 0=0:=rfl
theorem Da (a b:Rat)(ha:qm a<2^38)(hb:qm b<2^38):Pr prog 234 [QV a,QV b] (QV (a*b)):=by
 have m1:=cZ a.num b.num;have m2:=jG a.den b.den;have m3:=cZ a.num b.den;have m4:=cZ b.num a.den;have m5:=pa (a.num*b.den) (b.num*a.den);have n1:=aG a.den;have n2:=aG b.den;have p1:=a.den_pos;have p2:=b.den_pos;have p3:=Nat.mul_pos p1 p2;unfold qm at ha hb;refine pw func234 ⟨[0,1,2,3,4,12],[]⟩ ?_;simp only[Tryz.f234,ntmps234,iz,seval];simp only[vx,T,seval,QV,QC];refine Cg (jo a.den (by omega)) ?_;simp only[vx,T,seval,ZV];refine⟨fun h1=>Lg ?_,fun h1=>Lg ?_⟩
 ·simp only[vx,T,seval,ZV];refine Cg (jo b.den (by omega)) ?_;simp only[vx,T,seval,ZV];refine⟨fun h2=>Lg ?_,fun h2=>Lg ?_⟩
  ·obtain⟨k1,k2⟩:=AV (a:=a) (b:=b) (by omega) (by omega);simp only[vx,T,seval,ZV];refine Cg (bT a.num b.num (by omega) (by omega)) ?_;simp only[vx,T,seval,ZV];refine Cg pj ?_;simp only[vx,T,seval,ZV];rw[k1,k2];refine Va ?_;simp only[cY,a5,ry,seval,X3]
  simp only[vx,T,seval,ZV];refine Cg (bT a.num b.num (by omega) (by omega)) ?_;simp only[vx,T,seval,ZV];refine Cg (bT a.den b.den (by omega) (by omega)) ?_;rw[←Q2];simp only[vx,T,seval,ZV];refine Cg (fA (a.num*b.num) (a.den*b.den) (by omega) (by omega) p3) ?_;rw[←Rat.mul_def'];simp only[vx,T,seval,QV,QC];refine Va ?_;simp only[cY,a5,ry,seval]
 simp only[vx,T,seval,ZV];refine Cg (bT a.num b.num (by omega) (by omega)) ?_;simp only[vx,T,seval,ZV];refine Cg (bT a.den b.den (by omega) (by omega)) ?_;rw[←Q2];simp only[vx,T,seval,ZV];refine Cg (fA (a.num*b.num) (a.den*b.den) (by omega) (by omega) p3) ?_;rw[←Rat.mul_def'];simp only[vx,T,seval,QV,QC];refine Va ?_;simp only[cY,a5,ry,seval]
theorem CZ (a b:Rat)(ha:qm a<2^38)(hb:qm b<2^38):Pr prog 217 [QV a,QV b] (QV (a+b)):=by
 have m1:=cZ a.num b.num;have m2:=jG a.den b.den;have m3:=cZ a.num b.den;have m4:=cZ b.num a.den;have m5:=pa (a.num*b.den) (b.num*a.den);have n1:=aG a.den;have n2:=aG b.den;have p1:=a.den_pos;have p2:=b.den_pos;have p3:=Nat.mul_pos p1 p2;unfold qm at ha hb;refine pw func217 ⟨[0,1,2,3,4,5,13],[]⟩ ?_;simp only[Tryz.f217,ntmps217,iz,seval];simp only[vx,T,seval,QV,QC];refine Cg (jo a.den (by omega)) ?_;simp only[vx,T,seval,ZV];refine⟨fun h1=>Lg ?_,fun h1=>Lg ?_⟩
 ·simp only[vx,T,seval,ZV];refine Cg (jo b.den (by omega)) ?_;simp only[vx,T,seval,ZV];refine⟨fun h2=>Lg ?_,fun h2=>Lg ?_⟩
  ·obtain⟨k1,k2⟩:=add_one (a:=a) (b:=b) (by omega) (by omega);simp only[vx,T,seval,ZV];refine Cg (qZ a.num b.num (by omega) (by omega)) ?_;simp only[vx,T,seval,ZV];refine Cg pj ?_;simp only[vx,T,seval,ZV];rw[k1,k2];refine Va ?_;simp only[cY,a5,ry,seval,X3]
  simp only[vx,T,seval,ZV];refine Cg (bT a.num b.den (by omega) (by omega)) ?_;simp only[vx,T,seval,ZV];refine Cg (bT b.num a.den (by omega) (by omega)) ?_;simp only[vx,T,seval,ZV];refine Cg (qZ (a.num*b.den) (b.num*a.den) (by omega) (by omega)) ?_;simp only[vx,T,seval,ZV];refine Cg (bT a.den b.den (by omega) (by omega)) ?_;rw[←Q2];simp only[vx,T,seval,ZV];refine Cg (fA (a.num*b.den+b.num*a.den) (a.den*b.den) (by omega) (by omega) p3) ?_;rw[←Rat.add_def'];simp only[vx,T,seval,QV,QC];refine Va ?_;simp only[cY,a5,ry,seval]
 simp only[vx,T,seval,ZV];refine Cg (bT a.num b.den (by omega) (by omega)) ?_;simp only[vx,T,seval,ZV];refine Cg (bT b.num a.den (by omega) (by omega)) ?_;simp only[vx,T,seval,ZV];refine Cg (qZ (a.num*b.den) (b.num*a.den) (by omega) (by omega)) ?_;simp only[vx,T,seval,ZV];refine Cg (bT a.den b.den (by omega) (by omega)) ?_;rw[←Q2];simp only[vx,T,seval,ZV];refine Cg (fA (a.num*b.den+b.num*a.den) (a.den*b.den) (by omega) (by omega) p3) ?_;rw[←Rat.add_def'];simp only[vx,T,seval,QV,QC];refine Va ?_;simp only[cY,a5,ry,seval]
theorem BM (a b:Rat)(ha:qm a<2^38)(hb:qm b<2^38):Pr prog 97 [QV a,QV b] (QV (a*b)):=by
 have m1:=cZ a.num b.num;have m2:=jG a.den b.den;have m3:=cZ a.num b.den;have m4:=cZ b.num a.den;have m5:=pa (a.num*b.den) (b.num*a.den);have n1:=aG a.den;have n2:=aG b.den;have p1:=a.den_pos;have p2:=b.den_pos;have p3:=Nat.mul_pos p1 p2;unfold qm at ha hb;obtain⟨g,hg⟩:∃g,g=a.num.natAbs.gcd b.den:=⟨_,rfl⟩;obtain⟨h,hh⟩:∃h,h=b.num.natAbs.gcd a.den:=⟨_,rfl⟩;have eg:Int.gcd a.num b.den=g:=by rw[hg];rfl
 have eh:Int.gcd b.num a.den=h:=by rw[hh];rfl
 have g0:0<g:=by rw[hg];exact Nat.gcd_pos_of_pos_right _ p2
 have h0:0<h:=by rw[hh];exact Nat.gcd_pos_of_pos_right _ p1
 have gl:nl g≤nl b.den:=by rw[hg];exact bh (Nat.gcd_le_right _ p2)
 have hl:nl h≤nl a.den:=by rw[hh];exact bh (Nat.gcd_le_right _ p1)
 have dl:nl (a.den/h)≤nl a.den:=bh (Nat.div_le_self _ _);have dl2:nl (b.den/g)≤nl b.den:=bh (Nat.div_le_self _ _);obtain⟨k1,k2⟩:=JZ a b hg hh;refine pw func97 ⟨[0,1,2,3,4,5,6,18,27],[]⟩ ?_;simp only[Tryz.f97,ntmps97,iz,seval];simp only[vx,T,seval,QV,QC];refine⟨fun h1=>Lg ?_,fun h1=>Lg ?_⟩
 ·have ez:a*b=0:=by rw[Rat.num_eq_zero.1 (tf h1),Rat.zero_mul]
  simp only[vx,T,seval,ZV];refine Cg (bc 0 (by omega) (by omega)) ?_;rw[ez,←Hy];simp only[vx,T,seval,QV,QC];refine Va ?_;simp only[cY,a5,ry,seval]
 simp only[vx,T,seval,ZV];refine⟨fun h2=>Lg ?_,fun h2=>Lg ?_⟩
 ·have ez:a*b=0:=by rw[Rat.num_eq_zero.1 (tf h2),Rat.mul_zero]
  simp only[vx,T,seval,ZV];refine Cg (bc 0 (by omega) (by omega)) ?_;rw[ez,←Hy];simp only[vx,T,seval,QV,QC];refine Va ?_;simp only[cY,a5,ry,seval]
 simp only[vx,T,seval,ZV];refine Cg (gK a.den (by omega)) ?_;simp only[vx,T,seval,ZV];refine⟨fun h3=>Lg ?_,fun h3=>Lg ?_⟩
 ·simp only[vx,T,seval,ZV];refine Cg (gK b.den (by omega)) ?_;simp only[vx,T,seval,ZV];refine⟨fun h4=>Lg ?_,fun h4=>Lg ?_⟩
  ·obtain⟨k1,k2⟩:=AV (a:=a) (b:=b) (by omega) (by omega);simp only[vx,T,seval,ZV];refine Cg (bq a.num b.num (by omega) (by omega)) ?_;simp only[vx,T,seval,ZV];rw[k1,k2,h3];refine Va ?_;simp only[cY,a5,ry,seval,X3]
  simp only[vx,T,seval,ZV];have Yh:zn (a.num.fdiv g)≤zn a.num:=pI _ _;have XL:zn (b.num.fdiv h)≤zn b.num:=pI _ _;refine Cg (eH a.num b.den (by omega) (by omega)) ?_;rw[eg];simp only[vx,T,seval,ZV];refine Cg (eH b.num a.den (by omega) (by omega)) ?_;rw[eh];simp only[vx,T,seval,ZV];refine Cg (bG a.num g (by omega) (by rw[aG];omega) (by omega)) ?_;simp only[vx,T,seval,ZV];refine Cg (bG b.num h (by omega) (by rw[aG];omega) (by omega)) ?_;simp only[vx,T,seval,ZV];refine Cg (bq (a.num.fdiv g) (b.num.fdiv h) (by omega) (by omega)) ?_;rw[k1];simp only[vx,T,seval,ZV];refine Cg (bG a.den h (by omega) (by rw[aG];omega) (by omega)) ?_;rw[fO];simp only[vx,T,seval,ZV];refine Cg (bG b.den g (by omega) (by rw[aG];omega) (by omega)) ?_;rw[fO];simp only[vx,T,seval,ZV];refine Cg (bq ((a.den/h:Nat):Int) ((b.den/g:Nat):Int) (by rw[aG];omega) (by rw[aG];omega)) ?_;rw[←Q2,k2];simp only[vx,T,seval,ZV];refine Va ?_;simp only[cY,a5,ry,seval]
 simp only[vx,T,seval,ZV];have Yh:zn (a.num.fdiv g)≤zn a.num:=pI _ _;have XL:zn (b.num.fdiv h)≤zn b.num:=pI _ _;refine Cg (eH a.num b.den (by omega) (by omega)) ?_;rw[eg];simp only[vx,T,seval,ZV];refine Cg (eH b.num a.den (by omega) (by omega)) ?_;rw[eh];simp only[vx,T,seval,ZV];refine Cg (bG a.num g (by omega) (by rw[aG];omega) (by omega)) ?_;simp only[vx,T,seval,ZV];refine Cg (bG b.num h (by omega) (by rw[aG];omega) (by omega)) ?_;simp only[vx,T,seval,ZV];refine Cg (bq (a.num.fdiv g) (b.num.fdiv h) (by omega) (by omega)) ?_;rw[k1];simp only[vx,T,seval,ZV];refine Cg (bG a.den h (by omega) (by rw[aG];omega) (by omega)) ?_;rw[fO];simp only[vx,T,seval,ZV];refine Cg (bG b.den g (by omega) (by rw[aG];omega) (by omega)) ?_;rw[fO];simp only[vx,T,seval,ZV];refine Cg (bq ((a.den/h:Nat):Int) ((b.den/g:Nat):Int) (by rw[aG];omega) (by rw[aG];omega)) ?_;rw[←Q2,k2];simp only[vx,T,seval,ZV];refine Va ?_;simp only[cY,a5,ry,seval]
theorem Dk (a b:Rat)(ha:qm a<2^38)(hb:qm b<2^38):Pr prog 150 [QV a,QV b] (QV (a+b)):=by
 have m1:=cZ a.num b.num;have m2:=jG a.den b.den;have m3:=cZ a.num b.den;have m4:=cZ b.num a.den;have m5:=pa (a.num*b.den) (b.num*a.den);have n1:=aG a.den;have n2:=aG b.den;have p1:=a.den_pos;have p2:=b.den_pos;have p3:=Nat.mul_pos p1 p2;unfold qm at ha hb;obtain⟨g,hg⟩:∃g,g=a.den.gcd b.den:=⟨_,rfl⟩;have eg:Int.gcd (a.den:Int) b.den=g:=by rw[hg];rfl
 have g0:0<g:=by rw[hg];exact Nat.gcd_pos_of_pos_right _ p2
 have gl:nl g≤nl b.den:=by rw[hg];exact bh (Nat.gcd_le_right _ p2)
 obtain⟨num,hn⟩:∃num,num=a.num*((b.den/g:Nat):Int)+b.num*((a.den/g:Nat):Int):=⟨_,rfl⟩;obtain⟨h,hh⟩:∃h,h=num.natAbs.gcd g:=⟨_,rfl⟩;have eh:Int.gcd num g=h:=by rw[hh];rfl
 have h0:0<h:=by rw[hh];exact Nat.gcd_pos_of_pos_right _ g0
 have hl:nl h≤nl g:=by rw[hh];exact bh (Nat.gcd_le_right _ g0)
 have dl:nl (a.den/g)≤nl a.den:=bh (Nat.div_le_self _ _);have dl2:nl (b.den/g)≤nl b.den:=bh (Nat.div_le_self _ _);have dl3:nl (b.den/h)≤nl b.den:=bh (Nat.div_le_self _ _);have w1:=cZ a.num ((b.den/g:Nat):Int);have w2:=cZ b.num ((a.den/g:Nat):Int);have w3:=pa (a.num*((b.den/g:Nat):Int)) (b.num*((a.den/g:Nat):Int));rw[aG]at w1 w2;rw[←hn]at w3;have w4:zn (num.fdiv h)≤zn num:=pI _ _;obtain⟨k1,k2⟩:=JN hg hn hh;refine pw func150 ⟨[0,1,2,3,4,5,6,7,8,9,10,15,21,30,45],[]⟩ ?_;simp only[Tryz.f150,ntmps150,iz,seval];simp only[vx,T,seval,QV,QC];refine⟨fun h1=>Lg ?_,fun h1=>Lg ?_⟩
 ·have ez:a+b=b:=by rw[Rat.num_eq_zero.1 (tf h1),Rat.zero_add]
  simp only[vx,T,seval,ZV];rw[ez];refine Va ?_;simp only[cY,a5,ry,seval]
 simp only[vx,T,seval,ZV];refine⟨fun h2=>Lg ?_,fun h2=>Lg ?_⟩
 ·have ez:a+b=a:=by rw[Rat.num_eq_zero.1 (tf h2),Rat.add_zero]
  simp only[vx,T,seval,ZV];rw[ez];refine Va ?_;simp only[cY,a5,ry,seval]
 simp only[vx,T,seval,ZV];refine Cg (gK a.den (by omega)) ?_;simp only[vx,T,seval,ZV];refine⟨fun h3=>Lg ?_,fun h3=>Lg ?_⟩
 ·simp only[vx,T,seval,ZV];refine Cg (gK b.den (by omega)) ?_;simp only[vx,T,seval,ZV];refine⟨fun h4=>Lg ?_,fun h4=>Lg ?_⟩
  ·obtain⟨k1,k2⟩:=add_one (a:=a) (b:=b) (by omega) (by omega);simp only[vx,T,seval,ZV];refine Cg (gC a.num b.num (by omega) (by omega)) ?_;simp only[vx,T,seval,ZV];rw[k1,k2,h3];refine Va ?_;simp only[cY,a5,ry,seval,X3]
  simp only[vx,T,seval,ZV];refine Cg (eH a.den b.den (by omega) (by omega)) ?_;rw[eg];simp only[vx,T,seval,ZV];refine Cg (gK g (by rw[aG];omega)) ?_;simp only[vx,T,seval,ZV];refine⟨fun h5=>Lg ?_,fun h5=>Lg ?_⟩
  ·obtain⟨k3,k4⟩:=Ea (a:=a) (b:=b) (by rw[←hg];omega);simp only[vx,T,seval,ZV];refine Cg (bq a.num b.den (by omega) (by omega)) ?_;simp only[vx,T,seval,ZV];refine Cg (bq b.num a.den (by omega) (by omega)) ?_;simp only[vx,T,seval,ZV];refine Cg (gC (a.num*b.den) (b.num*a.den) (by omega) (by omega)) ?_;simp only[vx,T,seval,ZV];refine Cg (bq a.den b.den (by omega) (by omega)) ?_;simp only[vx,T,seval,ZV];rw[k3,k4,Q2];refine Va ?_;simp only[cY,a5,ry,seval]
  simp only[vx,T,seval,ZV];refine Cg (bG a.den g (by omega) (by rw[aG];omega) (by omega)) ?_;rw[fO];simp only[vx,T,seval,ZV];refine Cg (bG b.den g (by omega) (by rw[aG];omega) (by omega)) ?_;rw[fO];simp only[vx,T,seval,ZV];refine Cg (bq a.num ((b.den/g:Nat):Int) (by omega) (by rw[aG];omega)) ?_;simp only[vx,T,seval,ZV];refine Cg (bq b.num ((a.den/g:Nat):Int) (by omega) (by rw[aG];omega)) ?_;simp only[vx,T,seval,ZV];refine Cg (gC _ _ (Nat.lt_of_le_of_lt w1 (by omega)) (Nat.lt_of_le_of_lt w2 (by omega))) ?_;rw[←hn];simp only[vx,T,seval,ZV];refine Cg (eH num g (by omega) (by rw[aG];omega)) ?_;rw[eh];simp only[vx,T,seval,ZV];refine Cg (bG num h (by omega) (by rw[aG];omega) (by omega)) ?_;rw[k1];simp only[vx,T,seval,ZV];refine Cg (bG b.den h (by omega) (by rw[aG];omega) (by omega)) ?_;rw[fO];simp only[vx,T,seval,ZV];refine Cg (bq ((a.den/g:Nat):Int) ((b.den/h:Nat):Int) (by rw[aG];omega) (by rw[aG];omega)) ?_;rw[←Q2,k2];simp only[vx,T,seval,ZV];refine Va ?_;simp only[cY,a5,ry,seval]
 simp only[vx,T,seval,ZV];refine Cg (eH a.den b.den (by omega) (by omega)) ?_;rw[eg];simp only[vx,T,seval,ZV];refine Cg (gK g (by rw[aG];omega)) ?_;simp only[vx,T,seval,ZV];refine⟨fun h5=>Lg ?_,fun h5=>Lg ?_⟩
 ·obtain⟨k3,k4⟩:=Ea (a:=a) (b:=b) (by rw[←hg];omega);simp only[vx,T,seval,ZV];refine Cg (bq a.num b.den (by omega) (by omega)) ?_;simp only[vx,T,seval,ZV];refine Cg (bq b.num a.den (by omega) (by omega)) ?_;simp only[vx,T,seval,ZV];refine Cg (gC (a.num*b.den) (b.num*a.den) (by omega) (by omega)) ?_;simp only[vx,T,seval,ZV];refine Cg (bq a.den b.den (by omega) (by omega)) ?_;simp only[vx,T,seval,ZV];rw[k3,k4,Q2];refine Va ?_;simp only[cY,a5,ry,seval]
 simp only[vx,T,seval,ZV];refine Cg (bG a.den g (by omega) (by rw[aG];omega) (by omega)) ?_;rw[fO];simp only[vx,T,seval,ZV];refine Cg (bG b.den g (by omega) (by rw[aG];omega) (by omega)) ?_;rw[fO];simp only[vx,T,seval,ZV];refine Cg (bq a.num ((b.den/g:Nat):Int) (by omega) (by rw[aG];omega)) ?_;simp only[vx,T,seval,ZV];refine Cg (bq b.num ((a.den/g:Nat):Int) (by omega) (by rw[aG];omega)) ?_;simp only[vx,T,seval,ZV];refine Cg (gC _ _ (Nat.lt_of_le_of_lt w1 (by omega)) (Nat.lt_of_le_of_lt w2 (by omega))) ?_;rw[←hn];simp only[vx,T,seval,ZV];refine Cg (eH num g (by omega) (by rw[aG];omega)) ?_;rw[eh];simp only[vx,T,seval,ZV];refine Cg (bG num h (by omega) (by rw[aG];omega) (by omega)) ?_;rw[k1];simp only[vx,T,seval,ZV];refine Cg (bG b.den h (by omega) (by rw[aG];omega) (by omega)) ?_;rw[fO];simp only[vx,T,seval,ZV];refine Cg (bq ((a.den/g:Nat):Int) ((b.den/h:Nat):Int) (by rw[aG];omega) (by rw[aG];omega)) ?_;rw[←Q2,k2];simp only[vx,T,seval,ZV];refine Va ?_;simp only[cY,a5,ry,seval]
open Go Go.Eng
def qC (q:Rat):Nat→C
 |0=>.bool (zs q.num)
 |1=>.ints .u32 (zm q.num)
 |2=>.bool (zs (q.den:Int))
 |3=>.ints .u32 (zm (q.den:Int))
 |_=>.any
def ag (l:List Rat):C:=.rows 4 l.length (fun i=>qC (l.getD i default))
def tC (h:Nat)(t:List (List Rat)):C:=.rows 1 h (fun i _=>ag (t.getD i []))
def tV (h:Nat)(t:List (List Rat)):V:=.one (tC h t)
def eV (a:List Rat):V:=.one (ag a)
end Go.Proofs.YtehahgjkjfoebaaGreat
namespace Go.Re
def Nr (x e:Rat):Prop:= -e<x∧x<e
theorem Nr.mono {x e f:Rat}(h:Nr x e)(hf:e≤f):Nr x f:=by unfold Nr at*;grind
theorem Nr.add {x y e f:Rat}(h:Nr x e)(k:Nr y f):Nr (x+y) (e+f):=by unfold Nr at*;grind
theorem Nr.neg {x e:Rat}(h:Nr x e):Nr (-x) e:=by unfold Nr at*;grind
theorem Nr.sub {x y e f:Rat}(h:Nr x e)(k:Nr y f):Nr (x-y) (e+f):=by unfold Nr at*;grind
theorem Nr.symm {x y e:Rat}(h:Nr (x-y) e):Nr (y-x) e:=by unfold Nr at*;grind
theorem Nr.mul {x y e f:Rat}(h:Nr x e)(k:Nr y f):Nr (x*y) (e*f):=by
 unfold Nr at*
 have a:=Rat.mul_pos (a:=e-x) (b:=f-y) (by grind) (by grind);have b:=Rat.mul_pos (a:=e+x) (b:=f+y) (by grind) (by grind);have c:=Rat.mul_pos (a:=e-x) (b:=f+y) (by grind) (by grind);have d:=Rat.mul_pos (a:=e+x) (b:=f-y) (by grind) (by grind)
 constructor<;>grind
theorem bR {e:Rat}(h:0<e):0<e/2:=by grind
theorem div_pos {a b:Rat}(h:0<a)(k:0<b):0<a/b:=by
 rw[Rat.div_def];exact Rat.mul_pos h (Rat.inv_pos.2 k)
theorem div_mul {a b:Rat}(k:0<b):a/b*b=a:=by
 have:b≠0:=by grind
 grind
structure Sq where
 s:Nat→Rat
 h:∀e,0<e→∃N,∀m n,N≤m→N≤n→Nr (s m-s n) e
def eqv (a b:Sq):Prop:=∀e,0<e→∃N,∀n,N≤n→Nr (a.s n-b.s n) e
theorem eqv.refl (a:Sq):eqv a a:=fun e he=>⟨0,fun n _=>by unfold Nr;grind⟩
theorem eqv.symm {a b:Sq}(h:eqv a b):eqv b a:=fun e he=>by
 obtain⟨N,hN⟩:=h e he;exact⟨N,fun n hn=>(hN n hn).symm⟩
theorem eqv.trans {a b c:Sq}(h:eqv a b)(k:eqv b c):eqv a c:=fun e he=>by
 obtain⟨N,hN⟩:=h (e/2) (bR he);obtain⟨M,hM⟩:=k (e/2) (bR he);refine⟨max N M,fun n hn=>?_⟩;have h1:=hN n (by omega);have h2:=hM n (by omega);unfold Nr at*;grind
instance st:Setoid Sq:=⟨eqv,eqv.refl,eqv.symm,eqv.trans⟩
theorem Sq.sP (a:Sq):∃B,0<B∧∀n,Nr (a.s n) B:=by
 obtain⟨N,hN⟩:=a.h 1 (by decide);have key:∀k,∃B,0<B∧∀n,n<k→Nr (a.s n) B:=by
  intro k
  induction k with
  |zero=>exact⟨1,by decide,fun n h=>absurd h (O5 _)⟩
  |succ k ih=>
   obtain⟨B,h0,hB⟩:=ih
   by_cases hp:0≤a.s k
   ·refine⟨B+a.s k+1,by grind,fun n hn=>?_⟩
    by_cases hk:n=k
    ·subst hk;unfold Nr;grind
    exact(hB n (by omega)).mono (by grind)
   refine⟨B-a.s k+1,by grind,fun n hn=>?_⟩
   by_cases hk:n=k
   ·subst hk;unfold Nr;grind
   exact(hB n (by omega)).mono (by grind)
 obtain⟨B,h0,hB⟩:=key (N+1);refine⟨B+1,by grind,fun n=>?_⟩
 by_cases hn:n<N+1
 ·exact(hB n hn).mono (by grind)
 have h1:=hN n N (by omega) (O1 _);have h2:=hB N (by omega);unfold Nr at*;grind
def Sq.const (q:Rat):Sq:=⟨fun _=>q,fun e he=>⟨0,fun m n _ _=>by unfold Nr;grind⟩⟩
def Sq.add (a b:Sq):Sq:=⟨fun n=>a.s n+b.s n,fun e he=>by
 obtain⟨N,hN⟩:=a.h (e/2) (bR he);obtain⟨M,hM⟩:=b.h (e/2) (bR he);refine⟨max N M,fun m n hm hn=>?_⟩;have h1:=hN m n (by omega) (by omega);have h2:=hM m n (by omega) (by omega);unfold Nr at*;grind⟩
def Sq.neg (a:Sq):Sq:=⟨fun n=> -a.s n,fun e he=>by
 obtain⟨N,hN⟩:=a.h e he;refine⟨N,fun m n hm hn=>?_⟩;have h1:=hN m n hm hn;unfold Nr at*;grind⟩
theorem MI {a b a' b' A B e:Rat}(hA:0<A)(hB:0<B)(he:0<e)(h1:Nr a A)(h2:Nr b' B)(h3:Nr (a-a') (e/2/B))(h4:Nr (b-b') (e/2/A)):Nr (a*b-a'*b') e:=by
 have k1:=h1.mul h4;have k2:=h3.mul h2;rw[div_mul hB]at k2;rw[Rat.mul_comm A,div_mul hA]at k1
 have:=k1.add k2
 unfold Nr at*;grind
def Sq.mul (a b:Sq):Sq:=⟨fun n=>a.s n*b.s n,fun e he=>by
 obtain⟨A,hA,ha⟩:=a.sP;obtain⟨B,hB,hb⟩:=b.sP;obtain⟨N,hN⟩:=a.h (e/2/B) (div_pos (bR he) hB);obtain⟨M,hM⟩:=b.h (e/2/A) (div_pos (bR he) hA);exact⟨max N M,fun m n hm hn=>MI hA hB he (ha m) (hb n) (hN m n (by omega) (by omega)) (hM m n (by omega) (by omega))⟩⟩
theorem MD {a b c d:Sq}(h:eqv a c)(k:eqv b d):eqv (a.add b) (c.add d):=fun e he=>by
 obtain⟨N,hN⟩:=h (e/2) (bR he);obtain⟨M,hM⟩:=k (e/2) (bR he);refine⟨max N M,fun n hn=>?_⟩;have h1:=hN n (by omega);have h2:=hM n (by omega);show Nr (a.s n+b.s n-(c.s n+d.s n)) e;unfold Nr at*;grind
theorem Ls {a c:Sq}(h:eqv a c):eqv a.neg c.neg:=fun e he=>by
 obtain⟨N,hN⟩:=h e he;refine⟨N,fun n hn=>?_⟩;have h1:=hN n (by omega);show Nr (-a.s n- -c.s n) e;unfold Nr at*;grind
theorem JL {a b c d:Sq}(h:eqv a c)(k:eqv b d):eqv (a.mul b) (c.mul d):=fun e he=>by
 obtain⟨A,hA,ha⟩:=a.sP;obtain⟨B,hB,hb⟩:=d.sP;obtain⟨N,hN⟩:=h (e/2/B) (div_pos (bR he) hB);obtain⟨M,hM⟩:=k (e/2/A) (div_pos (bR he) hA);exact⟨max N M,fun n hn=>MI hA hB he (ha n) (hb n) (hN n (by omega)) (hM n (by omega))⟩
def Sq.pos (a:Sq):Prop:=∃e,0<e∧∃N,∀n,N≤n→e<a.s n
theorem Dy {a b:Sq}(h:eqv a b)(k:a.pos):b.pos:=by
 obtain⟨e,he,N,hN⟩:=k;obtain⟨M,hM⟩:=h (e/2) (bR he);refine⟨e/2,bR he,max N M,fun n hn=>?_⟩;have h1:=hN n (by omega);have h2:=hM n (by omega);unfold Nr at h2;grind
end Go.Re
def Go.R:Type:=Quotient Go.Re.st
namespace Go.R
open Go.Re
def mk (a:Sq):R:=Quotient.mk st a
theorem ind {p:R→Prop}(h:∀a,p (mk a))(x:R):p x:=Quotient.ind h x
theorem sound {a b:Sq}(h:eqv a b):mk a=mk b:=Quotient.sound (s:=st) h
theorem exact {a b:Sq}(h:mk a=mk b):eqv a b:=Quotient.exact (s:=st) h
theorem pt {a b:Sq}(h:∀n,a.s n=b.s n):mk a=mk b:=sound fun e he=>⟨0,fun n _=>by rw[h n];unfold Nr;grind⟩
def q (x:Rat):R:=mk (Sq.const x)
instance:Add R:=⟨Quotient.lift₂ (s₁:=st) (s₂:=st) (fun a b=>mk (a.add b)) fun _ _ _ _ h k=>sound (MD h k)⟩
instance:Mul R:=⟨Quotient.lift₂ (s₁:=st) (s₂:=st) (fun a b=>mk (a.mul b)) fun _ _ _ _ h k=>sound (JL h k)⟩
instance:Neg R:=⟨Quotient.lift (s:=st) (fun a=>mk a.neg) fun _ _ h=>sound (Ls h)⟩
instance:Sub R:=⟨fun a b=>a+ -b⟩
def pos (x:R):Prop:=Quotient.lift (s:=st) Sq.pos (fun _ _ h=>propext ⟨Dy h,Dy (eqv.symm h)⟩) x
theorem sub_def (x y:R):x-y=x+ -y:=rfl
end Go.R
namespace Go.R
open Go.Re
theorem add_comm (x y:R):x+y=y+x:=by
 induction x using ind with|h a=>induction y using ind with|h b=>
 exact pt fun n=>Rat.add_comm _ _
theorem add_assoc (x y z:R):x+y+z=x+(y+z):=by
 induction x using ind with|h a=>induction y using ind with|h b=>induction z using ind with|h c=>
 exact pt fun n=>Rat.add_assoc _ _ _
theorem mul_comm (x y:R):x*y=y*x:=by
 induction x using ind with|h a=>induction y using ind with|h b=>
 exact pt fun n=>Rat.mul_comm _ _
theorem mul_assoc (x y z:R):x*y*z=x*(y*z):=by
 induction x using ind with|h a=>induction y using ind with|h b=>induction z using ind with|h c=>
 exact pt fun n=>Rat.mul_assoc _ _ _
theorem mul_add (x y z:R):x*(y+z)=x*y+x*z:=by
 induction x using ind with|h a=>induction y using ind with|h b=>induction z using ind with|h c=>
 exact pt fun n=>Rat.mul_add _ _ _
theorem add_mul (x y z:R):(x+y)*z=x*z+y*z:=by rw[mul_comm,mul_add,mul_comm z,mul_comm z]
theorem add_zero (x:R):x+q 0=x:=by
 induction x using ind with|h a=>exact pt fun n=>Rat.add_zero _
theorem zero_add (x:R):q 0+x=x:=by rw[add_comm,add_zero]
theorem mul_one (x:R):x*q 1=x:=by
 induction x using ind with|h a=>exact pt fun n=>Rat.mul_one _
theorem one_mul (x:R):q 1*x=x:=by rw[mul_comm,mul_one]
theorem mul_zero (x:R):x*q 0=q 0:=by
 induction x using ind with|h a=>exact pt fun n=>Rat.mul_zero _
theorem zero_mul (x:R):q 0*x=q 0:=by rw[mul_comm,mul_zero]
theorem add_neg (x:R):x+ -x=q 0:=by
 induction x using ind with|h a=>exact pt fun n=>Rat.add_neg_cancel _
theorem sub_self (x:R):x-x=q 0:=add_neg x
theorem neg_add (x:R): -x+x=q 0:=by rw[add_comm,add_neg]
theorem neg_mul (x y:R): -x*y= -(x*y):=by
 induction x using ind with|h a=>induction y using ind with|h b=>
 exact pt fun n=>Rat.neg_mul _ _
theorem mul_neg (x y:R):x* -y= -(x*y):=by rw[mul_comm,neg_mul,mul_comm]
theorem neg_neg (x:R): - -x=x:=by
 induction x using ind with|h a=>exact pt fun n=>Rat.neg_neg _
theorem wF (x y:Rat):q (x+y)=q x+q y:=pt fun _=>rfl
theorem dg (x y:Rat):q (x*y)=q x*q y:=pt fun _=>rfl
theorem vR (x:Rat):q (-x)= -q x:=pt fun _=>rfl
theorem jK: -q 0=q 0:=pt fun _=>rfl
theorem mO (x y:R): -(x+y)= -x+ -y:=by
 induction x using ind with|h a=>induction y using ind with|h b=>
 exact pt fun n=>Rat.neg_add
theorem sub_zero (x:R):x-q 0=x:=by rw[sub_def,jK,add_zero]
theorem gJ {x y:R}(h:x-y=q 0):x=y:=by
 have:x-y+y=y:=by rw[h,zero_add]
 rw[sub_def,add_assoc,neg_add,add_zero]at this;exact this
theorem uD {x:Rat}:pos (q x)↔0<x:=by
 constructor
 ·rintro⟨e,he,N,hN⟩
  have:e<x:=hN N (O1 _)
  grind
 intro h;exact⟨x/2,bR h,0,fun n _=>by show x/2<x;grind⟩
theorem pJ {x y:R}:pos x→pos y→pos (x+y):=by
 induction x using ind with|h a=>induction y using ind with|h b=>
 rintro⟨e,he,N,hN⟩ ⟨f,hf,M,hM⟩;refine⟨e+f,by grind,max N M,fun n hn=>?_⟩;have h1:=hN n (by omega);have h2:=hM n (by omega);show e+f<a.s n+b.s n
 grind
theorem dI {x y:R}:pos x→pos y→pos (x*y):=by
 induction x using ind with|h a=>induction y using ind with|h b=>
 rintro⟨e,he,N,hN⟩ ⟨f,hf,M,hM⟩;refine⟨e*f,Rat.mul_pos he hf,max N M,fun n hn=>?_⟩;have h1:=hN n (by omega);have h2:=hM n (by omega);show e*f<a.s n*b.s n;have h3:=Rat.mul_pos (a:=a.s n-e) (b:=f) (by grind) hf;have h4:=Rat.mul_pos (a:=a.s n) (b:=b.s n-f) (by grind) (by grind)
 grind
theorem kO:¬pos (q 0):=fun h=>absurd (uD.1 h) (by decide)
theorem Eh {x:R}(h:pos x)(k:pos (-x)):False:=by
 have:=pJ h k
 rw[add_neg]at this;exact kO this
theorem PL (x:R):x=q 0∨pos x∨pos (-x):=by
 induction x using ind with|h a=>
 by_cases h:a.pos
 ·exact .inr (.inl h)
 by_cases k:a.neg.pos
 ·exact .inr (.inr k)
 refine .inl (sound fun e he=>?_);obtain⟨N,hN⟩:=a.h (e/2) (bR he);have h1:∃n,N≤n∧¬e/2<a.s n:=Classical.byContradiction fun hh=>h ⟨e/2,bR he,N,fun n hn=>Classical.byContradiction fun h2=>hh ⟨n,hn,h2⟩⟩;have k1:∃n,N≤n∧¬e/2< -a.s n:=Classical.byContradiction fun hh=>k ⟨e/2,bR he,N,fun n hn=>Classical.byContradiction fun h2=>hh ⟨n,hn,h2⟩⟩;obtain⟨m,hm,h1⟩:=h1;obtain⟨l,hl,k1⟩:=k1;refine⟨N,fun n hn=>?_⟩;have h2:=hN n m hn hm;have k2:=hN n l hn hl;show Nr (a.s n-0) e;unfold Nr at*;grind
theorem jQ {x:R}(h:pos x):x≠q 0:=fun e=>by subst e;exact kO h
theorem yQ {x:R}(h:pos (-x)):x≠q 0:=fun e=>by subst e;rw[jK]at h;exact kO h
theorem pe {x y:R}(hx:x≠q 0)(hy:y≠q 0):x*y≠q 0:=by
 rcases(PL x).resolve_left hx with h|h<;>rcases(PL y).resolve_left hy with k|k
 ·exact jQ (dI h k)
 ·refine yQ ?_;rw[←mul_neg];exact dI h k
 ·refine yQ ?_;rw[←neg_mul];exact dI h k
 refine jQ ?_
 have:=dI h k
 rwa [neg_mul,mul_neg,neg_neg]at this
theorem iZ {x y:R}(h:x*y=q 0):x=q 0∨y=q 0:=by
 by_cases hx:x=q 0
 ·exact .inl hx
 exact .inr (Classical.byContradiction fun hy=>pe hx hy h)
theorem j3 {x y:Rat}(h:q x=q y):x=y:=by
 have h0:q (x-y)=q 0:=by rw[show x-y=x+ -y by grind,wF,vR,h,add_neg]
 have h1:¬0<x-y:=fun hp=>jQ (uD.2 hp) h0;have h2:¬0< -(x-y):=fun hp=>yQ (x:=q (x-y)) (by rw[←vR];exact uD.2 hp) h0
 grind
theorem jw {x y z:R}(h:x*z=y*z)(hz:z≠q 0):x=y:=by
 refine gJ ((iZ (y:=z) ?_).resolve_right hz);rw[sub_def,add_mul,neg_mul,h,add_neg]
theorem AK {x:R}:pos x→∃y,x*y=q 1:=by
 induction x using ind with|h a=>
 rintro⟨e,he,N,hN⟩;have SW:∀n,N≤n→a.s n≠0:=fun n hn=>by have:=hN n hn;grind
 let b:Sq:=⟨fun n=>(a.s (max n N))⁻¹,fun f hf=>by
  obtain⟨M,hM⟩:=a.h (f*(e*e)) (Rat.mul_pos hf (Rat.mul_pos he he));refine⟨M,fun m n hm hn=>?_⟩;have h1:=hM (max m N) (max n N) (by omega) (by omega);have a1:=hN (max m N) (by omega);have a2:=hN (max n N) (by omega)
  revert h1 a1 a2
  generalize a.s (max m N)=u
  generalize a.s (max n N)=v
  intro h1 hu hv;have u0:0<u:=by grind
  have v0:0<v:=by grind
  have h2:u⁻¹-v⁻¹=(v-u)*(u⁻¹*v⁻¹):=by
   have:u≠0:=by grind
   have:v≠0:=by grind
   grind
  have p:=Rat.mul_pos (Rat.inv_pos.2 u0) (Rat.inv_pos.2 v0);have huv:e*e<u*v:=by
   have h3:=Rat.mul_pos (a:=u-e) (b:=e) (by grind) he;have h4:=Rat.mul_pos (a:=u) (b:=v-e) (by grind) (by grind)
   grind
  have YV:u*v*(u⁻¹*v⁻¹)=1:=by
   have:u≠0:=by grind
   have:v≠0:=by grind
   grind
  rw[h2]
  revert p YV
  generalize u⁻¹*v⁻¹=w
  intro p YV;unfold Nr at*
  have k1:=Rat.mul_pos (a:=f*(e*e)-(v-u)) (b:=w) (by grind) p;have k2:=Rat.mul_pos (a:=f*(e*e)+(v-u)) (b:=w) (by grind) p;have k3:=Rat.mul_pos (a:=f*(u*v-e*e)) (b:=w) (Rat.mul_pos hf (by grind)) p;have k4:f*(u*v)*w=f:=by rw[Rat.mul_assoc,YV,Rat.mul_one]
  grind⟩
 refine⟨mk b,sound fun f hf=>⟨N,fun n hn=>?_⟩⟩;have h1:a.s n*(a.s (max n N))⁻¹=1:=by
  rw[Nat.max_eq_left hn,Rat.mul_inv_cancel _ (SW n hn)]
 show Nr (a.s n*(a.s (max n N))⁻¹-1) f;rw[h1];unfold Nr;grind
theorem inv {x:R}(h:x≠q 0):∃y,x*y=q 1:=by
 rcases(PL x).resolve_left h with h|h
 ·exact AK h
 obtain⟨y,hy⟩:=AK h;exact⟨-y,by rw[mul_neg,←neg_mul,hy]⟩
def nn (x:R):Prop:=¬pos (-x)
theorem bu {x:R}:nn x↔x=q 0∨pos x:=by
 constructor
 ·intro h
  rcases PL x with k|k|k
  ·exact .inl k
  ·exact .inr k
  exact absurd k h
 rintro(rfl|h) k
 ·rw[jK]at k;exact kO k
 exact Eh h k
theorem E8 (b:Rat)(hb:0≤b)(d:Rat)(hd:0<d):∃s:Rat,0≤s∧s*s≤b∧b<(s+d)*(s+d):=by
 have key:∀k:Nat,b<(k*d)*(k*d)→∃s:Rat,0≤s∧s*s≤b∧b<(s+d)*(s+d):=by
  intro k
  induction k with
  |zero=>intro h;exfalso;simp at h;grind
  |succ k ih=>
   intro h
   by_cases hk:b<(k*d)*(k*d)
   ·exact ih hk
   refine⟨k*d,Rat.mul_nonneg (by simp[Rat.natCast_nonneg]) (by grind),by grind,?_⟩;have e:((k+1:Nat):Rat)*d=k*d+d:=by rw[Rat.natCast_add];grind
   rw[e]at h;exact h
 obtain⟨k,hk⟩:∃k:Nat,b/(d*d)+1<(k:Rat):=by
  refine⟨(b/(d*d)+1).ceil.toNat+1,?_⟩;have h1:=Rat.le_ceil (x:=b/(d*d)+1);have h2:((b/(d*d)+1).ceil:Rat)≤(((b/(d*d)+1).ceil.toNat:Nat):Rat):=by
   rw[←Rat.intCast_natCast,Rat.intCast_le_intCast];exact Int.self_le_toNat _
  rw[Rat.natCast_add]
  grind
 refine key k ?_;have hdd:=Rat.mul_pos hd hd;have h0:0≤b/(d*d):=by rw[Rat.div_def];exact Rat.mul_nonneg hb (Rat.le_of_lt (Rat.inv_pos.2 hdd))
 have e1:b/(d*d)*(d*d)=b:=div_mul hdd;have k1:(1:Rat)<k:=by grind
 have h2:=Rat.mul_pos (a:=(k:Rat)-b/(d*d)) (b:=d*d) (by grind) hdd;have h3:=Rat.mul_pos (a:=(k:Rat)*((k:Rat)-1)) (b:=d*d) (Rat.mul_pos (by grind) (by grind)) hdd
 grind
theorem N7 (e:Rat)(he:0<e):∃N:Nat,∀n,N≤n→(1:Rat)/((n:Rat)+1)<e:=by
 refine⟨(1/e).ceil.toNat,fun n hn=>?_⟩;have h1:=Rat.le_ceil (x:=1/e);have h2:((1/e).ceil:Rat)≤(n:Rat):=by
  rw[←Rat.intCast_natCast,Rat.intCast_le_intCast];omega
 have h3:1/e<(n:Rat)+1:=by grind
 have e0:e≠0:=by grind
 have Vp:=div_pos (a:=1) (by decide) he;have n0:0<(n:Rat)+1:=by grind
 have h4:=Rat.mul_pos (a:=(n:Rat)+1-1/e) (b:=e) (by grind) he;have h5:1/e*e=1:=div_mul he;have h6:1<((n:Rat)+1)*e:=by grind
 have h7:=Rat.mul_pos (a:=((n:Rat)+1)*e-1) (b:=1/((n:Rat)+1)) (by grind) (div_pos (by decide) n0);have h8:1/((n:Rat)+1)*((n:Rat)+1)=1:=div_mul n0
 revert h7 h8
 generalize 1/((n:Rat)+1)=r
 generalize(n:Rat)+1=m
 intro h7 h8;have h9:(m*e-1)*r=r*m*e-r:=by grind
 rw[h9,h8]at h7
 grind
end Go.R
namespace Go.R
open Go.Re
theorem Lb {a:Sq}(h:nn (mk a)){e:Rat}(he:0<e):∃N,∀n,N≤n→ -e<a.s n:=by
 rcases bu.1 h with h|h
 ·obtain⟨N,hN⟩:=exact (b:=Sq.const 0) h e he;refine⟨N,fun n hn=>?_⟩;have h1:Nr (a.s n-0) e:=hN n hn;unfold Nr at h1;grind
 obtain⟨f,hf,N,hN⟩:=h;refine⟨N,fun n hn=>?_⟩
 have:=hN n hn
 grind
theorem mQ {x:R}(h:nn x):∃y,nn y∧y*y=x:=by
 induction x using ind with|h a=>
 let b:Nat→Rat:=fun n=>if 0≤a.s n then a.s n else 0
 have YS:∀n,0≤b n:=fun n=>by show 0≤ite _ _ _;split<;>grind
 have dp:∀n:Nat,(0:Rat)<1/((n:Rat)+1):=fun n=>div_pos (by decide) (by have:(0:Rat)≤n:=Rat.natCast_nonneg;grind);obtain⟨s,hs⟩:=Classical.axiomOfChoice (r:=fun(n:Nat) (s:Rat)=>0≤s∧s*s≤b n∧b n<(s+1/((n:Rat)+1))*(s+1/((n:Rat)+1))) fun n=>E8 (b n) (YS n) _ (dp n);have hbc:∀m n (e:Rat),Nr (a.s m-a.s n) e→b m-b n<e:=by
  intro m n e h;unfold Nr at h
  show(ite _ _ _:Rat)-ite _ _ _<e
  split<;>split<;>grind
 have hc:∀e,0<e→∃N,∀m n,N≤m→N≤n→s m<s n+e:=by
  intro e he;obtain⟨N,hN⟩:=a.h (e*e/2) (bR (Rat.mul_pos he he));obtain⟨M,hM⟩:=N7 (e/2) (bR he);refine⟨max N M,fun m n hm hn=>?_⟩;have h1:=hbc m n _ (hN m n (by omega) (by omega));obtain⟨m1,m2,m3⟩:=hs m;obtain⟨n1,n2,n3⟩:=hs n;have hd:=hM n (by omega);have dn:=dp n
  revert hd dn n3
  generalize(1:Rat)/((n:Rat)+1)=d
  intro n3 hd dn;refine Rat.not_le.1 fun hh=>?_;have k1:=Rat.mul_nonneg (a:=s m-(s n+e)) (b:=s m+(s n+e)) (by grind) (by grind);have k2:=Rat.mul_nonneg (a:=e/2-d) (b:=2*s n+d+e/2) (by grind) (by grind);have k3:=Rat.mul_nonneg (a:=s n) (b:=e) n1 (Rat.le_of_lt he);have k4:=Rat.mul_pos he he
  grind
 let y:Sq:=⟨s,fun e he=>by
  obtain⟨N,hN⟩:=hc e he;refine⟨N,fun m n hm hn=>?_⟩;have h1:=hN m n hm hn;have h2:=hN n m hn hm;unfold Nr;grind⟩
 refine⟨mk y,?_,?_⟩
 ·rintro⟨e,he,N,hN⟩;have h1:e< -s N:=hN N (O1 _)
  have:=(hs N).1
  grind
 refine sound fun e he=>?_;obtain⟨B,hB,hy⟩:=y.sP;obtain⟨N,hN⟩:=Lb h (bR he);have hq:0<e/2/(2*B+1):=div_pos (bR he) (by grind);obtain⟨M,hM⟩:=N7 (e/2/(2*B+1)) hq;obtain⟨L,hL⟩:=N7 1 (by decide);refine⟨max N (max M L),fun n hn=>?_⟩;obtain⟨n1,n2,n3⟩:=hs n;have hd:=hM n (by omega);have hl:=hL n (by omega);have dn:=dp n;have ha:=hN n (by omega);have hyn:Nr (s n) B:=hy n;have hb:a.s n≤b n∧b n<a.s n+e/2∨a.s n=b n:=by
  show a.s n≤ite _ _ _∧ite _ _ _<a.s n+e/2∨a.s n=ite _ _ _
  split<;>grind
 show Nr (s n*s n-a.s n) e
 revert hd dn n3 hl
 generalize(1:Rat)/((n:Rat)+1)=d
 intro n3 hd hl dn;have e1:e/2/(2*B+1)*(2*B+1)=e/2:=div_mul (by grind)
 revert e1 hd
 generalize e/2/(2*B+1)=g
 intro hd e1;unfold Nr at*
 have k1:=Rat.mul_nonneg (a:=g-d) (b:=2*B+1) (by grind) (by grind);have k2:=Rat.mul_nonneg (a:=d) (b:=B-s n) (by grind) (by grind);have k3:=Rat.mul_nonneg (a:=d) (b:=1-d) (by grind) (by grind)
 grind
noncomputable def sqrt (x:R):R:=open Classical in if h:nn x then Classical.choose (mQ h)else q 0
theorem cV {x:R}(h:nn x):sqrt x*sqrt x=x:=by
 unfold sqrt;rw[dif_pos h];exact(Classical.choose_spec (mQ h)).2
theorem DY (x:R):nn (sqrt x):=by
 unfold sqrt
 split
 ·rename_i h;exact(Classical.choose_spec (mQ h)).1
 exact bu.2 (.inl rfl)
end Go.R
namespace Go.R
open Go.Re
theorem Ji (x y u v s:R):(x+y*s)*(u+v*s)=(x*u+y*v*(s*s))+(x*v+y*u)*s:=by
 induction x using ind with|h x=>induction y using ind with|h y=>induction u using ind with|h u=>induction v using ind with|h v=>induction s using ind with|h s=>
 exact pt fun n=>by simp only[Sq.add,Sq.mul];grind
theorem pq (x y s:R):(x+y*s)*(x-y*s)=x*x+ -(y*y*(s*s)):=by
 induction x using ind with|h x=>induction y using ind with|h y=>induction s using ind with|h s=>
 exact pt fun n=>by simp only[Sq.add,Sq.mul,Sq.neg];grind
theorem GD (x y u v s:R):(x+y*s)+(u+v*s)=(x+u)+(y+v)*s:=by
 induction x using ind with|h x=>induction y using ind with|h y=>induction u using ind with|h u=>induction v using ind with|h v=>induction s using ind with|h s=>
 exact pt fun n=>by simp only[Sq.add,Sq.mul];grind
theorem IX (x y s:R): -(x+y*s)= -x+ -y*s:=by
 induction x using ind with|h x=>induction y using ind with|h y=>induction s using ind with|h s=>
 exact pt fun n=>by simp only[Sq.add,Sq.mul,Sq.neg];grind
noncomputable def bQ (x:R):Int:=open Classical in if pos x then 1 else if pos (-x)then-1 else 0
theorem gW {x:R}(h:pos x):bQ x=1:=by unfold bQ;rw[if_pos h]
theorem nC {x:R}(h:pos (-x)):bQ x= -1:=by unfold bQ;rw[if_neg (fun k=>Eh k h),if_pos h]
theorem gu:bQ (q 0)=0:=by
 unfold bQ;rw[if_neg kO,if_neg (by rw[jK];exact kO)]
theorem dh (x:R):x=q 0∧bQ x=0∨pos x∧bQ x=1∨pos (-x)∧bQ x= -1:=by
 rcases PL x with h|h|h
 ·exact .inl ⟨h,h▸gu⟩
 ·exact .inr (.inl ⟨h,gW h⟩)
 exact .inr (.inr ⟨h,nC h⟩)
theorem kr {x:R}:bQ x=0↔x=q 0:=by
 rcases dh x with⟨h,e⟩|⟨h,e⟩|⟨h,e⟩
 ·exact⟨fun _=>h,fun _=>e⟩
 ·exact⟨fun k=>by omega,fun k=>absurd k (jQ h)⟩
 exact⟨fun k=>by omega,fun k=>absurd k (yQ h)⟩
theorem me (x y:R):bQ (x*y)=bQ x*bQ y:=by
 rcases dh x with⟨h,e⟩|⟨h,e⟩|⟨h,e⟩<;>rcases dh y with⟨k,f⟩|⟨k,f⟩|⟨k,f⟩<;>rw [e,f]
 ·rw[h,zero_mul,gu];rfl
 ·rw[h,zero_mul,gu];rfl
 ·rw[h,zero_mul,gu];rfl
 ·rw[k,mul_zero,gu];rfl
 ·exact gW (dI h k)
 ·exact nC (by rw[←mul_neg];exact dI h k)
 ·rw[k,mul_zero,gu];rfl
 ·exact nC (by rw[←neg_mul];exact dI h k)
 have:=dI h k
 rw[neg_mul,mul_neg,neg_neg]at this;exact gW this
theorem Qy (x:Rat):bQ (q x)=if 0<x then 1 else if x<0 then-1 else 0:=by
 by_cases h:0<x
 ·rw[if_pos h,gW (uD.2 h)]
 rw[if_neg h]
 by_cases k:x<0
 ·rw[if_pos k];exact nC (by rw[←vR];exact uD.2 (by grind))
 rw[if_neg k,show x=0 by grind,gu]
theorem Jr {x y s:R}(hs:pos s):bQ (x+y*s)=if bQ y=0∨bQ x=bQ y then bQ x else if bQ x=0 then bQ y else bQ x*bQ (x*x+ -(y*y*(s*s))):=by
 have hss:=gW hs;have XI:bQ (y*s)=bQ y:=by rw[me,hss,Int.mul_one]
 have hn:=congrArg bQ (pq x y s);rw[me]at hn
 rcases dh x with⟨h,e⟩|⟨h,e⟩|⟨h,e⟩<;>rcases dh y with⟨k,f⟩|⟨k,f⟩|⟨k,f⟩<;>rw [e,f]
 ·rw[h,zero_add,XI,f];rfl
 ·rw[h,zero_add,XI,f];rfl
 ·rw[h,zero_add,XI,f];rfl
 ·rw[k,zero_mul,add_zero,e];rfl
 ·exact gW (pJ h (dI k hs))
 ·have h1:pos (x-y*s):=by rw[sub_def,←neg_mul];exact pJ h (dI k hs)
  rw[gW h1,Int.mul_one]at hn;rw[hn];rw[if_neg (by omega),if_neg (by omega),Int.one_mul]
 ·rw[k,zero_mul,add_zero,e];rfl
 ·have h1:pos (-(x-y*s)):=by rw[sub_def,mO,neg_neg];exact pJ h (dI k hs)
  rw[nC h1]at hn;rw[←hn];rw[if_neg (by omega),if_neg (by omega)];omega
 refine nC ?_;rw[mO,←neg_mul];exact pJ h (dI k hs)
theorem AF {x:R}(h:pos x):pos (sqrt x):=by
 rcases bu.1 (DY x)with k|k
 ·have:=cV (bu.2 (.inr h))
  rw[k,mul_zero]at this;exact absurd this.symm (jQ h)
 exact k
theorem Np (x:R):nn (x*x):=by
 rcases PL x with h|h|h
 ·rw[h,mul_zero];exact bu.2 (.inl rfl)
 ·exact bu.2 (.inr (dI h h))
 have:=dI h h
 rw[neg_mul,mul_neg,neg_neg]at this;exact bu.2 (.inr this)
theorem zG {x y:R}(h:x*x=y*y):x=y∨x= -y:=by
 have e:(x-y)*(x- -y)=q 0:=by
  have:(x-y)*(x- -y)=x*x-y*y:=by
   induction x using ind with|h x=>induction y using ind with|h y=>
   exact pt fun n=>by simp only[Sq.add,Sq.mul,Sq.neg];grind
  rw[this,h,sub_self]
 rcases iZ e with h|h
 ·exact .inl (gJ h)
 exact .inr (gJ h)
theorem Hr {x y:R}(hx:nn x)(hy:nn y)(h:x*x=y*y):x=y:=by
 rcases zG h with e|e
 ·exact e
 rcases bu.1 hy with k|k
 ·rw[e,k,jK]
 exact absurd (by rw[e,neg_neg];exact k) hx
theorem qF {x:R}(h:nn x):sqrt (x*x)=x:=Hr (DY _) h (cV (Np x))
end Go.R
namespace Go.Tw
open Go Go.R
abbrev El:=List Rat
noncomputable def val:Nat→List El→El→R
 |0,_,a=>q (a.getD 0 0)
 |h+1,t,a=>val h t (a.take (2^h))+val h t (a.drop (2^h))*sqrt (val h t (t.getD h []))
def aC (a b:El):El:=List.zipWith (· + ·) a b
def aH (a:El):El:=a.map (- ·)
def zE (n:Nat):El:=List.replicate n 0
def aj:Nat→List El→El→El→El
 |0,_,a,b=>[a.getD 0 0*b.getD 0 0]
 |h+1,t,a,b=>aC (aj h t (a.take (2^h)) (b.take (2^h))) (aj h t (aj h t (a.drop (2^h)) (b.drop (2^h))) (t.getD h []))++
   aC (aj h t (a.take (2^h)) (b.drop (2^h))) (aj h t (a.drop (2^h)) (b.take (2^h)))
theorem ai {a:El}{h:Nat}(ha:a.length=2^(h+1)):(a.take (2^h)).length=2^h:=by
 rw[X5,ha,O4];omega
theorem ah {a:El}{h:Nat}(ha:a.length=2^(h+1)):(a.drop (2^h)).length=2^h:=by
 rw[List.length_drop,ha,O4];omega
theorem ar {a b:El}{n:Nat}(ha:a.length=n)(hb:b.length=n):(aC a b).length=n:=by
 unfold aC;rw[List.length_zipWith,ha,hb,Nat.min_self]
theorem au {a:El}:(aH a).length=a.length:=List.length_map _
theorem av {n:Nat}:(zE n).length=n:=List.length_replicate
theorem aa {h:Nat}{t:List El}:∀{a b:El},(aj h t a b).length=2^h:=by
 induction h with
 |zero=>intro a b;rfl
 |succ h ih=>
  intro a b;rw[aj,X6,ar ih ih,ar ih ih,O4];omega
theorem bw {a:El}(h:a.length=2^0):∃x,a=[x]:=by
 match a,h with
 |[x],_=>exact⟨x,rfl⟩
theorem ft {h:Nat}{t:List El}{a b:El}(ha:a.length=2^h):val (h+1) t (a++b)=val h t a+val h t b*sqrt (val h t (t.getD h [])):=by
 rw[val,List.take_append_of_le_length (by omega),List.take_of_length_le (by omega),List.drop_append_of_le_length (by omega),List.drop_of_length_le (by omega),List.nil_append]
theorem val_add {h:Nat}{t:List El}:∀{a b:El},a.length=2^h→b.length=2^h→val h t (aC a b)=val h t a+val h t b:=by
 induction h with
 |zero=>
  intro a b ha hb;obtain⟨x,rfl⟩:=bw ha;obtain⟨y,rfl⟩:=bw hb;exact wF x y
 |succ h ih=>
  intro a b ha hb;have e1:(aC a b).take (2^h)=aC (a.take (2^h)) (b.take (2^h)):=List.take_zipWith;have e2:(aC a b).drop (2^h)=aC (a.drop (2^h)) (b.drop (2^h)):=List.drop_zipWith;rw[val,e1,e2,ih (ai ha) (ai hb),ih (ah ha) (ah hb),val,val,GD]
theorem val_neg {h:Nat}{t:List El}:∀{a:El},a.length=2^h→val h t (aH a)= -val h t a:=by
 induction h with
 |zero=>
  intro a ha;obtain⟨x,rfl⟩:=bw ha;exact vR x
 |succ h ih=>
  intro a ha;have e1:(aH a).take (2^h)=aH (a.take (2^h)):=List.map_take.symm;have e2:(aH a).drop (2^h)=aH (a.drop (2^h)):=List.map_drop.symm;rw[val,e1,e2,ih (ai ha),ih (ah ha),val,IX]
theorem pR {h:Nat}:(zE (2^(h+1))).take (2^h)=zE (2^h):=by
 unfold zE;rw[List.take_replicate,O4,Nat.min_eq_left (by omega)]
theorem pD {h:Nat}:(zE (2^(h+1))).drop (2^h)=zE (2^h):=by
 unfold zE;rw[List.drop_replicate,O4];congr 1;omega
theorem CN {h:Nat}:zE (2^h)++zE (2^h)=zE (2^(h+1)):=by
 unfold zE;rw[List.replicate_append_replicate,O4];congr 1;omega
theorem val_zero {h:Nat}{t:List El}:val h t (zE (2^h))=q 0:=by
 induction h with
 |zero=>rfl
 |succ h ih=>rw[val,pR,pD,ih,zero_mul,add_zero]
def Rl (h:Nat)(t:List El):Prop:=∀i,i<h→(t.getD i []).length=2^i∧pos (val i t (t.getD i []))
theorem Rl.le {h k:Nat}{t:List El}(H:Rl h t)(hk:k≤h):Rl k t:=fun i hi=>H i (by omega)
theorem Rl.root {h:Nat}{t:List El}(H:Rl (h+1) t):sqrt (val h t (t.getD h []))*sqrt (val h t (t.getD h []))=val h t (t.getD h []):=
 cV (bu.2 (.inr (H h (by omega)).2))
theorem val_mul {h:Nat}{t:List El}:∀(_:Rl h t) {a b:El},a.length=2^h→b.length=2^h→val h t (aj h t a b)=val h t a*val h t b:=by
 induction h with
 |zero=>intro _ a b _ _;exact dg _ _
 |succ h ih=>
  intro H a b ha hb;have H':=H.le (Nat.le_succ h);rw[aj,ft (ar aa aa),val_add aa aa,val_add aa aa,ih H' (ai ha) (ai hb),ih H' aa (H h (by omega)).1,
   ih H' (ah ha) (ah hb),ih H' (ai ha) (ah hb),ih H' (ah ha) (ai hb),val,val,Ji,H.root]
def aO (h:Nat)(t:List El)(a:El):El:=aC (aj h t (a.take (2^h)) (a.take (2^h))) (aH (aj h t (aj h t (a.drop (2^h)) (a.drop (2^h))) (t.getD h [])))
theorem aJ {h:Nat}{t:List El}{a:El}:(aO h t a).length=2^h:=ar aa (by rw[au,aa])
theorem eG {h:Nat}{t:List El}(H:Rl (h+1) t){a:El}(ha:a.length=2^(h+1)):
  val h t (aO h t a)=val h t (a.take (2^h))*val h t (a.take (2^h))+ -(val h t (a.drop (2^h))*val h t (a.drop (2^h))*(sqrt (val h t (t.getD h []))*sqrt (val h t (t.getD h [])))):=by
 have H':=H.le (Nat.le_succ h);unfold aO;rw[val_add aa (by rw[au,aa]),val_neg aa,val_mul H' (ai ha) (ai ha),val_mul H' aa (H h (by omega)).1,val_mul H' (ah ha) (ah ha),H.root]
def bp:Nat→List El→El→Int
 |0,_,a=>if 0<a.getD 0 0 then 1 else if a.getD 0 0<0 then-1 else 0
 |h+1,t,a=>
  if bp h t (a.drop (2^h))=0∨bp h t (a.take (2^h))=bp h t (a.drop (2^h))then bp h t (a.take (2^h))
  else if bp h t (a.take (2^h))=0 then bp h t (a.drop (2^h))
  else bp h t (a.take (2^h))*bp h t (aO h t a)
theorem cA {h:Nat}{t:List El}:∀(_:Rl h t) {a:El},a.length=2^h→bp h t a=bQ (val h t a):=by
 induction h with
 |zero=>intro _ a _;exact(Qy _).symm
 |succ h ih=>
  intro H a ha;have H':=H.le (Nat.le_succ h);rw[bp,ih H' (ai ha),ih H' (ah ha),ih H' aJ,eG H ha,val,Jr (AF (H h (by omega)).2)]
end Go.Tw
namespace Go.R
open Go.Re
theorem zP (p g s:R):(p+g*s)*(p+g*s)=(p*p+g*g*(s*s))+(p*g+p*g)*s:=by
 induction p using ind with|h p=>induction g using ind with|h g=>induction s using ind with|h s=>
 exact pt fun n=>by simp only[Sq.add,Sq.mul];grind
theorem CM (p g r:R):(p*p+ -(g*g*r))*(p*p+ -(g*g*r))=(p*p+g*g*r)*(p*p+g*g*r)+ -((p*g+p*g)*(p*g+p*g)*r):=by
 induction p using ind with|h p=>induction g using ind with|h g=>induction r using ind with|h r=>
 exact pt fun n=>by simp only[Sq.add,Sq.mul,Sq.neg];grind
theorem Pz (p g u r:R):(p*p+p*p+ -u)*(p*p+p*p+ -u)+ -(u*u+ -((p*g+p*g)*(p*g+p*g)*r))=(p*p)*(p*p+g*g*r+ -u)*q 4:=by
 induction p using ind with|h p=>induction g using ind with|h g=>induction u using ind with|h u=>induction r using ind with|h r=>
 exact pt fun n=>by simp only[Sq.add,Sq.mul,Sq.neg,Sq.const];grind
theorem nZ {x y:R}(h:x+y=q 0):x= -y:=by
 refine gJ ?_;rw[sub_def,neg_neg,h]
theorem Cb {x y z:R}(h:x+z=y+z):x=y:=by
 have:=congrArg (· + -z) h
 simp only[add_assoc,add_neg,add_zero]at this;exact this
theorem Ik:q 2≠q 0:=fun h=>absurd (j3 h) (by decide)
theorem iD:q 1≠q 0:=fun h=>absurd (j3 h) (by decide)
theorem xq (x:R):x+x=q 2*x:=by
 induction x using ind with|h x=>
 exact pt fun n=>by simp only[Sq.add,Sq.mul,Sq.const];grind
theorem Hb {x:R}(h:x+x=q 0):x=q 0:=by
 rw[xq]at h;exact(iZ h).resolve_left Ik
theorem QX {x:R}(h:x*x=q 0):x=q 0:=by
 rcases iZ h with h|h<;>exact h
end Go.R
namespace Go.Tw
open Go Go.R
def In (h:Nat)(t:List El)(x:R):Prop:=∃a:El,a.length=2^h∧val h t a=x
theorem In.of {h:Nat}{t:List El}{a:El}(ha:a.length=2^h):In h t (val h t a):=⟨a,ha,rfl⟩
theorem In.add {h:Nat}{t:List El}{x y:R}(hx:In h t x)(hy:In h t y):In h t (x+y):=by
 obtain⟨a,ha,rfl⟩:=hx;obtain⟨b,hb,rfl⟩:=hy;exact⟨aC a b,ar ha hb,val_add ha hb⟩
theorem In.neg {h:Nat}{t:List El}{x:R}(hx:In h t x):In h t (-x):=by
 obtain⟨a,ha,rfl⟩:=hx;exact⟨aH a,by rw[au,ha],val_neg ha⟩
theorem In.mul {h:Nat}{t:List El}(H:Rl h t){x y:R}(hx:In h t x)(hy:In h t y):In h t (x*y):=by
 obtain⟨a,ha,rfl⟩:=hx;obtain⟨b,hb,rfl⟩:=hy;exact⟨aj h t a b,aa,val_mul H ha hb⟩
def aU (h:Nat)(x:Rat):El:=x::zE (2^h-1)
theorem aA {h:Nat}{x:Rat}:(aU h x).length=2^h:=by
 unfold aU;rw[List.length_cons,av];have:=Nat.two_pow_pos h;omega
theorem vW {h:Nat}{x:Rat}:aU (h+1) x=aU h x++zE (2^h):=by
 unfold aU zE;rw[List.cons_append,List.replicate_append_replicate,O4]
 have:=Nat.two_pow_pos h
 congr 2;omega
theorem bx {h:Nat}{t:List El}{x:Rat}:val h t (aU h x)=q x:=by
 induction h with
 |zero=>rfl
 |succ h ih=>rw[vW,ft aA,ih,val_zero,zero_mul,add_zero]
theorem In.rat {h:Nat}{t:List El}(x:Rat):In h t (q x):=⟨aU h x,aA,bx⟩
theorem kD {h:Nat}{t:List El}{a:El}(ha:a.length=2^h):val (h+1) t (a++zE (2^h))=val h t a:=by
 rw[ft ha,val_zero,zero_mul,add_zero]
theorem In.up {h:Nat}{t:List El}{x:R}(hx:In h t x):In (h+1) t x:=by
 obtain⟨a,ha,rfl⟩:=hx;exact⟨a++zE (2^h),by rw[X6,ha,av,O4];omega,kD ha⟩
theorem In.split {h:Nat}{t:List El}{x:R}(hx:In (h+1) t x):∃u v,In h t u∧In h t v∧x=u+v*sqrt (val h t (t.getD h [])):=by
 obtain⟨a,ha,rfl⟩:=hx;exact⟨_,_,.of (ai ha),.of (ah ha),rfl⟩
theorem In.join {h:Nat}{t:List El}{u v:R}(hu:In h t u)(hv:In h t v):In (h+1) t (u+v*sqrt (val h t (t.getD h []))):=by
 obtain⟨a,ha,rfl⟩:=hu;obtain⟨b,hb,rfl⟩:=hv;exact⟨a++b,by rw[X6,ha,hb,O4];omega,ft ha⟩
theorem In.root {h:Nat}{t:List El}:In (h+1) t (sqrt (val h t (t.getD h []))):=by
 have:=In.join (t:=t) (In.rat (h:=h) 0) (In.rat (h:=h) 1)
 rwa [one_mul,zero_add]at this
theorem In.le {h k:Nat}{t:List El}{x:R}(hx:In h t x)(hk:h≤k):In k t x:=by
 obtain⟨d,rfl⟩:=Nat.exists_eq_add_of_le hk;clear hk
 induction d with
 |zero=>exact hx
 |succ d ih=>exact ih.up
structure Rd (h:Nat) (t:List El):Prop where
 rl:Rl h t
 ns:∀i,i<h→∀x,In i t x→x*x≠val i t (t.getD i [])
theorem Rd.le {h k:Nat}{t:List El}(H:Rd h t)(hk:k≤h):Rd k t:=⟨H.rl.le hk,fun i hi=>H.ns i (by omega)⟩
theorem Rd.zK {h:Nat}{t:List El}(H:Rd (h+1) t):¬In h t (sqrt (val h t (t.getD h []))):=fun k=>H.ns h (by omega) _ k H.rl.root
def cF:Nat→List El→El→Option El
 |0,_,a=>if a.getD 0 0=0 then none else some [(a.getD 0 0)⁻¹]
 |h+1,t,a=>(cF h t (aO h t a)).map fun n=>aj h t (a.take (2^h)) n++aH (aj h t (a.drop (2^h)) n)
theorem dz {h:Nat}{t:List El}:∀(_:Rl h t) {a b:El},a.length=2^h→cF h t a=some b→b.length=2^h∧val h t a*val h t b=q 1:=by
 induction h with
 |zero=>
  intro _ a b _ hb;rw[cF]at hb
  split at hb
  ·cases hb
  rename_i h0
  cases hb
  refine⟨rfl,?_⟩;show q _*q _=q 1;rw[←dg,X0,Rat.mul_inv_cancel _ h0]
 |succ h ih=>
  intro H a b ha hb;have H':=H.le (Nat.le_succ h);rw[cF,Option.map_eq_some_iff]at hb;obtain⟨n,hn,rfl⟩:=hb;obtain⟨hl,hv⟩:=ih H' aJ hn;refine⟨by rw[X6,au,aa,aa,O4];omega,?_⟩;rw[eG H ha]at hv;rw[ft aa,val_neg aa,val_mul H' (ai ha) hl,val_mul H' (ah ha) hl,val,←hv,←pq]
  generalize val h t (a.take (2^h))=x
  generalize val h t (a.drop (2^h))=y
  generalize val h t n=m
  rw[neg_mul,mul_assoc y m,mul_comm m,←mul_assoc y,←neg_mul,←add_mul,sub_def,mul_assoc]
theorem ux {h:Nat}{t:List El}(H:Rl h t)(hinv:∀x,In h t x→x≠q 0→∃y,In h t y∧x*y=q 1){x y s:R}(hx:In h t x)(hy:In h t y)(he:x+y*s=q 0)(hs:¬In h t s):y=q 0∧x=q 0:=by
 by_cases h0:y=q 0
 ·exact⟨h0,by rwa [h0,zero_mul,add_zero]at he⟩
 exfalso
 obtain⟨z,hz,hyz⟩:=hinv y hy h0
 apply hs
 have:s= -(x*z):=by
  have e:=nZ (x:=y*s) (y:=x) (by rw[add_comm];exact he)
  have:=congrArg (z* ·) e
  simp only[←mul_assoc,mul_neg]at this;rw[mul_comm z y,hyz,one_mul,mul_comm z x]at this;exact this
 rw[this];exact(In.mul H hx hz).neg
theorem og {h:Nat}{t:List El}:∀(_:Rd h t) {a:El},a.length=2^h→cF h t a=none→val h t a=q 0:=by
 induction h with
 |zero=>
  intro _ a _ hb;rw[cF]at hb
  split at hb
  ·rename_i h0
   show q _=q 0;rw[h0]
  cases hb
 |succ h ih=>
  intro H a ha hb;have H':=H.le (Nat.le_succ h);rw[cF,Option.map_eq_none_iff]at hb;have h0:=ih H' aJ hb;have hinv:∀x,In h t x→x≠q 0→∃y,In h t y∧x*y=q 1:=by
   rintro x ⟨a,ha,rfl⟩ h0
   cases hi:cF h t a with
   |none=>exact absurd (ih H' ha hi) h0
   |some b=>
    obtain⟨hl,hv⟩:=dz H'.rl ha hi;exact⟨_,.of hl,hv⟩
  rw[eG H.rl ha,←pq]at h0
  rcases iZ h0 with h0|h0
  ·exact h0
  rw[sub_def,←neg_mul,←val_neg (ah ha)]at h0
  have:=ux H'.rl hinv (.of (ai ha)) (.of (by rw[au];exact ah ha)) h0 H.zK
  rw[val_neg (ah ha)]at this;rw[val,this.2,nZ (y:=q 0) (x:=val h t (a.drop (2^h))) ?_,jK,zero_mul,add_zero];rw[add_zero]
  have:=congrArg (- ·) this.1
  simpa only[neg_neg,jK]using this
theorem In.inv {h:Nat}{t:List El}(H:Rd h t){x y:R}(hx:In h t x)(h1:x*y=q 1):In h t y:=by
 obtain⟨a,ha,rfl⟩:=hx
 cases hi:cF h t a with
 |none=>
  rw[og H ha hi,zero_mul]at h1;exact absurd h1.symm iD
 |some b=>
  obtain⟨hl,hv⟩:=dz H.rl ha hi
  have:y=val h t b:=by
   refine jw (z:=val h t a) ?_ ?_
   ·rw[mul_comm y,h1,mul_comm,hv]
   intro e;rw[e,zero_mul]at h1;exact iD h1.symm
  rw[this];exact .of hl
theorem In.QI {h:Nat}{t:List El}(H:Rd h t)(x:R)(hx:In h t x)(h0:x≠q 0):∃y,In h t y∧x*y=q 1:=by
 obtain⟨y,hy⟩:=R.inv h0;exact⟨y,hx.inv H hy,hy⟩
theorem o9 {h:Nat}{t:List El}(H:Rd (h+1) t){x y:R}(hx:In h t x)(hy:In h t y)(he:x+y*sqrt (val h t (t.getD h []))=q 0):x=q 0∧y=q 0:=
 (ux (H.rl.le (Nat.le_succ h)) (In.QI (H.le (Nat.le_succ h))) hx hy he H.zK).symm
theorem gI {h:Nat}{t:List El}(H:Rd (h+1) t){x y u v:R}(hx:In h t x)(hy:In h t y)(hu:In h t u)(hv:In h t v)
  (he:x+y*sqrt (val h t (t.getD h []))=u+v*sqrt (val h t (t.getD h []))):x=u∧y=v:=by
 have:=o9 H (hx.add hu.neg) (hy.add hv.neg) (by
  rw[←GD,he,←IX,add_neg])
 exact⟨gJ this.1,gJ this.2⟩
theorem nv {h:Nat}{t:List El}:∀(_:Rd h t) {a:El},a.length=2^h→val h t a=q 0→a=zE (2^h):=by
 induction h with
 |zero=>
  intro _ a ha h0;obtain⟨x,rfl⟩:=bw ha;rw[show x=0 from j3 h0];rfl
 |succ h ih=>
  intro H a ha h0;have H':=H.le (Nat.le_succ h);obtain⟨h1,h2⟩:=o9 H (.of (ai ha)) (.of (ah ha)) h0;rw[←List.take_append_drop (2^h) a,ih H' (ai ha) h1,ih H' (ah ha) h2,CN]
theorem val_inj {h:Nat}{t:List El}:∀(_:Rd h t) {a b:El},a.length=2^h→b.length=2^h→val h t a=val h t b→a=b:=by
 induction h with
 |zero=>
  intro _ a b ha hb h0;obtain⟨x,rfl⟩:=bw ha;obtain⟨y,rfl⟩:=bw hb;rw[show x=y from j3 h0]
 |succ h ih=>
  intro H a b ha hb h0;have H':=H.le (Nat.le_succ h);obtain⟨h1,h2⟩:=gI H (.of (ai ha)) (.of (ah ha)) (.of (ai hb)) (.of (ah hb)) h0;rw[←List.take_append_drop (2^h) a,←List.take_append_drop (2^h) b,ih H' (ai ha) (ai hb) h1,ih H' (ah ha) (ah hb) h2]
theorem jR {h:Nat}{t:List El}(H:Rd h t){a:El}(ha:a.length=2^h)(h0:val h t a≠q 0):∃b,cF h t a=some b∧b.length=2^h∧val h t a*val h t b=q 1:=by
 cases hi:cF h t a with
 |none=>exact absurd (og H ha hi) h0
 |some b=>exact⟨b,rfl,dz H.rl ha hi⟩
theorem Ox {h:Nat}{t:List El}(H:Rd (h+1) t){x z:R}(hx:In h t x)(hz:In (h+1) t z)(he:z*z=x):
  In h t z∧z*z=x∨∃g,In h t g∧z=g*sqrt (val h t (t.getD h []))∧g*g*val h t (t.getD h [])=x:=by
 obtain⟨p,g,hp,hg,rfl⟩:=hz.split;have H':=(H.le (Nat.le_succ h));have hr:In h t (val h t (t.getD h [])):=.of (H.rl h (by omega)).1;have e2:=he;rw[zP,H.rl.root]at e2
 have:=gI H (u:=x) (v:=q 0) ((In.mul H'.rl hp hp).add (In.mul H'.rl (In.mul H'.rl hg hg) hr)) ((In.mul H'.rl hp hg).add (In.mul H'.rl hp hg)) hx (In.rat 0) (by rw[zero_mul,add_zero];exact e2)
 rcases iZ (Hb this.2)with h0|h0
 ·right
  refine⟨g,hg,by rw[h0,zero_add],?_⟩;rw[←this.1,h0,mul_zero,zero_add]
 left
 rw[h0,zero_mul,add_zero]at he⊢;exact⟨hp,he⟩
theorem DD {h:Nat}{t:List El}(H:Rd (h+1) t){u v z:R}(hu:In h t u)(hv:In h t v)(h0:v≠q 0)(hz:In (h+1) t z)(he:z*z=u+v*sqrt (val h t (t.getD h []))):
  ∃p g,In h t p∧In h t g∧p≠q 0∧z=p+g*sqrt (val h t (t.getD h []))∧v=p*g+p*g∧p*p+g*g*val h t (t.getD h [])=u∧
   (p*p+ -(g*g*val h t (t.getD h [])))*(p*p+ -(g*g*val h t (t.getD h [])))=u*u+ -(v*v*val h t (t.getD h [])):=by
 obtain⟨p,g,hp,hg,rfl⟩:=hz.split;have H':=(H.le (Nat.le_succ h));have hr:In h t (val h t (t.getD h [])):=.of (H.rl h (by omega)).1;rw[zP,H.rl.root]at he;obtain⟨h1,h2⟩:=gI H ((In.mul H'.rl hp hp).add (In.mul H'.rl (In.mul H'.rl hg hg) hr)) ((In.mul H'.rl hp hg).add (In.mul H'.rl hp hg)) hu hv he;refine⟨p,g,hp,hg,?_,rfl,h2.symm,h1,?_⟩
 ·rintro rfl;rw[zero_mul,add_zero]at h2;exact h0 h2.symm
 rw[CM,h1,h2]
theorem JU {u v r m p g s:R}(hs:s*s=r)(hm:m*m=u*u+ -(v*v*r))(hp:p*p+p*p=u+m)(h0:p≠q 0)(hg:p*g+p*g=v):(p+g*s)*(p+g*s)=u+v*s:=by
 have e:m=p*p+p*p+ -u:=by
  rw[hp,add_comm u,add_assoc,add_neg,add_zero]
 have k:=Pz p g u r;rw[←e,hg,hm,add_neg]at k
 rcases iZ k.symm with k|k
 ·rcases iZ k with k|k
  ·exact absurd (QX k) h0
  have:p*p+g*g*r=u:=by
   have:=nZ k
   rw[neg_neg]at this;exact this
  rw[zP,hs,this,hg]
 exact absurd (j3 k) (by decide)
end Go.Tw
namespace Go.R
open Go.Re
theorem Eb (x y a b:R):(x+y)*(a*b)=(x*a)*b+(y*b)*a:=by
 induction x using ind with|h x=>induction y using ind with|h y=>induction a using ind with|h a=>induction b using ind with|h b=>
 exact pt fun n=>by simp only[Sq.add,Sq.mul];grind
theorem iV (x y a b:R):(x*y)*(a*b)=(x*a)*(y*b):=by
 induction x using ind with|h x=>induction y using ind with|h y=>induction a using ind with|h a=>induction b using ind with|h b=>
 exact pt fun n=>by simp only[Sq.mul];grind
theorem JO (u v a b s:R):(u+ -v*s)*(a+ -b*s)=(u*a+v*b*(s*s))+ -(u*b+v*a)*s:=by
 induction u using ind with|h u=>induction v using ind with|h v=>induction a using ind with|h a=>induction b using ind with|h b=>induction s using ind with|h s=>
 exact pt fun n=>by simp only[Sq.add,Sq.mul,Sq.neg];grind
end Go.R
namespace Go.Tw
open Go Go.R
theorem sK (x:Rat):x*(x.den:Rat)=(x.num:Rat):=by
 have h0:(x.den:Rat)≠0:=fun e=>x.den_nz (Rat.natCast_inj.1 e);have e:x=(x.num:Rat)/(x.den:Rat):=by rw[←Rat.mkRat_eq_div,Rat.mkRat_self]
 grind
theorem H8 (x:Rat):(x*x).num=x.num*x.num∧(x*x).den=x.den*x.den:=by
 rw[Rat.mul_def,Rat.normalize_eq]
 have:Nat.gcd (x.num*x.num).natAbs (x.den*x.den)=1:=by
  rw[Int.natAbs_mul];exact Nat.Coprime.mul_left (Nat.Coprime.mul_right x.reduced x.reduced) (Nat.Coprime.mul_right x.reduced x.reduced)
 constructor
 ·show _/_=_;rw[this];simp
 show _/_=_;rw[this];simp
def ab (x:Rat):Rat:=if 0≤x then x else-x
theorem Na (x:Rat):0≤ab x:=by unfold ab;split<;>grind
theorem Pc (x y:Rat):ab (x+y)≤ab x+ab y:=by unfold ab;split<;>split<;>split<;>grind
theorem OI (x:Rat):ab (-x)=ab x:=by unfold ab;split<;>split<;>grind
theorem Jv (x y:Rat):ab (x*y)=ab x*ab y:=by
 unfold ab
 by_cases hx:0≤x<;>by_cases hy:0≤y
 ·rw[if_pos hx,if_pos hy,if_pos (Rat.mul_nonneg hx hy)]
 ·rw[if_pos hx,if_neg hy]
  have:=Rat.mul_nonneg (a:=x) (b:= -y) hx (by grind)
  split<;>grind
 ·rw[if_neg hx,if_pos hy]
  have:=Rat.mul_nonneg (a:= -x) (b:=y) (by grind) hy
  split<;>grind
 rw[if_neg hx,if_neg hy]
 have:=Rat.mul_nonneg (a:= -x) (b:= -y) (by grind) (by grind)
 rw[if_pos (by grind)];grind
def cH:Nat→(Nat→Nat)→El→Rat
 |0,_,a=>ab (a.getD 0 0)
 |h+1,w,a=>cH h w (a.take (2^h))+cH h w (a.drop (2^h))*(w h:Rat)
theorem bV {h:Nat}{w:Nat→Nat}:∀{a:El},0≤cH h w a:=by
 induction h with
 |zero=>intro a;exact Na _
 |succ h ih=>intro a;rw[cH];exact Rat.add_nonneg ih (Rat.mul_nonneg ih Rat.natCast_nonneg)
theorem jb {h:Nat}{w:Nat→Nat}{a b:El}(ha:a.length=2^h):cH (h+1) w (a++b)=cH h w a+cH h w b*(w h:Rat):=by
 rw[cH,List.take_append_of_le_length (by omega),List.take_of_length_le (by omega),List.drop_append_of_le_length (by omega),List.drop_of_length_le (by omega),List.nil_append]
theorem pK {h:Nat}{w:Nat→Nat}:∀{a:El},a.length=2^h→cH h w (aH a)=cH h w a:=by
 induction h with
 |zero=>
  intro a ha;obtain⟨x,rfl⟩:=bw ha;exact OI x
 |succ h ih=>
  intro a ha;have e1:(aH a).take (2^h)=aH (a.take (2^h)):=List.map_take.symm;have e2:(aH a).drop (2^h)=aH (a.drop (2^h)):=List.map_drop.symm;rw[cH,e1,e2,ih (ai ha),ih (ah ha),cH]
theorem p6 {h:Nat}{w:Nat→Nat}:∀{a b:El},a.length=2^h→b.length=2^h→cH h w (aC a b)≤cH h w a+cH h w b:=by
 induction h with
 |zero=>
  intro a b ha hb;obtain⟨x,rfl⟩:=bw ha;obtain⟨y,rfl⟩:=bw hb;exact Pc x y
 |succ h ih=>
  intro a b ha hb;have e1:(aC a b).take (2^h)=aC (a.take (2^h)) (b.take (2^h)):=List.take_zipWith;have e2:(aC a b).drop (2^h)=aC (a.drop (2^h)) (b.drop (2^h)):=List.drop_zipWith;have h1:=ih (ai ha) (ai hb);have h2:=ih (ah ha) (ah hb);rw[cH,e1,e2,cH,cH];have hw:(0:Rat)≤w h:=Rat.natCast_nonneg;have h3:=Rat.mul_le_mul_of_nonneg_right h2 hw;rw[Rat.add_mul]at h3
  grind
theorem kM {h:Nat}{w:Nat→Nat}:cH h w (zE (2^h))=0:=by
 induction h with
 |zero=>rfl
 |succ h ih=>rw[cH,pR,pD,ih];grind
theorem gU {h:Nat}{w:Nat→Nat}{x:Rat}:cH h w (aU h x)=ab x:=by
 induction h with
 |zero=>rfl
 |succ h ih=>rw[vW,jb aA,ih,kM];grind
def Wt (h:Nat)(z:List El)(w:Nat→Nat):Prop:=∀i,i<h→1≤w i∧cH i w (z.getD i [])≤(w i:Rat)*(w i:Rat)
theorem Wt.le {h k:Nat}{z:List El}{w:Nat→Nat}(H:Wt h z w)(hk:k≤h):Wt k z w:=fun i hi=>H i (by omega)
theorem Ct {a b c d:Rat}(ha:0≤a)(hd:0≤d)(h:a≤c)(k:b≤d):a*b≤c*d:=
 Rat.le_trans (Rat.mul_le_mul_of_nonneg_left k ha) (Rat.mul_le_mul_of_nonneg_right h hd)
theorem dP {h:Nat}{z:List El}{w:Nat→Nat}:∀(_:Wt h z w) (_:Rl h z) {a b:El},a.length=2^h→b.length=2^h→cH h w (aj h z a b)≤cH h w a*cH h w b:=by
 induction h with
 |zero=>
  intro _ _ a b ha hb;obtain⟨x,rfl⟩:=bw ha;obtain⟨y,rfl⟩:=bw hb;show ab (x*y)≤ab x*ab y;rw[Jv];exact Rat.le_refl
 |succ h ih=>
  intro W L a b ha hb;have W':=W.le (Nat.le_succ h);have L':=L.le (Nat.le_succ h);obtain⟨Yh,XL⟩:=W h (by omega);have hr:=(L h (by omega)).1;have g1:=ih W' L' (ai ha) (ai hb);have g2:=ih W' L' (ah ha) (ah hb);have g3:=ih W' L' (ai ha) (ah hb);have g4:=ih W' L' (ah ha) (ai hb);have g5:=ih W' L' (a:=aj h z (a.drop (2^h)) (b.drop (2^h))) aa hr;have k1:=p6 (w:=w) (a:=aj h z (a.take (2^h)) (b.take (2^h))) (b:=aj h z (aj h z (a.drop (2^h)) (b.drop (2^h))) (z.getD h [])) aa aa;have k2:=p6 (w:=w) (a:=aj h z (a.take (2^h)) (b.drop (2^h))) (b:=aj h z (a.drop (2^h)) (b.take (2^h))) aa aa;rw[aj,jb (ar aa aa),cH,cH];have n1:0≤cH h w (a.take (2^h)):=bV;have n2:0≤cH h w (a.drop (2^h)):=bV;have n3:0≤cH h w (b.take (2^h)):=bV;have n4:0≤cH h w (b.drop (2^h)):=bV;have n5:0≤cH h w (aj h z (a.drop (2^h)) (b.drop (2^h))):=bV;have n6:0≤cH h w (z.getD h []):=bV;have hw:(0:Rat)≤w h:=Rat.natCast_nonneg;have m5:=Ct n5 (Rat.mul_nonneg hw hw) g2 XL;have m6:=Rat.mul_le_mul_of_nonneg_right k2 hw;have m7:=Rat.mul_le_mul_of_nonneg_right g3 hw;have m8:=Rat.mul_le_mul_of_nonneg_right g4 hw
  grind
def rY (x:Rat):Prop:=∃n:Int,x=(n:Rat)
theorem rY.add {x y:Rat}(h:rY x)(k:rY y):rY (x+y):=by
 obtain⟨m,rfl⟩:=h;obtain⟨n,rfl⟩:=k;exact⟨m+n,(Rat.intCast_add m n).symm⟩
theorem rY.mul {x y:Rat}(h:rY x)(k:rY y):rY (x*y):=by
 obtain⟨m,rfl⟩:=h;obtain⟨n,rfl⟩:=k;exact⟨m*n,(Rat.intCast_mul m n).symm⟩
theorem rY.neg {x:Rat}(h:rY x):rY (-x):=by
 obtain⟨m,rfl⟩:=h;exact⟨-m,(Rat.intCast_neg m).symm⟩
theorem rY.zero:rY 0:=⟨0,rfl⟩
def bf (a:El):Prop:=∀x∈a,rY x
theorem bf.take {a:El}(h:bf a)(n:Nat):bf (a.take n):=fun x hx=>h x (List.mem_of_mem_take hx)
theorem bf.drop {a:El}(h:bf a)(n:Nat):bf (a.drop n):=fun x hx=>h x (List.mem_of_mem_drop hx)
theorem bf.app {a b:El}(h:bf a)(k:bf b):bf (a++b):=fun x hx=>by
 rcases List.mem_append.1 hx with hx|hx
 ·exact h x hx
 exact k x hx
theorem bf.neg {a:El}(h:bf a):bf (aH a):=fun x hx=>by
 obtain⟨y,hy,rfl⟩:=List.mem_map.1 hx;exact(h y hy).neg
theorem bf.add:∀{a b:El},bf a→bf b→bf (aC a b)
 |[],b,_,_=>by intro x hx;cases b<;>cases hx
 |x::a,[],_,_=>by intro y hy;cases hy
 |x::a,y::b,h,k=>by
  intro u hu;have hu:u=x+y∨u∈aC a b:=List.mem_cons.1 hu
  rcases hu with rfl|hu
  ·exact(h x (by simp)).add (k y (by simp))
  exact bf.add (fun v hv=>h v (by simp[hv])) (fun v hv=>k v (by simp[hv])) u hu
theorem bf.get {a:El}(h:bf a)(i:Nat):rY (a.getD i 0):=by
 rw[X7]
 cases e:a[i]? with
 |none=>exact rY.zero
 |some x=>exact h x (List.mem_of_getElem? e)
def Fl (h:Nat)(z:List El):Prop:=∀i,i<h→bf (z.getD i [])
theorem Fl.le {h k:Nat}{z:List El}(H:Fl h z)(hk:k≤h):Fl k z:=fun i hi=>H i (by omega)
theorem bf.mul {h:Nat}{z:List El}:∀(_:Fl h z) {a b:El},bf a→bf b→bf (aj h z a b):=by
 induction h with
 |zero=>
  intro _ a b ha hb x hx;rw[aj,List.mem_singleton]at hx;subst hx;exact(ha.get 0).mul (hb.get 0)
 |succ h ih=>
  intro T a b ha hb;have T':=T.le (Nat.le_succ h);rw[aj];exact bf.app (bf.add (ih T' (ha.take _) (hb.take _)) (ih T' (ih T' (ha.drop _) (hb.drop _)) (T h (by omega))))
   (bf.add (ih T' (ha.take _) (hb.drop _)) (ih T' (ha.drop _) (hb.take _)))
theorem bf.zero {n:Nat}:bf (zE n):=fun x hx=>by
 rw[List.eq_of_mem_replicate hx];exact rY.zero
theorem bf.rat {h:Nat}{x:Rat}(hx:rY x):bf (aU h x):=fun y hy=>by
 rcases List.mem_cons.1 hy with rfl|hy
 ·exact hx
 exact bf.zero y hy
structure Zt (h:Nat) (z:List El) (w:Nat→Nat):Prop where
 rd:Rd h z
 int:Fl h z
 wt:Wt h z w
theorem Zt.le {h k:Nat}{z:List El}{w:Nat→Nat}(H:Zt h z w)(hk:k≤h):Zt k z w:=⟨H.rd.le hk,H.int.le hk,H.wt.le hk⟩
def p2 (H:Nat):Rat:=((2^H:Nat):Rat)
theorem oV (H K:Nat):p2 (H+K)=p2 H*p2 K:=by unfold p2;rw[Nat.pow_add,Rat.natCast_mul]
theorem IC (H:Nat):0≤p2 H:=Rat.natCast_nonneg
theorem gT {H K:Nat}(h:H≤K):p2 H≤p2 K:=Rat.natCast_le_natCast.2 (O3 (by decide) h)
theorem yl:p2 1=2:=rfl
theorem KV:p2 0=1:=rfl
theorem G3 (H:Nat):1≤p2 H:=by rw[←KV];exact gT (O2 _)
theorem dS {a b:Rat}{H K:Nat}(ha:0≤a)(h:a≤p2 H)(k:b≤p2 K):a*b≤p2 (H+K):=by
 rw[oV];exact Ct ha (IC _) h k
def Ht (h:Nat)(z:List El)(w:Nat→Nat)(x:R)(H:Nat):Prop:=
 ∃P Q:El,P.length=2^h∧Q.length=2^h∧bf P∧bf Q∧val h z Q≠q 0∧x*val h z Q=val h z P∧cH h w P≤p2 H∧cH h w Q≤p2 H
section
variable {h:Nat}{z:List El}{w:Nat→Nat}
theorem Ht.mono {x:R}{H K:Nat}(hx:Ht h z w x H)(hk:H≤K):Ht h z w x K:=by
 obtain⟨P,Q,hP,hQ,iP,iQ,h0,he,nP,nQ⟩:=hx;exact⟨P,Q,hP,hQ,iP,iQ,h0,he,Rat.le_trans nP (gT hk),Rat.le_trans nQ (gT hk)⟩
theorem Ht.add (Z:Zt h z w){x y:R}{H K:Nat}(hx:Ht h z w x H)(hy:Ht h z w y K):Ht h z w (x+y) (H+K+1):=by
 obtain⟨P,Q,hP,hQ,iP,iQ,h0,he,nP,nQ⟩:=hx;obtain⟨S,T,hS,hT,iS,iT,k0,ke,nS,nT⟩:=hy;have m1:=dP Z.wt Z.rd.rl hP hT;have m2:=dP Z.wt Z.rd.rl hS hQ;have m3:=dP Z.wt Z.rd.rl hQ hT;have m4:=p6 (w:=w) (a:=aj h z P T) (b:=aj h z S Q) aa aa;have b1:=dS bV nP nT;have b2:=dS bV nS nQ;have b3:=dS bV nQ nT;rw[Nat.add_comm K H]at b2;refine⟨aC (aj h z P T) (aj h z S Q),aj h z Q T,ar aa aa,aa,bf.add (bf.mul Z.int iP iT) (bf.mul Z.int iS iQ),bf.mul Z.int iQ iT,?_,?_,?_,?_⟩
 ·rw[val_mul Z.rd.rl hQ hT];exact pe h0 k0
 ·rw[val_mul Z.rd.rl hQ hT,val_add aa aa,val_mul Z.rd.rl hP hT,val_mul Z.rd.rl hS hQ,Eb,he,ke]
 ·rw[oV _ 1,yl];grind
 rw[oV _ 1,yl];have:=IC (H+K);grind
theorem Ht.mul (Z:Zt h z w){x y:R}{H K:Nat}(hx:Ht h z w x H)(hy:Ht h z w y K):Ht h z w (x*y) (H+K):=by
 obtain⟨P,Q,hP,hQ,iP,iQ,h0,he,nP,nQ⟩:=hx;obtain⟨S,T,hS,hT,iS,iT,k0,ke,nS,nT⟩:=hy;have m1:=dP Z.wt Z.rd.rl hP hS;have m3:=dP Z.wt Z.rd.rl hQ hT;have b1:=dS bV nP nS;have b3:=dS bV nQ nT;refine⟨aj h z P S,aj h z Q T,aa,aa,bf.mul Z.int iP iS,bf.mul Z.int iQ iT,?_,?_,Rat.le_trans m1 b1,Rat.le_trans m3 b3⟩
 ·rw[val_mul Z.rd.rl hQ hT];exact pe h0 k0
 rw[val_mul Z.rd.rl hQ hT,val_mul Z.rd.rl hP hS,iV,he,ke]
theorem Ht.neg {x:R}{H:Nat}(hx:Ht h z w x H):Ht h z w (-x) H:=by
 obtain⟨P,Q,hP,hQ,iP,iQ,h0,he,nP,nQ⟩:=hx;exact⟨aH P,Q,by rw[au,hP],hQ,iP.neg,iQ,h0,by rw[neg_mul,he,val_neg hP],by rw[pK hP];exact nP,nQ⟩
theorem Ht.inv {x y:R}{H:Nat}(hx:Ht h z w x H)(h1:x*y=q 1):Ht h z w y H:=by
 obtain⟨P,Q,hP,hQ,iP,iQ,h0,he,nP,nQ⟩:=hx;refine⟨Q,P,hQ,hP,iQ,iP,?_,?_,nQ,nP⟩
 ·rw[←he];refine pe ?_ h0;intro e;rw[e,zero_mul]at h1;exact iD h1.symm
 rw[←he,←mul_assoc,mul_comm y,h1,one_mul]
theorem Ht.rat {x:Rat}{H:Nat}(h1:x.num.natAbs≤2^H)(h2:x.den≤2^H):Ht h z w (q x) H:=by
 have hd:(x.den:Rat)≠0:=fun e=>x.den_nz (Rat.natCast_inj.1 e);refine⟨aU h (x.num:Rat),aU h (x.den:Rat),aA,aA,bf.rat ⟨_,rfl⟩,bf.rat ⟨(x.den:Int),(Rat.intCast_natCast _).symm⟩,?_,?_,?_,?_⟩
 ·rw[bx];exact fun e=>hd (j3 e)
 ·rw[bx,bx,←dg,sK]
 ·rw[gU];unfold ab p2
  have:((x.num.natAbs:Nat):Rat)≤((2^H:Nat):Rat):=Rat.natCast_le_natCast.2 h1
  refine Rat.le_trans ?_ this;rw[←Rat.intCast_natCast]
  split
  ·exact Rat.intCast_le_intCast.2 (by omega)
  rw[←Rat.intCast_neg];exact Rat.intCast_le_intCast.2 (by omega)
 rw[gU];unfold ab p2;rw[if_pos Rat.natCast_nonneg];exact Rat.natCast_le_natCast.2 h2
theorem Ht.up {x:R}{H:Nat}(hx:Ht h z w x H):Ht (h+1) z w x H:=by
 obtain⟨P,Q,hP,hQ,iP,iQ,h0,he,nP,nQ⟩:=hx;have e:∀A:El,A.length=2^h→cH (h+1) w (A++zE (2^h))=cH h w A:=fun A hA=>by rw[jb hA,kM];grind
 refine⟨P++zE (2^h),Q++zE (2^h),?_,?_,iP.app bf.zero,iQ.app bf.zero,by rw[kD hQ];exact h0,by rw[kD hQ,kD hP];exact he,by rw[e P hP];exact nP,by rw[e Q hQ];exact nQ⟩
 ·rw[X6,hP,av,O4];omega
 rw[X6,hQ,av,O4];omega
theorem Ht.le {k:Nat}{x:R}{H:Nat}(hx:Ht h z w x H)(hk:h≤k):Ht k z w x H:=by
 obtain⟨d,rfl⟩:=Nat.exists_eq_add_of_le hk;clear hk
 induction d with
 |zero=>exact hx
 |succ d ih=>exact ih.up
theorem Ht.root {H:Nat}(hw:w h≤2^H):Ht (h+1) z w (sqrt (val h z (z.getD h []))) H:=by
 refine⟨zE (2^h)++aU h 1,aU (h+1) 1,?_,aA,bf.zero.app (bf.rat ⟨1,rfl⟩),bf.rat ⟨1,rfl⟩,?_,?_,?_,?_⟩
 ·rw[X6,av,aA,O4];omega
 ·rw[bx];exact iD
 ·rw[bx,mul_one,ft av,val_zero,bx,one_mul,zero_add]
 ·rw[jb av,kM,gU]
  have:(w h:Rat)≤p2 H:=Rat.natCast_le_natCast.2 hw
  have e:ab 1=1:=rfl;rw[e];grind
 rw[gU];exact G3 H
end
end Go.Tw
namespace Go.Tw
open Go Go.R
def rK (h:Nat)(a:El):El:=a.take (2^h)++aH (a.drop (2^h))
theorem pz {h:Nat}{a:El}(ha:a.length=2^(h+1)):(rK h a).length=2^(h+1):=by
 unfold rK;rw[X6,au,ai ha,ah ha,O4];omega
theorem AP {h:Nat}{a:El}(ha:bf a):bf (rK h a):=(ha.take _).app (ha.drop _).neg
section
variable {h:Nat}{z:List El}{w:Nat→Nat}
theorem qp {a:El}(ha:a.length=2^(h+1)):val (h+1) z (rK h a)=val h z (a.take (2^h))+ -val h z (a.drop (2^h))*sqrt (val h z (z.getD h [])):=by
 unfold rK;rw[ft (ai ha),val_neg (ah ha)]
theorem zJ {a:El}(ha:a.length=2^(h+1)):cH (h+1) w (rK h a)=cH (h+1) w a:=by
 unfold rK;rw[jb (ai ha),pK (ah ha),cH]
theorem nG (W:Wt (h+1) z w)(L:Rl (h+1) z){a:El}(ha:a.length=2^(h+1)):cH h w (aO h z a)≤cH (h+1) w a*cH (h+1) w a:=by
 have W':=W.le (Nat.le_succ h);have L':=L.le (Nat.le_succ h);obtain⟨Yh,XL⟩:=W h (by omega);have hr:=(L h (by omega)).1;have g1:=dP W' L' (ai ha) (ai ha);have g2:=dP W' L' (ah ha) (ah ha);have g5:=dP W' L' (a:=aj h z (a.drop (2^h)) (a.drop (2^h))) aa hr;have k1:=p6 (w:=w) (a:=aj h z (a.take (2^h)) (a.take (2^h))) (b:=aH (aj h z (aj h z (a.drop (2^h)) (a.drop (2^h))) (z.getD h []))) aa (by rw[au,aa]);rw[pK aa]at k1;unfold aO;rw[cH];have n1:0≤cH h w (a.take (2^h)):=bV;have n2:0≤cH h w (a.drop (2^h)):=bV;have n5:0≤cH h w (aj h z (a.drop (2^h)) (a.drop (2^h))):=bV;have hw:(0:Rat)≤w h:=Rat.natCast_nonneg;have m5:=Ct n5 (Rat.mul_nonneg hw hw) g2 XL;have m6:=Rat.mul_nonneg (Rat.mul_nonneg n1 n2) hw
 grind
theorem nO (T:Fl (h+1) z){a:El}(ha:bf a):bf (aO h z a):=by
 have T':=T.le (Nat.le_succ h);unfold aO;exact bf.add (bf.mul T' (ha.take _) (ha.take _)) (bf.neg (bf.mul T' (bf.mul T' (ha.drop _) (ha.drop _)) (T h (by omega))))
theorem x9 {a:El}:cH h w (a.take (2^h))≤cH (h+1) w a:=by
 rw[cH];have n2:0≤cH h w (a.drop (2^h)):=bV;have hw:(0:Rat)≤w h:=Rat.natCast_nonneg
 have:=Rat.mul_nonneg n2 hw
 grind
theorem DO (W:Wt (h+1) z w){a:El}:cH h w (a.drop (2^h))≤cH (h+1) w a:=by
 rw[cH];have n1:0≤cH h w (a.take (2^h)):=bV;have n2:0≤cH h w (a.drop (2^h)):=bV;have hw:(1:Rat)≤w h:=Rat.natCast_le_natCast.2 (W h (by omega)).1
 have:=Rat.mul_le_mul_of_nonneg_left hw n2
 grind
theorem jA (L:Rl (h+1) z){a:El}(ha:a.length=2^(h+1)):val (h+1) z a*val (h+1) z (rK h a)=val h z (aO h z a):=by
 rw[qp ha,eG L ha,←pq,val,sub_def,neg_mul]
theorem zB (R:Rd (h+1) z){a:El}(ha:a.length=2^(h+1))(h0:val (h+1) z a≠q 0):val h z (aO h z a)≠q 0:=by
 rw[←jA R.rl ha];refine pe h0 fun e=>h0 ?_;rw[qp ha]at e
 have:=o9 R (.of (ai ha)) (In.of (ah ha)).neg e
 have e2:=congrArg (- ·) this.2;simp only[neg_neg,jK]at e2;rw[val,this.1,e2,zero_mul,add_zero]
theorem Ht.split (Z:Zt (h+1) z w){u v:R}{H:Nat}(hu:In h z u)(hv:In h z v)(hx:Ht (h+1) z w (u+v*sqrt (val h z (z.getD h []))) H):
  Ht h z w u (2*H)∧Ht h z w v (2*H)∧Ht h z w (u*u+ -(v*v*val h z (z.getD h []))) (2*H):=by
 obtain⟨P,Q,hP,hQ,iP,iQ,h0,he,nP,nQ⟩:=hx;have L:=Z.rd.rl;have Z':=Z.le (Nat.le_succ h);have e2:2*H=H+H:=by omega
 have hN0:=zB Z.rd hQ h0;have hNn:cH h w (aO h z Q)≤p2 (2*H):=by
  rw[e2];exact Rat.le_trans (nG Z.wt L hQ) (dS bV nQ nQ)
 have hNi:=nO Z.int iQ
 -- the numerator times the conjugate of the denominator
 have hM:(aj (h+1) z P (rK h Q)).length=2^(h+1):=aa;have hMi:bf (aj (h+1) z P (rK h Q)):=bf.mul Z.int iP (AP iQ);have hMn:cH (h+1) w (aj (h+1) z P (rK h Q))≤p2 (2*H):=by
  rw[e2];refine Rat.le_trans (dP Z.wt L hP (pz hQ)) (dS bV nP ?_);rw[zJ hQ];exact nQ
 have hMv:val (h+1) z (aj (h+1) z P (rK h Q))=(u+v*sqrt (val h z (z.getD h [])))*val h z (aO h z Q):=by
  rw[val_mul L hP (pz hQ),←he,mul_assoc,jA L hQ]
 rw[add_mul,mul_assoc v,mul_comm (sqrt _),←mul_assoc v]at hMv;obtain⟨s1,s2⟩:=gI Z.rd (.of (ai hM)) (.of (ah hM)) (In.mul Z'.rd.rl hu (.of aJ)) (In.mul Z'.rd.rl hv (.of aJ)) hMv;refine⟨⟨_,_,ai hM,aJ,hMi.take _,hNi,hN0,s1.symm,Rat.le_trans x9 hMn,hNn⟩,
  ⟨_,_,ah hM,aJ,hMi.drop _,hNi,hN0,s2.symm,Rat.le_trans (DO Z.wt) hMn,hNn⟩,?_⟩
 refine⟨aO h z P,aO h z Q,aJ,aJ,nO Z.int iP,hNi,hN0,?_,?_,hNn⟩
 ·-- conjugates of both sides
  have hr:=L.root;have hn:=pq u v (sqrt (val h z (z.getD h [])));rw[hr,sub_def,←neg_mul]at hn;rw[←jA L hP,←jA L hQ,qp hP,qp hQ,←he,←hn];have ZI:(u+v*sqrt (val h z (z.getD h [])))*(val h z (Q.take (2^h))+val h z (Q.drop (2^h))*sqrt (val h z (z.getD h [])))=val h z (P.take (2^h))+val h z (P.drop (2^h))*sqrt (val h z (z.getD h [])):=he;rw[Ji,hr]at ZI;obtain⟨c1,c2⟩:=gI Z.rd ((In.mul Z'.rd.rl hu (.of (ai hQ))).add (In.mul Z'.rd.rl (In.mul Z'.rd.rl hv (.of (ah hQ))) (.of (L h (by omega)).1))) ((In.mul Z'.rd.rl hu (.of (ah hQ))).add (In.mul Z'.rd.rl hv (.of (ai hQ)))) (.of (ai hP)) (.of (ah hP)) ZI;have hc:=JO u v (val h z (Q.take (2^h))) (val h z (Q.drop (2^h))) (sqrt (val h z (z.getD h [])));rw[hr,c1,c2]at hc;rw[iV,hc]
 rw[e2];exact Rat.le_trans (nG Z.wt L hP) (dS bV nP nP)
theorem rY.Dj {x:Rat}{n:Int}{H:Nat}(h:x=(n:Rat))(k:ab x≤p2 H):n.natAbs≤2^H:=by
 subst h;unfold ab p2 at k;rw[←Rat.intCast_natCast]at k
 split at k
 ·rename_i h0
  have h0:(0:Int)≤n:=Rat.intCast_le_intCast.1 h0
  have:=Rat.intCast_le_intCast.1 k
  omega
 rename_i h0
 have h0:¬(0:Int)≤n:=fun e=>h0 (Rat.intCast_le_intCast.2 e);rw[←Rat.intCast_neg]at k
 have:=Rat.intCast_le_intCast.1 k
 omega
theorem Ht.zero {x:Rat}{H:Nat}(hx:Ht 0 z w (q x) H):x.num.natAbs≤2^H∧x.den≤2^H:=by
 obtain⟨P,Q,hP,hQ,iP,iQ,h0,he,nP,nQ⟩:=hx;obtain⟨a,rfl⟩:=bw hP;obtain⟨b,rfl⟩:=bw hQ;obtain⟨m,hm⟩:=iP a (by simp);obtain⟨n,hn⟩:=iQ b (by simp);have k1:m.natAbs≤2^H:=rY.Dj hm nP;have k2:n.natAbs≤2^H:=rY.Dj hn nQ;have he:q x*q b=q a:=he;rw[←dg]at he;have he:=j3 he;have hb:b≠0:=fun e=>h0 (by show q b=q 0;rw[e]);subst hm;subst hn;have e1:((x.num*n:Int):Rat)=((m*x.den:Int):Rat):=by
  have:=sK x
  rw[Rat.intCast_mul,Rat.intCast_mul,←he,←this,Rat.intCast_natCast];grind
 have e2:x.num*n=m*x.den:=Rat.intCast_inj.1 e1;have n0:n≠0:=fun e=>hb (by rw[e];rfl);have e3:x.num.natAbs*n.natAbs=m.natAbs*x.den:=by
  have:=congrArg Int.natAbs e2
  rwa [Int.natAbs_mul,Int.natAbs_mul,Int.natAbs_natCast]at this
 have d1:x.den∣n.natAbs:=Nat.Coprime.dvd_of_dvd_mul_left x.reduced.symm ⟨m.natAbs,by rw[e3,O6]⟩;have Zx:0<n.natAbs:=Int.natAbs_pos.2 n0;have d2:=Nat.le_of_dvd Zx d1;refine⟨?_,by omega⟩
 by_cases m0:m.natAbs=0
 ·have:x.num.natAbs*n.natAbs=0:=by rw[e3,m0,Nat.zero_mul]
  rcases Nat.mul_eq_zero.1 this with h|h
  ·omega
  omega
 have d3:x.num.natAbs∣m.natAbs:=Nat.Coprime.dvd_of_dvd_mul_right x.reduced ⟨n.natAbs,e3.symm⟩;exact O0 (Nat.le_of_dvd (by omega) d3) k1
end
structure Lk (h:Nat) (t z:List El) (d:Nat→Nat):Prop where
 d0:∀i,i<h→0<d i
 v:∀i,i<h→val i z (z.getD i [])=q ((d i:Rat)*(d i:Rat))*val i t (t.getD i [])
theorem Lk.le {h k:Nat}{t z:List El}{d:Nat→Nat}(H:Lk h t z d)(hk:k≤h):Lk k t z d:=⟨fun i hi=>H.d0 i (by omega),fun i hi=>H.v i (by omega)⟩
theorem qH {n:Nat}(h:0<n):pos (q (n:Rat)):=uD.2 (Rat.natCast_pos.2 h)
theorem Lk.root {h:Nat}{t z:List El}{d:Nat→Nat}(H:Lk (h+1) t z d)(L:Rl (h+1) t):sqrt (val h z (z.getD h []))=q (d h:Rat)*sqrt (val h t (t.getD h [])):=by
 have hd:=qH (H.d0 h (by omega));have hs:=AF (L h (by omega)).2;rw[H.v h (by omega),dg]
 have:q ↑(d h)*q ↑(d h)*val h t (t.getD h [])=(q (d h:Rat)*sqrt (val h t (t.getD h [])))*(q (d h:Rat)*sqrt (val h t (t.getD h []))):=by
  rw[iV,L.root]
 rw[this];exact qF (bu.2 (.inr (dI hd hs)))
theorem mZ {n:Nat}(h:0<n):q (n:Rat)*q ((n:Rat)⁻¹)=q 1:=by
 rw[←dg,Rat.mul_inv_cancel]
 exact fun e=>by have:=Rat.natCast_inj (a:=n) (b:=0)|>.1 e;omega
theorem Lk.eK {t z:List El}{d:Nat→Nat}{h:Nat}:∀(_:Lk h t z d) (_:Rl h t) (x:R),In h t x↔In h z x:=by
 induction h with
 |zero=>intro _ _ x;exact Iff.rfl
 |succ h ih=>
  intro H L x;have ih:=ih (H.le (Nat.le_succ h)) (L.le (Nat.le_succ h));have hr:=H.root L;have hd:=mZ (H.d0 h (by omega))
  constructor
  ·intro hx;obtain⟨u,v,hu,hv,rfl⟩:=hx.split
   have:u+v*sqrt (val h t (t.getD h []))=u+v*q ((d h:Rat)⁻¹)*sqrt (val h z (z.getD h [])):=by
    rw[hr,mul_assoc v,←mul_assoc (q _),mul_comm (q ((d h:Rat)⁻¹)),hd,one_mul]
   rw[this];obtain⟨a,ha,e⟩:=(ih _).1 hv;refine In.join ((ih _).1 hu) ?_;have hm:In h z (v*q ((d h:Rat)⁻¹)):=by
    rw[←e];refine⟨a.map (· *(d h:Rat)⁻¹),by rw[List.length_map,ha],?_⟩;have key:∀{k:Nat} {a:El} {c:Rat},a.length=2^k→val k z (a.map (· *c))=val k z a*q c:=by
     intro k
     induction k with
     |zero=>
      intro a c ha;obtain⟨x,rfl⟩:=bw ha;exact dg x c
     |succ k ihk=>
      intro a c ha;rw[val,←List.map_take,←List.map_drop,ihk (ai ha),ihk (ah ha),val,add_mul,mul_assoc,mul_assoc,mul_comm (q c)]
    exact key ha
   exact hm
  intro hx;obtain⟨u,v,hu,hv,rfl⟩:=hx.split;rw[hr,←mul_assoc];exact In.join ((ih _).2 hu) (In.mul (L.le (Nat.le_succ h)) ((ih _).2 hv) (In.rat _))
theorem BN {t z:List El}{d w:Nat→Nat}{E:Nat}{h:Nat}:∀(_:Lk h t z d) (_:Rl h t) (_:Zt h z w) (_:∀i,i<h→d i≤2^E) {a:El} {H:Nat},a.length=2^h→Ht h z w (val h t a) H→
  ∀c∈a,c.num.natAbs≤2^(2^h*(H+E))∧c.den≤2^(2^h*(H+E)):=by
 induction h with
 |zero=>
  intro _ _ _ _ a H ha hx c hc;obtain⟨x,rfl⟩:=bw ha;rw[List.mem_singleton]at hc;subst hc
  have:=hx.zero
  have e:2^H≤2^(2^0*(H+E)):=O3 (by decide) (by omega);exact⟨O0 this.1 e,O0 this.2 e⟩
 |succ h ih=>
  intro K L Z hE a H ha hx c hc;have K':=K.le (Nat.le_succ h);have L':=L.le (Nat.le_succ h);have Z':=Z.le (Nat.le_succ h);have hr:=K.root L;have hd:=mZ (K.d0 h (by omega));have hu:In h t (val h t (a.take (2^h))):=.of (ai ha);have hv:In h t (val h t (a.drop (2^h))*q ((d h:Rat)⁻¹)):=In.mul L' (.of (ah ha)) (In.rat _);have e:val (h+1) t a=val h t (a.take (2^h))+val h t (a.drop (2^h))*q ((d h:Rat)⁻¹)*sqrt (val h z (z.getD h [])):=by
   rw[hr,mul_assoc (val h t _),←mul_assoc (q _),mul_comm (q ((d h:Rat)⁻¹)),hd,one_mul];rfl
  rw[e]at hx;obtain⟨k1,k2,_⟩:=Ht.split Z ((K'.eK L' _).1 hu) ((K'.eK L' _).1 hv) hx;have TP:Ht h z w (q (d h:Rat)) E:=by
   refine Ht.rat ?_ ?_
   ·rw[Rat.num_natCast,Int.natAbs_natCast];exact hE h (by omega)
   rw[Rat.den_natCast];exact Nat.one_le_two_pow
  have k3:=k2.mul Z' TP;rw[mul_assoc,mul_comm (q _),hd,mul_one]at k3;have hm:2^h*(2*H+E+E)=2^(h+1)*(H+E):=by
   rw[O4,Nat.mul_assoc];congr 1;omega
  rw[←List.take_append_drop (2^h) a,List.mem_append]at hc
  rcases hc with hc|hc
  ·have:=ih K' L' Z' (fun i hi=>hE i (by omega)) (ai ha) (k1.mono (Nat.le_add_right _ E)) c hc
   rwa [hm]at this
  have:=ih K' L' Z' (fun i hi=>hE i (by omega)) (ah ha) k3 c hc
  rwa [hm]at this
end Go.Tw
namespace Go.Tw
open Go Go.R
theorem val_congr {t z:List El}{h:Nat}:∀(_:∀i,i<h→t.getD i []=z.getD i []) (a:El),val h t a=val h z a:=by
 induction h with
 |zero=>intro _ a;rfl
 |succ h ih=>
  intro H a;have ih:=ih (fun i hi=>H i (by omega));rw[val,val,ih,ih,H h (by omega),ih]
theorem Rd.congr {t z:List El}{h:Nat}(e:∀i,i<h→t.getD i []=z.getD i [])(H:Rd h t):Rd h z:=by
 have ev:∀i,i≤h→∀a,val i t a=val i z a:=fun i hi a=>val_congr (fun j hj=>e j (by omega)) a;refine⟨fun i hi=>?_,fun i hi x hx=>?_⟩
 ·rw[←e i hi,←ev i (by omega)];exact H.rl i hi
 obtain⟨a,ha,rfl⟩:=hx;rw[←e i hi,←ev i (by omega),←ev i (by omega)];exact H.ns i hi _ (.of ha)
theorem n7 {w v:Nat→Nat}{h:Nat}:∀(_:∀i,i<h→w i=v i) (a:El),cH h w a=cH h v a:=by
 induction h with
 |zero=>intro _ a;rfl
 |succ h ih=>
  intro H a;have ih:=ih (fun i hi=>H i (by omega));rw[cH,cH,ih,ih,H h (by omega)]
section
variable {h:Nat}{z:List El}{w:Nat→Nat}
theorem Ht.in (Z:Zt h z w){x:R}{H:Nat}(hx:Ht h z w x H):In h z x:=by
 obtain⟨P,Q,hP,hQ,iP,iQ,h0,he,nP,nQ⟩:=hx;obtain⟨y,hy,hy2⟩:=In.QI Z.rd _ (.of hQ) h0
 have:x=val h z P*y:=by rw[←he,mul_assoc,hy2,mul_one]
 rw[this];exact In.mul Z.rd.rl (.of hP) hy
theorem NA:∀{h:Nat} (_:Zt h z w) {Q:El} {K:Nat},Q.length=2^h→bf Q→val h z Q≠q 0→cH h w Q≤p2 K→
  ∃(A:El) (N:Nat),A.length=2^h∧bf A∧0<N∧val h z Q*val h z A=q (N:Rat)∧cH h w A≤p2 ((2^h-1)*K)∧N≤2^(2^h*K):=by
 intro h
 induction h with
 |zero=>
  intro Z Q K hQ iQ h0 nQ;obtain⟨x,rfl⟩:=bw hQ;obtain⟨n,hn⟩:=iQ x (by simp);have k1:n.natAbs≤2^K:=rY.Dj hn nQ;have n0:n≠0:=fun e=>h0 (by show q x=q 0;rw[hn,e];rfl);have e0:p2 ((2^0-1)*K)=1:=by rw[show (2^0-1)*K=0 by simp];rfl
  have e1:(2:Nat)^(2^0*K)=2^K:=by rw[Nat.pow_zero,Nat.one_mul]
  rw[e0,e1]
  by_cases hp:0≤n
  ·refine⟨[1],n.natAbs,rfl,fun y hy=>⟨1,by rw[List.mem_singleton.1 hy];rfl⟩,by omega,?_,by show ab 1≤1;decide,k1⟩;show q x*q 1=_;rw[←dg,hn,←Rat.intCast_natCast,show ((n.natAbs:Nat):Int)=n by omega,Rat.mul_one]
  refine⟨[-1],n.natAbs,rfl,fun y hy=>⟨-1,by rw[List.mem_singleton.1 hy];rfl⟩,by omega,?_,by show ab (-1)≤1;decide,k1⟩;show q x*q (-1)=_;rw[←dg,hn,←Rat.intCast_natCast,show ((n.natAbs:Nat):Int)= -n by omega,Rat.intCast_neg]
  congr 1;grind
 |succ h ih=>
  intro Z Q K hQ iQ h0 nQ;have Z':=Z.le (Nat.le_succ h);have hNn:cH h w (aO h z Q)≤p2 (2*K):=by
   rw[show 2*K=K+K by omega];exact Rat.le_trans (nG Z.wt Z.rd.rl hQ) (dS bV nQ nQ)
  obtain⟨A,N,hA,iA,hN,he,nA,hl⟩:=ih Z' (aJ (a:=Q)) (nO Z.int iQ) (zB Z.rd hQ h0) hNn;have Yo:(A++zE (2^h)).length=2^(h+1):=by rw[X6,hA,av,O4];omega
  refine⟨aj (h+1) z (rK h Q) (A++zE (2^h)),N,aa,bf.mul Z.int (AP iQ) (iA.app bf.zero),hN,?_,?_,?_⟩
  ·rw[val_mul Z.rd.rl (pz hQ) Yo,kD hA,←mul_assoc,jA Z.rd.rl hQ,he]
  ·refine Rat.le_trans (dP Z.wt Z.rd.rl (pz hQ) Yo) ?_;have e:(2^(h+1)-1)*K=K+(2^h-1)*(2*K):=by
    have:=Nat.two_pow_pos h
    rw[O4,Nat.sub_mul,Nat.sub_mul,Nat.mul_assoc,Nat.one_mul,Nat.one_mul]
    have:2*K≤2^h*(2*K):=Nat.le_mul_of_pos_left _ this
    omega
   rw[e,zJ hQ,jb hA,kM];refine dS bV nQ ?_
   grind
  rw[O4,Nat.mul_assoc];exact hl
theorem Ht.whole (Z:Zt h z w){x:R}{K:Nat}(hx:Ht h z w x K):∃(M:El) (N:Nat),M.length=2^h∧bf M∧0<N∧x*q (N:Rat)=val h z M∧cH h w M≤p2 (2^h*K)∧N≤2^(2^h*K):=by
 obtain⟨P,Q,hP,hQ,iP,iQ,h0,he,nP,nQ⟩:=hx;obtain⟨A,N,hA,iA,hN,e,nA,hl⟩:=NA Z hQ iQ h0 nQ;refine⟨aj h z P A,N,aa,bf.mul Z.int iP iA,hN,?_,?_,hl⟩
 ·rw[←e,←mul_assoc,he,val_mul Z.rd.rl hP hA]
 refine Rat.le_trans (dP Z.wt Z.rd.rl hP hA) ?_;have e:2^h*K=K+(2^h-1)*K:=by
  have:=Nat.two_pow_pos h
  rw[Nat.sub_mul,Nat.one_mul]
  have:K≤2^h*K:=Nat.le_mul_of_pos_left _ this
  omega
 rw[e];exact dS bV nP nA
theorem M8 (Z:Zt h z w){t:List El}{d:Nat→Nat}(K:Lk h t z d)(R:Rd (h+1) t){H:Nat}{M:El}{N:Nat}(hM:M.length=2^h)(iM:bf M)(hN:0<N)(e:val h t (t.getD h [])*q (N:Rat)=val h z M)(nM:cH h w M≤p2 H)(hl:N≤2^H):
  ∃(z':List El) (w' d':Nat→Nat),(∀i,i<h→z'.getD i []=z.getD i []∧w' i=w i∧d' i=d i)∧Zt (h+1) z' w'∧Lk (h+1) t z' d'∧w' h≤2^H∧d' h≤2^H:=by
 obtain⟨B,hB⟩:∃B,B=aj h z (aU h (N:Rat)) M:=⟨_,rfl⟩;have Zl:B.length=2^h:=by rw[hB,aa]
 have hN0:rY (N:Rat):=⟨(N:Int),(Rat.intCast_natCast _).symm⟩;have hBi:bf B:=by rw[hB];exact bf.mul Z.int (bf.rat hN0) iM
 have YF:val h z B=q ((N:Rat)*(N:Rat))*val h t (t.getD h []):=by
  rw[hB,val_mul Z.rd.rl aA hM,bx,←e,dg,mul_comm (val h t _),←mul_assoc]
 have hBn:cH h w B≤p2 (H+H):=by
  rw[hB];refine Rat.le_trans (dP Z.wt Z.rd.rl aA hM) (dS bV ?_ nM);rw[gU];unfold ab p2;rw[if_pos Rat.natCast_nonneg];exact Rat.natCast_le_natCast.2 hl
 let z':List El:=(List.range h).map (fun i=>z.getD i [])++[B]
 have ez:∀i,i<h→z'.getD i []=z.getD i []:=fun i hi=>by
  show List.getD (_++_) i []=_;rw[X7,List.getElem?_append_left (by simpa using hi),List.getElem?_map,List.getElem?_range hi];rfl
 have eB:z'.getD h []=B:=by
  show List.getD (_++_) h []=_;rw[X7,List.getElem?_append_right (by simp)];simp
 let w':Nat→Nat:=fun i=>if i=h then 2^H else w i
 let d':Nat→Nat:=fun i=>if i=h then N else d i
 have ew:∀i,i<h→w' i=w i:=fun i hi=>if_neg (by omega);have ed:∀i,i<h→d' i=d i:=fun i hi=>if_neg (by omega);have ewh:w' h=2^H:=if_pos rfl;have edh:d' h=N:=if_pos rfl;have ev:∀i,i≤h→∀a,val i z' a=val i z a:=fun i hi a=>val_congr (fun j hj=>ez j (by omega)) a;have en:∀i,i≤h→∀a,cH i w' a=cH i w a:=fun i hi a=>n7 (fun j hj=>ew j (by omega)) a;have S6:pos (val h z B):=by
  rw[YF]
  have:=qH hN
  rw[dg];exact dI (dI this this) (R.rl h (by omega)).2
 have Xt:∀x,In h z x→x*x≠val h z B:=by
  intro x hx he;have hi:=mZ hN;have Xb:In h t (x*q ((N:Rat)⁻¹)):=In.mul (R.rl.le (Nat.le_succ h)) ((K.eK (R.rl.le (Nat.le_succ h)) _).2 hx) (In.rat _);refine R.ns h (by omega) _ Xb ?_;rw[iV,he,YF,dg]
  have:q (N:Rat)*q (N:Rat)*(q ((N:Rat)⁻¹)*q ((N:Rat)⁻¹))=q 1:=by rw[iV,hi,mul_one]
  rw[mul_comm (q _*q _),mul_assoc,this,mul_one]
 refine⟨z',w',d',fun i hi=>⟨ez i hi,ew i hi,ed i hi⟩,⟨⟨fun i hi=>?_,fun i hi x hx=>?_⟩,fun i hi=>?_,fun i hi=>?_⟩,⟨fun i hi=>?_,fun i hi=>?_⟩,Nat.le_of_eq ewh,by rw[edh];exact hl⟩
 ·by_cases h1:i=h
  ·subst h1;rw[eB,ev i (O1 i)];exact⟨Zl,S6⟩
  rw[ez i (by omega),ev i (by omega)];exact Z.rd.rl i (by omega)
 ·obtain⟨a,ha,rfl⟩:=hx
  by_cases h1:i=h
  ·subst h1;rw[eB,ev i (O1 i),ev i (O1 i)];exact Xt _ (.of ha)
  rw[ez i (by omega),ev i (by omega),ev i (by omega)];exact Z.rd.ns i (by omega) _ (.of ha)
 ·by_cases h1:i=h
  ·subst h1;rw[eB];exact hBi
  rw[ez i (by omega)];exact Z.int i (by omega)
 ·by_cases h1:i=h
  ·subst h1;rw[eB,en i (O1 i),ewh];refine⟨Nat.one_le_two_pow,Rat.le_trans hBn ?_⟩;rw[oV];exact Rat.le_refl
  rw[ez i (by omega),en i (by omega),ew i (by omega)];exact Z.wt i (by omega)
 ·by_cases h1:i=h
  ·subst h1;rw[edh];exact hN
  rw[ed i (by omega)];exact K.d0 i (by omega)
 by_cases h1:i=h
 ·subst h1;rw[eB,edh,ev i (O1 i)];exact YF
 rw[ez i (by omega),ed i (by omega),ev i (by omega)];exact K.v i (by omega)
theorem grow (Z:Zt h z w){t:List El}{d:Nat→Nat}(K:Lk h t z d)(R:Rd (h+1) t){H:Nat}(hx:Ht h z w (val h t (t.getD h [])) H):
  ∃(z':List El) (w' d':Nat→Nat),(∀i,i<h→z'.getD i []=z.getD i []∧w' i=w i∧d' i=d i)∧Zt (h+1) z' w'∧Lk (h+1) t z' d'∧w' h≤2^(2^h*H)∧d' h≤2^(2^h*H):=by
 obtain⟨M,N,hM,iM,hN,e,nM,hl⟩:=Ht.whole Z hx;exact M8 Z K R hM iM hN e nM hl
def rS (W:Nat):Nat→Nat→Nat
 |0,H=>(H+1)/2
 |h+1,H=>2*rS W h (2*H+rS W h (2*H)+2+2*W)+2*H+W+2
theorem lU {W h:Nat}:∀{H K:Nat},H≤K→rS W h H≤rS W h K:=by
 induction h with
 |zero=>intro H K hk;unfold rS;omega
 |succ h ih=>
  intro H K hk;have h1:=ih (H:=2*H) (K:=2*K) (by omega);have h2:=ih (H:=2*H+rS W h (2*H)+2+2*W) (K:=2*K+rS W h (2*K)+2+2*W) (by omega);rw[rS,rS];omega
theorem Ht.pB (Z:Zt (h+1) z w){W:Nat}(hW:w h≤2^W):Ht h z w (val h z (z.getD h [])) (2*W):=by
 refine⟨z.getD h [],aU h 1,(Z.rd.rl h (by omega)).1,aA,Z.int h (by omega),bf.rat ⟨1,rfl⟩,by rw[bx];exact iD,by rw[bx,mul_one],?_,?_⟩
 ·have hw:(w h:Rat)≤p2 W:=Rat.natCast_le_natCast.2 hW;rw[show 2*W=W+W by omega];exact Rat.le_trans (Z.wt h (by omega)).2 (dS Rat.natCast_nonneg hw hw)
 rw[gU];exact G3 _
theorem tJ {t:List El}{x:R}(h:In 0 t x):∃y,x=q y:=by
 obtain⟨a,_,rfl⟩:=h;exact⟨_,rfl⟩
theorem Ht.two:Ht h z w (q 2) 1:=Ht.rat (by decide) (by decide)
theorem Ht.sqrt {W:Nat}:∀{h:Nat} (_:Zt h z w) (_:∀i,i<h→w i≤2^W) {x y:R} {H:Nat},In h z y→y*y=x→Ht h z w x H→Ht h z w y (rS W h H):=by
 intro h
 induction h with
 |zero=>
  intro Z _ x y H hy he hx;obtain⟨r,rfl⟩:=tJ hy;rw[←dg]at he;subst he;obtain⟨h1,h2⟩:=Ht.zero hx;obtain⟨e1,e2⟩:=H8 r;rw[e1,Int.natAbs_mul]at h1;rw[e2]at h2;have key:∀n:Nat,n*n≤2^H→n≤2^((H+1)/2):=by
   intro n hn;refine Nat.le_of_not_lt fun hl=>?_
   have:=Nat.mul_lt_mul'' hl hl
   rw[←Nat.pow_add]at this
   have:2^H≤2^((H+1)/2+(H+1)/2):=O3 (by decide) (by omega)
   omega
  exact Ht.rat (key _ h1) (key _ h2)
 |succ h ih=>
  intro Z hW x y H hy he hx;have Z':=Z.le (Nat.le_succ h);have Wx:∀i,i<h→w i≤2^W:=fun i hi=>hW i (by omega);have L':=Z'.rd.rl;obtain⟨p,g,hp,hg,rfl⟩:=hy.split;have hs:Ht (h+1) z w (R.sqrt (val h z (z.getD h []))) W:=Ht.root (hW h (by omega));have hr:=Ht.pB Z (hW h (by omega));have SQ:=Z.rd.rl.root;have Xn:In h z (val h z (z.getD h [])):=.of (Z.rd.rl h (by omega)).1;have Ui:val h z (z.getD h [])≠q 0:=jQ (Z.rd.rl h (by omega)).2;rw[zP,SQ]at he;subst he;obtain⟨hu,hv,hn⟩:=Ht.split Z ((In.mul L' hp hp).add (In.mul L' (In.mul L' hg hg) Xn)) ((In.mul L' hp hg).add (In.mul L' hp hg)) hx;rw[←CM]at hn;have m1:rS W h (2*H)≤rS W h (2*H+rS W h (2*H)+2+2*W):=lU (by omega)
  by_cases g0:g=q 0
  ·rw[g0,zero_mul,zero_mul,add_zero]at hu;rw[g0,zero_mul,add_zero];exact((ih Z' Wx hp rfl hu).up).mono (by rw[rS];omega)
  by_cases p0:p=q 0
  ·rw[p0,mul_zero,zero_add]at hu;obtain⟨ri,aah⟩:=R.inv Ui;have h1:=hu.mul Z' (hr.inv aah);rw[mul_assoc,aah,mul_one]at h1;have h2:=(ih Z' Wx hg rfl h1).up.mul Z hs;rw[p0,zero_add];have m2:rS W h (2*H+2*W)≤rS W h (2*H+rS W h (2*H)+2+2*W):=lU (by omega);exact h2.mono (by rw[rS];omega)
  have h1:=ih Z' Wx ((In.mul L' hp hp).add (In.mul L' (In.mul L' hg hg) Xn).neg) rfl hn;have h2:=hu.add Z' h1;have e2:p*p+g*g*val h z (z.getD h [])+(p*p+ -(g*g*val h z (z.getD h [])))=q 2*(p*p):=by
   rw[←xq]
   generalize g*g*val h z (z.getD h [])=c
   generalize p*p=b
   rw[add_comm b (-c),←add_assoc,add_assoc b c,add_neg,add_zero]
  rw[e2]at h2;have hh:q (2:Rat)*q ((2:Rat)⁻¹)=q 1:=by rw[←dg,Rat.mul_inv_cancel _ (by decide)]
  have h3:=h2.mul Z' (Ht.two.inv hh);rw[mul_comm (q 2),mul_assoc,hh,mul_one]at h3;have h4:=(ih Z' Wx hp rfl h3).mono (lU (K:=2*H+rS W h (2*H)+2+2*W) (by omega));have h5:=Ht.two.mul Z' h4;have h50:q 2*p≠q 0:=pe Ik p0;obtain⟨i,hi⟩:=R.inv h50;have h6:=hv.mul Z' (h5.inv hi);have e6:(p*g+p*g)*i=g:=by
   rw[xq,←mul_assoc,mul_assoc,mul_comm g,←mul_assoc,hi,one_mul]
  rw[e6]at h6;have h7:=h4.up.add Z (h6.up.mul Z hs);refine h7.mono ?_;rw[rS];omega
end
inductive Sz (V:Prop) (G:R→Nat→Prop):R→Nat→Prop
 |gen {x:R} {H:Nat}:G x H→Sz V G x H
 |rat {x:Rat} {H:Nat}:x.num.natAbs≤2^H→x.den≤2^H→Sz V G (q x) H
 |add {x y:R} {H K:Nat}:Sz V G x H→Sz V G y K→Sz V G (x+y) (H+K+1)
 |mul {x y:R} {H K:Nat}:Sz V G x H→Sz V G y K→Sz V G (x*y) (H+K)
 |neg {x:R} {H:Nat}:Sz V G x H→Sz V G (-x) H
 |inv {x y:R} {H:Nat}:V→Sz V G x H→x*y=q 1→Sz V G y H
 |mono {x:R} {H K:Nat}:Sz V G x H→H≤K→Sz V G x K
theorem Sz.ht {V:Prop}{G:R→Nat→Prop}{h:Nat}{z:List El}{w:Nat→Nat}(Z:Zt h z w)(hG:∀x H,G x H→Ht h z w x H){x:R}{H:Nat}(hx:Sz V G x H):Ht h z w x H:=by
 induction hx with
 |gen g=>exact hG _ _ g
 |rat h1 h2=>exact Ht.rat h1 h2
 |add _ _ h1 h2=>exact h1.add Z h2
 |mul _ _ h1 h2=>exact h1.mul Z h2
 |neg _ h1=>exact h1.neg
 |inv _ _ e h1=>exact h1.inv e
 |mono _ e h1=>exact h1.mono e
end Go.Tw
namespace Go.Tw
open Go Go.R
def iu (n:Nat)(e:El):Prop:=∀c∈e,c.num.natAbs≤2^n∧c.den≤2^n
def Expr (B k:Nat)(As:List R)(x:R):Prop:=∃(m:Nat) (u:List El) (e:El),m≤k∧e.length=2^m∧iu B e∧(∀j,j<m→val j u (u.getD j [])∈As)∧x=val m u e
def fE (B c:Nat):Nat→Nat
 |0=>B
 |k+1=>2*fE B c k+c+1
theorem KS {B c m k:Nat}(h:m≤k):fE B c m≤fE B c k:=by
 induction k with
 |zero=>
      obtain rfl:m=0:=by omega
      exact O1 _
 |succ k ih=>
  by_cases e:m=k+1
  ·rw[e];exact O1 _
  have:=ih (by omega)
  rw[fE];omega
theorem Ht.expr {h:Nat}{z:List El}{w:Nat→Nat}(Z:Zt h z w){B c:Nat}{u:List El}:∀{m:Nat} {e:El},e.length=2^m→iu B e→(∀j,j<m→Ht h z w (R.sqrt (val j u (u.getD j []))) c)→Ht h z w (val m u e) (fE B c m):=by
 intro m
 induction m with
 |zero=>
  intro e he hb _;obtain⟨x,rfl⟩:=bw he;obtain⟨h1,h2⟩:=hb x (by simp);exact Ht.rat h1 h2
 |succ m ih=>
  intro e he hb hs;have h1:=ih (ai he) (fun c hc=>hb c (List.mem_of_mem_take hc)) (fun j hj=>hs j (by omega));have h2:=ih (ah he) (fun c hc=>hb c (List.mem_of_mem_drop hc)) (fun j hj=>hs j (by omega));exact(h1.add Z (h2.mul Z (hs m (by omega)))).mono (by rw[fE];omega)
structure Src (B:Nat) (A:List R):Prop where
 pos:∀k,k<A.length→R.pos (A.getD k (q 0))
 expr:∀k,k<A.length→Expr B k (A.take k) (A.getD k (q 0))
def KQ:List (Nat×Nat)→Nat→Option Nat
 |[],_=>none
 |p::s,k=>if p.1=k then some p.2 else KQ s k
def Jy:List (Nat×Nat)→Nat
 |[]=>0
 |p::s=>max p.2 (Jy s)
def go (B k:Nat):Nat→List (Nat×Nat)→Nat→Nat→Nat
 |0,_,_,c=>fE B c k
 |n+1,s,kk,c=>match KQ s kk with
  |some W=>go B k n s (kk+1) (max c (2*W))
  |none=>max (go B k n s (kk+1) (max c (rS (Jy s) s.length (fE B c kk)))) (2*go B k n (s++[(kk,2^s.length*fE B c kk)]) (kk+1) (max c (2*(2^s.length*fE B c kk))))
theorem ti {s:List (Nat×Nat)}{k W:Nat}(h:KQ s k=some W):∃j,j<s.length∧s.getD j (0,0)=(k,W):=by
 induction s with
 |nil=>cases h
 |cons p s ih=>
  rw[KQ]at h
  split at h
  ·rename_i e
   refine⟨0,by simp,?_⟩;obtain⟨a,b⟩:=p;simp only[Q6]at h e;subst h;subst e;rfl
  obtain⟨j,hj,e⟩:=ih h;exact⟨j+1,by simpa using hj,e⟩
theorem C6 {s:List (Nat×Nat)}{j:Nat}(h:j<s.length):(s.getD j (0,0)).2≤Jy s:=by
 induction s generalizing j with
 |nil=>exact absurd h (O5 _)
 |cons p s ih=>
  rw[Jy]
  cases j with
  |zero=>exact Nat.le_max_left _ _
  |succ j=>
   have:=ih (j:=j) (by simpa using h)
   show(s.getD j (0,0)).2≤_
   omega
structure Env (A:List R) (h:Nat) (t z:List El) (w d:Nat→Nat) (s:List (Nat×Nat)):Prop where
 sl:s.length=h
 rd:Rd h t
 zt:Zt h z w
 lk:Lk h t z d
 at':∀j,j<h→val j t (t.getD j [])=A.getD (s.getD j (0,0)).1 (q 0)∧w j≤2^(s.getD j (0,0)).2∧d j≤2^(s.getD j (0,0)).2∧Ht j z w (val j t (t.getD j [])) (s.getD j (0,0)).2
theorem Ht.congr {h:Nat}{z z':List El}{w w':Nat→Nat}(ez:∀i,i<h→z'.getD i []=z.getD i [])(ew:∀i,i<h→w' i=w i){x:R}{H:Nat}(hx:Ht h z w x H):Ht h z' w' x H:=by
 obtain⟨P,Q,hP,hQ,iP,iQ,h0,he,nP,nQ⟩:=hx;have e1:∀a,val h z' a=val h z a:=fun a=>val_congr ez a;have e2:∀a,cH h w' a=cH h w a:=fun a=>n7 ew a;exact⟨P,Q,hP,hQ,iP,iQ,by rw[e1];exact h0,by rw[e1,e1];exact he,by rw[e2];exact nP,by rw[e2];exact nQ⟩
theorem Ht.GW {h:Nat}{z:List El}{w:Nat→Nat}{n W:Nat}(h0:0<n)(hn:n≤2^W):Ht h z w (q ((n:Rat)⁻¹)) W:=by
 refine Ht.inv (x:=q (n:Rat)) ?_ (mZ h0);refine Ht.rat ?_ ?_
 ·rw[Rat.num_natCast,Int.natAbs_natCast];exact hn
 rw[Rat.den_natCast];exact Nat.one_le_two_pow
theorem Ht.basis {A:List R}{h:Nat}{t z:List El}{w d:Nat→Nat}{s:List (Nat×Nat)}(E:Env A h t z w d s){j:Nat}(hj:j<h):Ht h z w (R.sqrt (val j t (t.getD j []))) (2*(s.getD j (0,0)).2):=by
 obtain⟨_,h2,h3,_⟩:=E.at' j hj;have h1:=(Ht.root (h:=j) (z:=z) (w:=w) h2).le (show j+1≤h by omega);have hr:=(E.lk.le (show j+1≤h by omega)).root (E.rd.rl.le (by omega));have hd:=mZ (E.lk.d0 j hj);have h4:=h1.mul E.zt (Ht.GW (E.lk.d0 j hj) h3);rw[hr,mul_comm,←mul_assoc,mul_comm (q ((d j:Rat)⁻¹)),hd,one_mul]at h4;exact h4.mono (by omega)
theorem Aq {A:List R}{x:R}{k:Nat}(h:x∈A.take k):∃i,i<k∧i<A.length∧x=A.getD i (q 0):=by
 obtain⟨i,hi,rfl⟩:=List.mem_iff_getElem.1 h;rw[X5]at hi;refine⟨i,by omega,by omega,?_⟩;rw[List.getElem_take,X7,X8 (by omega)];rfl
theorem Ht.src {A:List R}{B:Nat}(S:Src B A){h:Nat}{z:List El}{w:Nat→Nat}(Z:Zt h z w){k c:Nat}(hk:k<A.length)(hs:∀i,i<k→Ht h z w (R.sqrt (A.getD i (q 0))) c):Ht h z w (A.getD k (q 0)) (fE B c k):=by
 obtain⟨m,u,e,hm,he,hb,hu,hx⟩:=S.expr k hk;rw[hx]
 refine(Ht.expr Z he hb fun j hj=>?_).mono (KS hm)
 obtain⟨i,hi,_,e⟩:=Aq (hu j hj);rw[e];exact hs i hi
theorem Env.grow {A:List R}{h:Nat}{t z:List El}{w d:Nat→Nat}{s:List (Nat×Nat)}(E:Env A h t z w d s){k H:Nat}(hp:pos (A.getD k (q 0)))(hx:Ht h z w (A.getD k (q 0)) H)(hn:¬In h t (R.sqrt (A.getD k (q 0)))):
  ∃(t' z':List El) (w' d':Nat→Nat),(∀i,i<h→t'.getD i []=t.getD i []∧z'.getD i []=z.getD i []∧w' i=w i)∧Env A (h+1) t' z' w' d' (s++[(k,2^h*H)]):=by
 obtain⟨a,ha,hv⟩:=(E.lk.eK E.rd.rl _).2 (hx.in E.zt)
 let t':List El:=(List.range h).map (fun i=>t.getD i [])++[a]
 have et:∀i,i<h→t'.getD i []=t.getD i []:=fun i hi=>by
  show List.getD (_++_) i []=_;rw[X7,List.getElem?_append_left (by simpa using hi),List.getElem?_map,List.getElem?_range hi];rfl
 have ea:t'.getD h []=a:=by
  show List.getD (_++_) h []=_;rw[X7,List.getElem?_append_right (by simp)];simp
 have ev:∀i,i≤h→∀b,val i t' b=val i t b:=fun i hi b=>val_congr (fun j hj=>et j (by omega)) b;have Xq:pos (val h t a):=by rw[hv];exact hp
 have Xt:∀x,In h t x→x*x≠val h t a:=by
  intro x hx he;rw[hv,←R.cV (bu.2 (.inr hp))]at he
  rcases zG he with e|e
  ·exact hn (e▸hx)
  have:=hx.neg
  rw[e,neg_neg]at this;exact hn this
 have R':Rd (h+1) t':=by
  refine⟨fun i hi=>?_,fun i hi x hx=>?_⟩
  ·by_cases h1:i=h
   ·subst h1;rw[ea,ev i (O1 i)];exact⟨ha,Xq⟩
   rw[et i (by omega),ev i (by omega)];exact E.rd.rl i (by omega)
  obtain⟨b,hb,rfl⟩:=hx
  by_cases h1:i=h
  ·subst h1;rw[ea,ev i (O1 i),ev i (O1 i)];exact Xt _ (.of hb)
  rw[et i (by omega),ev i (by omega),ev i (by omega)];exact E.rd.ns i (by omega) _ (.of hb)
 have K':Lk h t' z d:=⟨E.lk.d0,fun i hi=>by rw[et i hi,ev i (by omega)];exact E.lk.v i hi⟩;obtain⟨z',w',d',TJ,hZ,hL,hw,hd⟩:=Tw.grow E.zt K' R' (H:=H) (by rw[ea,ev h (O1 h),hv];exact hx);refine⟨t',z',w',d',fun i hi=>⟨et i hi,(TJ i hi).1,(TJ i hi).2.1⟩,⟨by rw[X6,E.sl];rfl,R',hZ,hL,fun j hj=>?_⟩⟩
 by_cases h1:j=h
 ·have es:(s++[(k,2^h*H)]).getD j (0,0)=(k,2^h*H):=by
   rw[h1,X7,List.getElem?_append_right (by rw[E.sl];exact O1 h),E.sl];simp
  rw[es,h1,ea,ev h (O1 h),hv];exact⟨rfl,hw,hd,(hx.congr (fun i hi=>(TJ i hi).1) (fun i hi=>(TJ i hi).2.1)).mono (Nat.le_mul_of_pos_left _ (Nat.two_pow_pos h))⟩
 have Xx:j<h:=by omega
 have es:(s++[(k,2^h*H)]).getD j (0,0)=s.getD j (0,0):=by
  rw[X7,List.getElem?_append_left (by rw[E.sl];exact Xx),←X7]
 rw[es,et j Xx,ev j (by omega),(TJ j Xx).2.1,(TJ j Xx).2.2];obtain⟨a1,a2,a3,a4⟩:=E.at' j Xx;exact⟨a1,a2,a3,a4.congr (fun i hi=>(TJ i (by omega)).1) (fun i hi=>(TJ i (by omega)).2.1)⟩
theorem Je {A:List R}{B k:Nat}(S:Src B A)(hk:k<A.length):∀(n:Nat) {kk:Nat} (_:kk+n=k) {h:Nat} {t z:List El} {w d:Nat→Nat} {s:List (Nat×Nat)} {c:Nat} (_:Env A h t z w d s)
  (_:∀i,i<kk→Ht h z w (R.sqrt (A.getD i (q 0))) c) (_:In h t (A.getD k (q 0))),Ht h z w (A.getD k (q 0)) (go B k n s kk c):=by
 intro n
 induction n with
 |zero=>
  intro kk XG h t z w d s c E hs _;exact Ht.src S E.zt hk (fun i hi=>hs i (by omega))
 |succ n ih=>
  intro kk XG h t z w d s c E hs Tb;have U3:kk<A.length:=by omega
  have hp:=S.pos kk U3;rw[go]
  cases hl:KQ s kk with
  |some W=>
   obtain⟨j,hj,ej⟩:=ti hl;refine ih (by omega) E (fun i hi=>?_) Tb
   by_cases h1:i=kk
   ·have hb:=Ht.basis E (j:=j) (by rw[←E.sl];exact hj);rw[(E.at' j (by rw[←E.sl];exact hj)).1,ej]at hb;rw[h1];exact hb.mono (Nat.le_max_right _ _)
   exact(hs i (by omega)).mono (Nat.le_max_left _ _)
  |none=>
   have hH:=Ht.src S E.zt U3 hs
   by_cases h0:In h t (R.sqrt (A.getD kk (q 0)))
   ·have hr:=Ht.sqrt (W:=Jy s) E.zt (fun i hi=>O0 (E.at' i hi).2.1 (O3 (by decide) (C6 (by rw[E.sl];exact hi)))) ((E.lk.eK E.rd.rl _).1 h0) (R.cV (bu.2 (.inr hp))) hH
    refine(ih (kk:=kk+1) (c:=max c (rS (Jy s) s.length (fE B c kk))) (by omega) E (fun i hi=>?_) Tb).mono (Nat.le_max_left _ _)
    by_cases h1:i=kk
    ·rw[h1,E.sl];exact hr.mono (Nat.le_max_right _ _)
    exact(hs i (by omega)).mono (Nat.le_max_left _ _)
   obtain⟨t',z',w',d',TJ,E'⟩:=E.grow hp hH h0;have ev:∀b,val h t' b=val h t b:=fun b=>val_congr (fun j hj=>(TJ j hj).1) b;have aai:In h t' (A.getD k (q 0)):=by
    obtain⟨b,hb,e⟩:=Tb;exact⟨b,hb,by rw[ev];exact e⟩
   have hup:∀{x:R} {H:Nat},Ht h z w x H→Ht (h+1) z' w' x H:=fun hx=>(hx.congr (fun i hi=>(TJ i hi).2.1) (fun i hi=>(TJ i hi).2.2)).up;have h2:=ih (kk:=kk+1) (c:=max c (2*(2^s.length*fE B c kk))) (by omega) E' (fun i hi=>?_) aai.up
   ·have hz:In h z' (A.getD k (q 0)):=((E'.lk.le (Nat.le_succ h)).eK (E'.rd.rl.le (Nat.le_succ h)) _).1 aai;have h3:=(Ht.split E'.zt (v:=q 0) hz (In.rat 0) (by rw[zero_mul,add_zero];exact h2)).1;have h4:=h3.congr (z':=z) (w':=w) (fun i hi=>(TJ i hi).2.1.symm) (fun i hi=>(TJ i hi).2.2.symm);refine h4.mono ?_;rw[E.sl];exact Nat.le_max_right _ _
   by_cases h1:i=kk
   ·have hb:=Ht.basis E' (j:=h) (by omega);have es:(s++[(kk,2^h*fE B c kk)]).getD h (0,0)=(kk,2^h*fE B c kk):=by
     rw[X7,List.getElem?_append_right (by rw[E.sl];exact O1 h),E.sl];simp
    rw[(E'.at' h (by omega)).1,es]at hb;rw[h1,E.sl];exact hb.mono (Nat.le_max_right _ _)
   exact(hup (hs i (by omega))).mono (Nat.le_max_left _ _)
def sN (B:Nat)(σ:Nat→Nat):Nat→List (Nat×Nat)
 |0=>[]
 |h+1=>sN B σ h++[(σ h,2^(sN B σ h).length*go B (σ h) (σ h) (sN B σ h) 0 0)]
theorem env {A:List R}{B:Nat}(S:Src B A){t:List El}{σ:Nat→Nat}:∀{h:Nat} (_:Rd h t) (_:∀j,j<h→σ j<A.length∧val j t (t.getD j [])=A.getD (σ j) (q 0)),
  ∃(z:List El) (w d:Nat→Nat),Env A h t z w d (sN B σ h):=by
 intro h
 induction h with
 |zero=>
  intro R _;exact⟨[],fun _=>1,fun _=>1,rfl,R,⟨⟨fun i hi=>absurd hi (O5 _),fun i hi=>absurd hi (O5 _)⟩,fun i hi=>absurd hi (O5 _),fun i hi=>absurd hi (O5 _)⟩,
   ⟨fun i hi=>absurd hi (O5 _),fun i hi=>absurd hi (O5 _)⟩,fun j hj=>absurd hj (O5 _)⟩
 |succ h ih=>
  intro R hσ;obtain⟨z,w,d,E⟩:=ih (R.le (Nat.le_succ h)) (fun j hj=>hσ j (by omega));obtain⟨h1,h2⟩:=hσ h (by omega);have Tb:In h t (A.getD (σ h) (q 0)):=by rw[←h2];exact .of (R.rl h (by omega)).1
  have hH:=Je S h1 (σ h) (kk:=0) (by omega) (c:=0) E (fun i hi=>absurd hi (O5 _)) Tb;rw[←h2]at hH;obtain⟨z',w',d',TJ,hZ,hL,hw,hd⟩:=Tw.grow E.zt E.lk R hH;refine⟨z',w',d',by rw[sN,X6,E.sl];rfl,R,hZ,hL,fun j hj=>?_⟩
  by_cases e:j=h
  ·have es:(sN B σ (h+1)).getD j (0,0)=(σ h,2^h*go B (σ h) (σ h) (sN B σ h) 0 0):=by
    rw[sN,e,E.sl,X7,List.getElem?_append_right (by rw[E.sl];exact O1 h),E.sl];simp
   rw[es,e];exact⟨h2,hw,hd,(hH.congr (fun i hi=>(TJ i hi).1) (fun i hi=>(TJ i hi).2.1)).mono (Nat.le_mul_of_pos_left _ (Nat.two_pow_pos h))⟩
  have Xx:j<h:=by omega
  have es:(sN B σ (h+1)).getD j (0,0)=(sN B σ h).getD j (0,0):=by
   rw[sN,X7,List.getElem?_append_left (by rw[E.sl];exact Xx),←X7]
  rw[es,(TJ j Xx).2.1,(TJ j Xx).2.2];obtain⟨a1,a2,a3,a4⟩:=E.at' j Xx;exact⟨a1,a2,a3,a4.congr (fun i hi=>(TJ i (by omega)).1) (fun i hi=>(TJ i (by omega)).2.1)⟩
def wC (B:Nat)(s:List (Nat×Nat))(k:Nat):Nat:=match KQ s k with
 |some W=>2*W
 |none=>rS (Jy s) s.length (go B k k s 0 0)
theorem KD {A:List R}{B:Nat}(S:Src B A){h:Nat}{t z:List El}{w d:Nat→Nat}{s:List (Nat×Nat)}(E:Env A h t z w d s){k:Nat}(hk:k<A.length)(Tb:In h t (R.sqrt (A.getD k (q 0)))):
  Ht h z w (R.sqrt (A.getD k (q 0))) (wC B s k):=by
 have hp:=S.pos k hk;unfold wC
 cases hl:KQ s k with
 |some W=>
  obtain⟨j,hj,ej⟩:=ti hl;have hb:=Ht.basis E (j:=j) (by rw[←E.sl];exact hj);rw[(E.at' j (by rw[←E.sl];exact hj)).1,ej]at hb;exact hb
 |none=>
  have hin2:In h t (A.getD k (q 0)):=by
   rw[←R.cV (bu.2 (.inr hp))];exact In.mul E.rd.rl Tb Tb
  have hH:=Je S hk k (kk:=0) (by omega) (c:=0) E (fun i hi=>absurd hi (O5 _)) hin2;have hr:=Ht.sqrt (W:=Jy s) E.zt (fun i hi=>O0 (E.at' i hi).2.1 (O3 (by decide) (C6 (by rw[E.sl];exact hi)))) ((E.lk.eK E.rd.rl _).1 Tb) (R.cV (bu.2 (.inr hp))) hH;rw[E.sl];exact hr
end Go.Tw
namespace Go.Tw
open Go Go.R
def oB:Nat→Nat
 |0=>2^13
 |1=>2^18
 |2=>2^23
 |3=>2^18
 |_=>2^11
def cW:Nat:=131072
def Ak (s:List (Nat×Nat))(k:Nat):Nat:=match KQ s k with
 |some W=>W
 |none=>go 64 k k s 0 0
def RO (s:List (Nat×Nat))(h:Nat):Bool:=decide (Ak s 0≤cW)&&decide (Ak s 1≤cW)&&decide (Ak s 2≤cW)&&decide (wC 64 s 0≤oB h)&&decide (wC 64 s 1≤oB h)&&decide (wC 64 s 2≤oB h)&&decide (Jy s≤cW)
theorem yM {s:List (Nat×Nat)}{h k:Nat}(H:RO s h=true)(hk:k<3):wC 64 s k≤oB h∧Jy s≤cW∧Ak s k≤cW:=by
 simp only[RO,Bool.and_eq_true,decide_eq_true_eq]at H;obtain⟨⟨⟨⟨⟨⟨g0,g1⟩,g2⟩,h0⟩,h1⟩,h2⟩,h3⟩:=H
 match k,hk with
 |0,_=>exact⟨h0,h3,g0⟩
 |1,_=>exact⟨h1,h3,g1⟩
 |2,_=>exact⟨h2,h3,g2⟩
def sL (l:List Nat):List (Nat×Nat):=l.foldl (fun s k=>s++[(k,2^s.length*go 64 k k s 0 0)]) []
theorem M9 (σ:Nat→Nat):∀h,sN 64 σ h=sL ((List.range h).map σ)
 |0=>rfl
 |h+1=>by
  rw[sN,M9 σ h];unfold sL;rw[List.range_succ,List.map_append,List.foldl_append];rfl
def FF:List (List Nat):=[[],[0],[1],[2],[0,1],[0,2],[1,0],[1,2],[2,0],[2,1],[0,1,2],[0,2,1],[1,0,2],[1,2,0],[2,0,1],[2,1,0]]
theorem RG:∀l∈FF,RO (sL l) l.length=true:=by decide+kernel
theorem LL {h:Nat}{σ:Nat→Nat}(h3:∀j,j<h→σ j<3)(hi:∀i j,i<j→j<h→σ i≠σ j):h≤3∧(List.range h).map σ∈FF:=by
 have hle:h≤3:=by
  refine Nat.le_of_not_lt fun hl=>?_;have a0:=h3 0 (by omega);have a1:=h3 1 (by omega);have a2:=h3 2 (by omega);have a3:=h3 3 (by omega);have b01:=hi 0 1 (by omega) (by omega);have b02:=hi 0 2 (by omega) (by omega);have b03:=hi 0 3 (by omega) (by omega);have b12:=hi 1 2 (by omega) (by omega);have b13:=hi 1 3 (by omega) (by omega);have b23:=hi 2 3 (by omega) (by omega);omega
 refine⟨hle,?_⟩;have three:∀{n:Nat},n<3→n=0∨n=1∨n=2:=by intro n;omega
 match h,hle with
 |0,_=>show[]∈FF;decide
 |1,_=>
  show[σ 0]∈FF
  rcases three (h3 0 (by omega))with e|e|e<;>rw [e]<;>decide
 |2,_=>
  show[σ 0,σ 1]∈FF
  have b:=hi 0 1 (by omega) (by omega)
  rcases three (h3 0 (by omega))with e|e|e<;>rcases three (h3 1 (by omega))with f|f|f<;>rw [e,f]at b⊢<;>first|exact absurd rfl b|decide
 |3,_=>
  show[σ 0,σ 1,σ 2]∈FF
  have b:=hi 0 1 (by omega) (by omega);have c:=hi 0 2 (by omega) (by omega);have d:=hi 1 2 (by omega) (by omega)
  rcases three (h3 0 (by omega))with e|e|e<;>rcases three (h3 1 (by omega))with f|f|f<;>rcases three (h3 2 (by omega))with g|g|g<;>rw [e]at b c⊢<;>rw [f]at b d⊢<;>rw [g]at c d⊢<;>first|exact absurd rfl b|exact absurd rfl c|exact absurd rfl d|decide
structure TG (A:List R) (t:List El):Prop where
 rd:Rd t.length t
 mem:∀j,j<t.length→val j t (t.getD j [])∈A
theorem Mj {h:Nat}{t:List El}(D:Rd h t){i j:Nat}(VG:i<j)(hj:j<h):val i t (t.getD i [])≠val j t (t.getD j []):=by
 intro e;have h1:In j t (R.sqrt (val i t (t.getD i []))):=(In.root (h:=i) (t:=t)).le (by omega);refine D.ns j hj _ h1 ?_;rw[←e];exact R.cV (bu.2 (.inr (D.rl i (by omega)).2))
theorem TG.GV {A:List R}{t:List El}(T:TG A t):∃σ:Nat→Nat,(∀j,j<t.length→σ j<A.length∧val j t (t.getD j [])=A.getD (σ j) (q 0))∧∀i j,i<j→j<t.length→σ i≠σ j:=by
 obtain⟨σ,hσ⟩:=Classical.axiomOfChoice (r:=fun(j k:Nat)=>j<t.length→k<A.length∧val j t (t.getD j [])=A.getD k (q 0)) (fun j=>by
  by_cases hj:j<t.length
  ·obtain⟨k,hk,e⟩:=List.mem_iff_getElem.1 (T.mem j hj);exact⟨k,fun _=>⟨hk,by rw[←e,X7,X8 hk];rfl⟩⟩
  exact⟨0,fun h=>absurd h hj⟩)
 refine⟨σ,hσ,fun i j VG hj e=>Mj T.rd VG hj ?_⟩;rw[(hσ i (by omega)).2,(hσ j hj).2,e]
theorem TG.env {A:List R}(S:Src 64 A)(hA:A.length≤3){t:List El}(T:TG A t):
  t.length≤3∧∃(z:List El) (w d:Nat→Nat),Zt t.length z w∧Lk t.length t z d∧(∀i,i<t.length→w i≤2^cW∧d i≤2^cW∧Ht i z w (val i t (t.getD i [])) cW)∧
   (∀a∈A,In t.length t (R.sqrt a)→Ht t.length z w (R.sqrt a) (oB t.length))∧∀a∈A,In t.length t a→Ht t.length z w a cW:=by
 obtain⟨σ,hσ,hi⟩:=T.GV;obtain⟨h3,hm⟩:=LL (fun j hj=>by have:=(hσ j hj).1;omega) hi;have ha:=RG _ hm;rw[List.length_map,List.length_range,←M9]at ha;obtain⟨z,w,d,E⟩:=Tw.env S T.rd hσ;refine⟨h3,z,w,d,E.zt,E.lk,fun i hi=>?_,fun a haA Tb=>?_,fun a haA Tb=>?_⟩
 ·obtain⟨_,h1,h2,h4⟩:=E.at' i hi
  have:=C6 (s:=sN 64 σ t.length) (j:=i) (by rw[E.sl];exact hi)
  have hm:=O0 this (yM ha (k:=0) (by decide)).2.1;have hl:2^((sN 64 σ t.length).getD i (0,0)).2≤2^cW:=O3 (by decide) hm;exact⟨O0 h1 hl,O0 h2 hl,h4.mono hm⟩
 ·obtain⟨k,hk,rfl⟩:=List.mem_iff_getElem.1 haA;have ek:A.getD k (q 0)=A[k]:=by rw[X7,X8 hk];rfl
  rw[←ek]at Tb⊢;exact(KD S E hk Tb).mono (yM ha (by omega)).1
 obtain⟨k,hk,rfl⟩:=List.mem_iff_getElem.1 haA;have ek:A.getD k (q 0)=A[k]:=by rw[X7,X8 hk];rfl
 rw[←ek]at Tb⊢;refine Ht.mono ?_ (yM ha (show k<3 by omega)).2.2;unfold Ak
 cases hl:KQ (sN 64 σ t.length) k with
 |some W=>
  obtain⟨j,hj,ej⟩:=ti hl;rw[E.sl]at hj;obtain⟨a1,_,_,a4⟩:=E.at' j hj;rw[ej]at a1 a4;rw[a1]at a4;exact a4.le (Nat.le_of_lt hj)
 |none=>exact Je S hk k (kk:=0) (by omega) (c:=0) E (fun i hi=>absurd hi (O5 _)) Tb
end Go.Tw
namespace Go.R
open Go.Re
theorem ob (x:R):x*q (mkRat 1 2)+x*q (mkRat 1 2)=x:=by
 induction x using ind with|h x=>
 exact pt fun n=>by
  simp only[Sq.add,Sq.mul,Sq.const]
  have:(mkRat 1 2:Rat)+mkRat 1 2=1:=by decide+kernel
  grind
theorem GK (p g r:R):p*p+g*g*r+(p*p+ -(g*g*r))=p*p+p*p:=by
 induction p using ind with|h p=>induction g using ind with|h g=>induction r using ind with|h r=>
 exact pt fun n=>by simp only[Sq.add,Sq.mul,Sq.neg];grind
end Go.R
namespace Go.Tw
open Go Go.R
section
variable {h:Nat}{t:List El}{a:El}
def mv (h:Nat)(t:List El)(x:R):Prop:=∀z,In h t z→z*z≠x
theorem sW (hv:a.drop (2^h)=zE (2^h)):val (h+1) t a=val h t (a.take (2^h)):=by
 rw[val,hv,val_zero,zero_mul,add_zero]
theorem Af (hv:a.drop (2^h)=zE (2^h)){w:El}(hw:w.length=2^h)(e:val h t w*val h t w=val h t (a.take (2^h))):
  (w++zE (2^h)).length=2^(h+1)∧val (h+1) t (w++zE (2^h))*val (h+1) t (w++zE (2^h))=val (h+1) t a:=by
 refine⟨by rw[X6,hw,av,O4];omega,?_⟩;rw[kD hw,sW hv,e]
theorem A5 (H:Rl (h+1) t)(ha:a.length=2^(h+1))(hv:a.drop (2^h)=zE (2^h)){i:El}(hi:cF h t (t.getD h [])=some i){w:El}(hw:w.length=2^h)(e:val h t w*val h t w=val h t (aj h t (a.take (2^h)) i)):
  (zE (2^h)++w).length=2^(h+1)∧val (h+1) t (zE (2^h)++w)*val (h+1) t (zE (2^h)++w)=val (h+1) t a:=by
 have H':=H.le (Nat.le_succ h);obtain⟨hl,hm⟩:=dz H' (H h (by omega)).1 hi;refine⟨by rw[X6,hw,av,O4];omega,?_⟩;rw[val_mul H' (ai ha) hl]at e;rw[ft av,val_zero,zero_add,sW hv,iV,H.root,e,mul_assoc,mul_comm (val h t i),hm,mul_one]
theorem A1 (D:Rd (h+1) t)(ha:a.length=2^(h+1))(hv:a.drop (2^h)=zE (2^h)){i:El}(hi:cF h t (t.getD h [])=some i)
  (n1:mv h t (val h t (a.take (2^h)))) (n2:mv h t (val h t (aj h t (a.take (2^h)) i))):mv (h+1) t (val (h+1) t a):=by
 have H':=D.rl.le (Nat.le_succ h);obtain⟨hl,hm⟩:=dz H' (D.rl h (by omega)).1 hi;intro z hz e;rw[sW hv]at e
 rcases Ox D (.of (ai ha)) hz e with⟨k1,k2⟩|⟨g,k1,_,k3⟩
 ·exact n1 z k1 k2
 refine n2 g k1 ?_;rw[val_mul H' (ai ha) hl,←k3,mul_assoc,hm,mul_one]
theorem xo (D:Rd (h+1) t)(ha:a.length=2^(h+1))(hv:a.drop (2^h)≠zE (2^h))(n1:mv h t (val h t (aO h t a))):mv (h+1) t (val (h+1) t a):=by
 have D':=D.le (Nat.le_succ h);have h0:val h t (a.drop (2^h))≠q 0:=fun e=>hv (nv D' (ah ha) e);intro z hz e;obtain⟨p,g,hp,hg,_,_,_,_,k⟩:=DD D (.of (ai ha)) (.of (ah ha)) h0 hz e;refine n1 _ ((In.mul D'.rl hp hp).add (In.mul D'.rl (In.mul D'.rl hg hg) (.of (D.rl h (by omega)).1)).neg) ?_;rw[k,eG D.rl ha,D.rl.root]
theorem yt (D:Rd (h+1) t)(ha:a.length=2^(h+1))(hv:a.drop (2^h)≠zE (2^h)){m:El}(hm:m.length=2^h)(em:val h t m*val h t m=val h t (aO h t a)){w:El}
  (ew:val h t w*val h t w=val h t (aj h t (aC (a.take (2^h)) m) (aU h (mkRat 1 2)))):val h t w≠q 0:=by
 have D':=D.le (Nat.le_succ h);intro e;rw[e,mul_zero,val_mul D'.rl (ar (ai ha) hm) aA,bx,val_add (ai ha) hm]at ew;have k:=ob (val h t (a.take (2^h))+val h t m);rw[←ew,add_zero]at k;have k2:val h t m= -val h t (a.take (2^h)):=nZ (by rw[add_comm];exact k.symm);rw[k2,neg_mul,mul_neg,neg_neg,eG D.rl ha,D.rl.root]at em;have k3: -(val h t (a.drop (2^h))*val h t (a.drop (2^h))*val h t (t.getD h []))=q 0:=by
  have k4:q 0+val h t (a.take (2^h))*val h t (a.take (2^h))= -(val h t (a.drop (2^h))*val h t (a.drop (2^h))*val h t (t.getD h []))+val h t (a.take (2^h))*val h t (a.take (2^h)):=by
   rw[zero_add,add_comm];exact em
  exact(Cb k4).symm
 have k5:=congrArg (- ·) k3;simp only[neg_neg,jK]at k5
 rcases iZ k5 with k5|k5
 ·exact hv (nv D' (ah ha) (QX k5))
 exact jQ (D.rl h (by omega)).2 k5
theorem vV (D:Rd (h+1) t)(ha:a.length=2^(h+1))(hv:a.drop (2^h)≠zE (2^h)){m:El}(hm:m.length=2^h)(em:val h t m*val h t m=val h t (aO h t a)){w:El}(hw:w.length=2^h)
  (ew:val h t w*val h t w=val h t (aj h t (aC (a.take (2^h)) m) (aU h (mkRat 1 2)))) {g:El} (hg:g.length=2^h) (eg:val h t w*val h t g+val h t w*val h t g=val h t (a.drop (2^h))):
  (w++g).length=2^(h+1)∧val (h+1) t (w++g)*val (h+1) t (w++g)=val (h+1) t a:=by
 have D':=D.le (Nat.le_succ h);have h0:=yt D ha hv hm em ew;rw[val_mul D'.rl (ar (ai ha) hm) aA,bx,val_add (ai ha) hm]at ew;rw[eG D.rl ha,D.rl.root]at em;refine⟨by rw[X6,hw,hg,O4];omega,?_⟩;rw[ft hw,val];exact JU D.rl.root em (by rw[ew,ob]) h0 eg
theorem wL (D:Rd (h+1) t)(ha:a.length=2^(h+1))(hv:a.drop (2^h)≠zE (2^h)){n:El}(hn:n.length=2^h)(en:val h t n*val h t n=val h t (aO h t a))
  (n1:mv h t (val h t (aj h t (aC (a.take (2^h)) n) (aU h (mkRat 1 2))))) (n2:mv h t (val h t (aj h t (aC (a.take (2^h)) (aH n)) (aU h (mkRat 1 2))))):mv (h+1) t (val (h+1) t a):=by
 have D':=D.le (Nat.le_succ h);have h0:val h t (a.drop (2^h))≠q 0:=fun e=>hv (nv D' (ah ha) e);have ln:(aH n).length=2^h:=by rw[au,hn]
 intro z hz e;obtain⟨p,g,hp,hg,_,_,_,k1,k⟩:=DD D (.of (ai ha)) (.of (ah ha)) h0 hz e;rw[val_mul D'.rl (ar (ai ha) hn) aA,bx,val_add (ai ha) hn]at n1;rw[val_mul D'.rl (ar (ai ha) ln) aA,bx,val_add (ai ha) ln,val_neg hn]at n2;have e2:val h t n*val h t n=(p*p+ -(g*g*val h t (t.getD h [])))*(p*p+ -(g*g*val h t (t.getD h []))):=by
  rw[en,k,eG D.rl ha,D.rl.root]
 have key:val h t (a.take (2^h))+(p*p+ -(g*g*val h t (t.getD h [])))=p*p+p*p:=by
  rw[←k1,GK]
 have XW:(p*p+p*p)*q (mkRat 1 2)=p*p:=by rw[add_mul,ob]
 rcases zG e2 with e3|e3
 ·exact n1 p hp (by rw[e3,key,XW])
 exact n2 p hp (by rw[e3,neg_neg,key,XW])
end
end Go.Tw
namespace Go.Tw
open Go Go.R
noncomputable def dot:List Rat→List R→R
 |l::ls,x::xs=>q l*x+dot ls xs
 |_,_=>q 0
theorem EH:∀{l m:List Rat} {x y:List R},l.length=x.length→dot (l++m) (x++y)=dot l x+dot m y
 |[],m,[],y,_=>by show dot m y=dot [] []+_;rw[show dot [] []=q 0 from rfl,zero_add]
 |a::l,m,b::x,y,h=>by
  have h:l.length=x.length:=by simpa using h
  show q a*b+dot (l++m) (x++y)=q a*b+dot l x+dot m y;rw[EH h,add_assoc]
theorem DA (s:R):∀(l:List Rat) (x:List R),dot l (x.map (· *s))=dot l x*s
 |[],[]=>by show q 0=q 0*s;rw[zero_mul]
 |[],_::_=>by show q 0=q 0*s;rw[zero_mul]
 |_::_,[]=>by show q 0=q 0*s;rw[zero_mul]
 |a::l,b::x=>by
  show q a*(b*s)+dot l (x.map (· *s))=(q a*b+dot l x)*s;rw[DA s l x,add_mul,mul_assoc]
noncomputable def Lh:Nat→List El→List R
 |0,_=>[q 1]
 |h+1,t=>Lh h t++(Lh h t).map (· *R.sqrt (val h t (t.getD h [])))
theorem nF {t:List El}:∀{h:Nat},(Lh h t).length=2^h
 |0=>rfl
 |h+1=>by rw[Lh,X6,List.length_map,nF,O4];omega
theorem sS {t:List El}:∀{h:Nat} {a:El},a.length=2^h→val h t a=dot a (Lh h t)
 |0,a,ha=>by
  obtain⟨x,rfl⟩:=bw ha;show q x=q x*q 1+q 0;rw[mul_one,add_zero]
 |h+1,a,ha=>by
  have e:a=a.take (2^h)++a.drop (2^h):=(List.take_append_drop _ _).symm;rw[val,Lh]
  conv=>rhs;rw[e]
  rw[EH (by rw[ai ha,nF]),DA,sS (ai ha),sS (ah ha)]
theorem BX {t:List El}:∀{h:Nat} {x:R},x∈Lh h t→In h t x
 |0,x,hx=>by
  have:x=q 1:=List.mem_singleton.1 hx
  rw[this];exact In.rat 1
 |h+1,x,hx=>by
  rcases List.mem_append.1 hx with hx|hx
  ·exact(BX hx).up
  obtain⟨y,hy,rfl⟩:=List.mem_map.1 hx
  have:=In.join (t:=t) (In.rat (h:=h) 0) (BX hy)
  rwa [zero_add]at this
def Sp (ys:List R)(x:R):Prop:=∃c:List Rat,c.length=ys.length∧dot c ys=x
def Rv (a b:List R):Prop:=∀l:List Rat,l.length=a.length→∃m:List Rat,m.length=b.length∧dot m b=dot l a∧((∀x∈m,x=0)→∀x∈l,x=0)
theorem Sp.cons {y x:R}{ys:List R}(h:Sp (y::ys) x):∃c z,Sp ys z∧x=q c*y+z:=by
 obtain⟨c,hc,rfl⟩:=h
 match c,hc with
 |a::c,hc=>exact⟨a,_,⟨c,by simpa using hc,rfl⟩,rfl⟩
theorem zY (k:Rat):∀(c:List Rat) (ys:List R),dot (c.map (k* ·)) ys=q k*dot c ys
 |[],[]=>by show q 0=q k*q 0;rw[mul_zero]
 |[],_::_=>by show q 0=q k*q 0;rw[mul_zero]
 |_::_,[]=>by show q 0=q k*q 0;rw[mul_zero]
 |a::c,y::ys=>by
  show q (k*a)*y+dot (c.map (k* ·)) ys=q k*(q a*y+dot c ys);rw[zY k c ys,mul_add,dg,mul_assoc]
theorem Dr:∀(c d:List Rat) (ys:List R),c.length=ys.length→d.length=ys.length→dot (List.zipWith (· + ·) c d) ys=dot c ys+dot d ys
 |[],[],[],_,_=>by show q 0=q 0+q 0;rw[add_zero]
 |[],_::_,[],_,hd=>by cases hd
 |_::_,_,[],hc,_=>by cases hc
 |[],_,_::_,hc,_=>by cases hc
 |_::_,[],_::_,_,hd=>by cases hd
 |a::c,b::d,y::ys,hc,hd=>by
  show q (a+b)*y+dot (List.zipWith (· + ·) c d) ys=q a*y+dot c ys+(q b*y+dot d ys);rw[Dr c d ys (by simpa using hc) (by simpa using hd),wF,add_mul,add_assoc,add_assoc]
  congr 1
  rw[←add_assoc,←add_assoc,add_comm (q b*y)]
theorem Sp.add {ys:List R}{x z:R}(h:Sp ys x)(k:Sp ys z):Sp ys (x+z):=by
 obtain⟨c,hc,rfl⟩:=h;obtain⟨d,hd,rfl⟩:=k;exact⟨List.zipWith (· + ·) c d,by rw[List.length_zipWith];omega,Dr c d ys hc hd⟩
theorem Sp.smul {ys:List R}{x:R}(k:Rat)(h:Sp ys x):Sp ys (q k*x):=by
 obtain⟨c,hc,rfl⟩:=h;exact⟨c.map (k* ·),by rw[List.length_map,hc],zY k c ys⟩
theorem free {y x z:R}{ys:List R}{c:Rat}(h0:c≠0)(hz:Sp ys z)(hx:x=q c*y+z):∀{r:List R},(∀v∈r,Sp (y::ys) v)→
  ∃r':List R,r'.length=r.length∧(∀v∈r',Sp ys v)∧Rv r' (x::r)∧∀l:List Rat,l.length=r'.length→∃k:Rat,q k*x+dot l r=dot l r'
 |[],_=>by
  have z:q 0*x+q 0=q 0:=by rw[zero_mul,zero_add]
  refine⟨[],rfl,fun v hv=>(by cases hv),fun l hl=>?_,fun l hl=>⟨0,?_⟩⟩
  ·obtain rfl:l=[]:=List.length_eq_zero_iff.1 hl;exact⟨[0],rfl,z,fun _ v hv=>(by cases hv)⟩
  obtain rfl:l=[]:=List.length_eq_zero_iff.1 hl;exact z
 |v::r,hr=>by
  obtain⟨r',h1,h2,_,h4⟩:=free h0 hz hx (r:=r) (fun v hv=>hr v (List.mem_cons_of_mem _ hv));obtain⟨d,u,hu,hv⟩:=(hr v (List.mem_cons_self ..)).cons;have key:q (-(d*c⁻¹))*x+v=q (-(d*c⁻¹))*z+u:=by
   rw[hx,hv,mul_add,add_assoc,←add_assoc (q _*z),add_comm (q _*z),add_assoc (q d*y),←add_assoc (q _*(q c*y)),←mul_assoc,←dg,←add_mul,←wF,
    show-(d*c⁻¹)*c+d=0 by have:=Rat.inv_mul_cancel c h0;grind,zero_mul,zero_add]
  have h5:∀l:List Rat,l.length=((q (-(d*c⁻¹))*x+v)::r').length→∃k:Rat,q k*x+dot l (v::r)=dot l ((q (-(d*c⁻¹))*x+v)::r'):=by
   intro l hl
   match l,hl with
   |a::l,hl=>
    obtain⟨k,hk⟩:=h4 l (by simpa using hl);refine⟨k+a* -(d*c⁻¹),?_⟩;show q (k+a* -(d*c⁻¹))*x+(q a*v+dot l r)=q a*(q (-(d*c⁻¹))*x+v)+dot l r';rw[←hk,wF,dg,add_mul,mul_add,mul_assoc,add_assoc,add_assoc]
    generalize q a*(q (-(d*c⁻¹))*x)=p
    generalize q a*v=w
    generalize q k*x=s
    generalize dot l r=e
    rw[←add_assoc,←add_assoc,add_comm s p,add_assoc p s w,add_comm s w,←add_assoc p w s,add_assoc,add_assoc]
  refine⟨(q (-(d*c⁻¹))*x+v)::r',by simp[h1],fun w hw=>?_,fun l hl=>?_,h5⟩
  ·rcases List.mem_cons.1 hw with rfl|hw
   ·rw[key];exact(hz.smul _).add hu
   exact h2 w hw
  obtain⟨k,hk⟩:=h5 l hl;exact⟨k::l,by simp only[List.length_cons]at hl⊢;omega,hk,fun h w hw=>h w (List.mem_cons_of_mem _ hw)⟩
theorem MW {y:R}{ys:List R}:∀{r:List R},(∀v∈r,Sp (y::ys) v)→(∀v∈r,Sp ys v)∨∃r':List R,r'.length+1=r.length∧(∀v∈r',Sp ys v)∧Rv r' r
 |[],_=>.inl fun v hv=>(by cases hv)
 |x::r,hr=>by
  obtain⟨c,z,hz,hx⟩:=(hr x (List.mem_cons_self ..)).cons
  by_cases h0:c=0
  ·have VH:Sp ys x:=by rw[hx,h0,zero_mul,zero_add];exact hz
   rcases MW (r:=r) (fun v hv=>hr v (List.mem_cons_of_mem _ hv))with h|⟨r',h1,h2,h3⟩
   ·refine .inl fun v hv=>?_
    rcases List.mem_cons.1 hv with rfl|hv
    ·exact VH
    exact h v hv
   refine .inr ⟨x::r',by simp[h1],fun v hv=>?_,fun l hl=>?_⟩
   ·rcases List.mem_cons.1 hv with rfl|hv
    ·exact VH
    exact h2 v hv
   match l,hl with
   |a::l,hl=>
    obtain⟨m,hm,he,hm0⟩:=h3 l (by simpa using hl);refine⟨a::m,by simp[hm],?_,fun h w hw=>?_⟩
    ·show q a*x+dot m r=q a*x+dot l r';rw[he]
    rcases List.mem_cons.1 hw with rfl|hw
    ·exact h _ (List.mem_cons_self ..)
    exact hm0 (fun x hx=>h x (List.mem_cons_of_mem _ hx)) w hw
  obtain⟨r',h1,h2,h3,_⟩:=free h0 hz hx (r:=r) (fun v hv=>hr v (List.mem_cons_of_mem _ hv));exact .inr ⟨r',by simp[h1],h2,h3⟩
theorem Hx:∀{ys r:List R},(∀v∈r,Sp ys v)→ys.length<r.length→∃l:List Rat,l.length=r.length∧dot l r=q 0∧¬∀x∈l,x=0
 |[],r,hr,h=>by
  match r,h with
  |x::r,_=>
   have hx:x=q 0:=by
    obtain⟨c,hc,e⟩:=hr x (List.mem_cons_self ..);obtain rfl:c=[]:=List.length_eq_zero_iff.1 hc;exact e.symm
   have z:∀r:List R,dot (r.map fun _=>(0:Rat)) r=q 0:=by
    intro r
    induction r with
    |nil=>rfl
    |cons y r ih=>show q 0*y+dot (r.map fun _=>(0:Rat)) r=q 0;rw[ih,zero_mul,zero_add]
   refine⟨1::r.map fun _=>0,by simp,?_,fun h=>absurd (h 1 (List.mem_cons_self ..)) (by decide)⟩;show q 1*x+dot (r.map fun _=>(0:Rat)) r=q 0;rw[z,hx,mul_zero,zero_add]
 |y::ys,r,hr,h=>by
  have go:∀r':List R,(∀v∈r',Sp ys v)→ys.length<r'.length→Rv r' r→∃l:List Rat,l.length=r.length∧dot l r=q 0∧¬∀x∈l,x=0:=by
   intro r' h1 h2 h3;obtain⟨l,hl,e,n⟩:=Hx h1 h2;obtain⟨m,hm,e2,n2⟩:=h3 l hl;exact⟨m,hm,e2.trans e,fun h=>n (n2 h)⟩
  rcases MW hr with k|⟨r',h1,h2,h3⟩
  ·exact go r k (by simp only[List.length_cons]at h;omega) fun l hl=>⟨l,hl,rfl,id⟩
  exact go r' h2 (by simp only[List.length_cons]at h;omega) h3
theorem Of {m n:Nat}(h:m<n){t u:List El}(D:Rd n t)(Tb:∀x,In n t x→In m u x):False:=by
 obtain⟨l,hl,e,n0⟩:=Hx (ys:=Lh m u) (r:=Lh n t) (fun v hv=>by
  obtain⟨c,hc,e⟩:=Tb v (BX hv);exact⟨c,by rw[hc,nF],by rw[←e,sS hc]⟩) (by rw[nF,nF];exact Nat.pow_lt_pow_right (by decide) h)
 have hl:l.length=2^n:=by rw[hl,nF]
 rw[←sS hl]at e;rw[nv D hl e]at n0;exact n0 fun x hx=>List.eq_of_mem_replicate hx
end Go.Tw
namespace Go.Tw
open Go Go.R
theorem cR {T S:List El}{j:Nat}(h:j<T.length):(T++S).getD j []=T.getD j []:=by
 rw[X7,List.getElem?_append_left h,←X7]
theorem eF {T S:List El}{h:Nat}(hh:h≤T.length)(a:El):val h (T++S) a=val h T a:=val_congr (fun j hj=>cR (by omega)) a
theorem j7 {T S:List El}{h:Nat}(hh:h≤T.length)(x:R):In h (T++S) x↔In h T x:=
 ⟨fun⟨a,ha,e⟩=>⟨a,ha,by rw[←e,eF hh]⟩,fun⟨a,ha,e⟩=>⟨a,ha,by rw[eF hh,e]⟩⟩
theorem fU {T:List El}{e:El}:(T++[e]).getD T.length []=e:=by
 rw[X7,List.getElem?_append_right (O1 _),Nat.sub_self];rfl
theorem TG.snoc {A:List R}{T:List El}{e:El}(G:TG A T)(he:e.length=2^T.length)(hv:val T.length T e∈A)(hp:R.pos (val T.length T e))(hn:mv T.length T (val T.length T e)):TG A (T++[e]):=by
 have hl:(T++[e]).length=T.length+1:=by simp
 have key:∀i,i<T.length+1→i<T.length∨i=T.length:=fun i hi=>by omega
 refine⟨⟨fun i hi=>?_,fun i hi x hx=>?_⟩,fun j hj=>?_⟩
 ·rcases key i (by omega)with h|rfl
  ·rw[cR h,eF (Nat.le_of_lt h)];exact G.rd.rl i h
  rw[fU,eF (O1 _)];exact⟨he,hp⟩
 ·rcases key i (by omega)with h|rfl
  ·rw[cR h,eF (Nat.le_of_lt h)];exact G.rd.ns i h x ((j7 (Nat.le_of_lt h) x).1 hx)
  rw[fU,eF (O1 _)];exact hn x ((j7 (O1 _) x).1 hx)
 rcases key j (by omega)with h|rfl
 ·rw[cR h,eF (Nat.le_of_lt h)];exact G.mem j h
 rw[fU,eF (O1 _)];exact hv
theorem In.m9 {k:Nat}{t:List El}(D:Rd k t){u:List El}:∀{h:Nat} (_:∀j,j<h→In k t (R.sqrt (val j u (u.getD j [])))) {x:R},In h u x→In k t x
 |0,_,x,hx=>by
  obtain⟨a,ha,rfl⟩:=hx;obtain⟨y,rfl⟩:=bw ha;exact In.rat _
 |h+1,hr,x,hx=>by
  obtain⟨p,g,hp,hg,rfl⟩:=hx.split;exact(In.m9 D (fun j hj=>hr j (by omega)) hp).add (In.mul D.rl (In.m9 D (fun j hj=>hr j (by omega)) hg) (hr h (by omega)))
theorem mv.of {h:Nat}{t:List El}{x:R}(hp:pos x)(hn:¬In h t (R.sqrt x)):mv h t x:=fun y hy e=>by
 rw[←R.cV (bu.2 (.inr hp))]at e
 rcases zG e with e|e
 ·exact hn (e▸hy)
 have:=hy.neg
 rw[e,neg_neg]at this;exact hn this
theorem DJ:∀(n h:Nat) (σ:Nat→Nat),(∀i,i<h→σ i<n)→(∀i j,i<j→j<h→σ i≠σ j)→h≤n
 |0,h,σ,h1,_=>by
  rcases Nat.eq_zero_or_pos h with e|e
  ·omega
  exact absurd (h1 0 e) (O5 _)
 |n+1,h,σ,h1,h2=>by
  by_cases hc:∃a,a<h∧σ a=n
  ·obtain⟨a,ha,e⟩:=hc;have SW:∀i,i<h→i≠a→σ i<n:=fun i hi Uq=>by
    have:=h1 i hi
    have:σ i≠n:=fun k=>by
     rcases Nat.lt_or_gt_of_ne Uq with l|l
     ·exact h2 i a l ha (k.trans e.symm)
     exact h2 a i l hi (e.trans k.symm)
    omega
   have:=DJ n (h-1) (fun i=>if i<a then σ i else σ (i+1)) (fun i hi=>by
    split
    ·exact SW i (by omega) (by omega)
    ·exact SW (i+1) (by omega) (by omega)) fun i j VG hj e=>by
    split at e<;>split at e
    ·exact h2 i j VG (by omega) e
    ·exact h2 i (j+1) (by omega) (by omega) e
    ·omega
    exact h2 (i+1) (j+1) (by omega) (by omega) e
   omega
  have:=DJ n h σ (fun i hi=>by
   have:=h1 i hi
   have:σ i≠n:=fun k=>hc ⟨i,hi,k⟩
   omega) h2
  omega
theorem TG.kB {A:List R}{t:List El}(T:TG A t):t.length≤A.length:=by
 obtain⟨σ,hσ,hi⟩:=T.GV;exact DJ _ _ σ (fun i h=>(hσ i h).1) hi
theorem TG.all {A:List R}{B:Nat}(S:Src B A){t:List El}(T:TG A t):∀{k:Nat} (_:k≤A.length),∃s,TG A (t++s)∧∀i,i<k→In (t++s).length (t++s) (R.sqrt (A.getD i (q 0)))
 |0,_=>⟨[],by rw[List.append_nil];exact T,fun i hi=>absurd hi (O5 _)⟩
 |k+1,hk=>by
  obtain⟨s,G,hs⟩:=TG.all S T (k:=k) (by omega)
  by_cases h:In (t++s).length (t++s) (R.sqrt (A.getD k (q 0)))
  ·refine⟨s,G,fun i hi=>?_⟩
   by_cases e:i=k
   ·rw[e];exact h
   exact hs i (by omega)
  obtain⟨m,u,e,hm,he,hb,hu,hx⟩:=S.expr k (by omega);have Tb:In (t++s).length (t++s) (A.getD k (q 0)):=by
   rw[hx];refine In.m9 G.rd (fun j hj=>?_) (.of he);obtain⟨i,hi,_,ei⟩:=Aq (hu j hj);rw[ei];exact hs i hi
  obtain⟨a,ha,hv⟩:=Tb;have hp:=S.pos k (by omega);rw[←hv]at hp h;have hm:val (t++s).length (t++s) a∈A:=by
   rw[hv,X7,X8 (show k<A.length by omega)];exact List.getElem_mem _
  have G':=G.snoc ha hm hp (mv.of hp h);rw[List.append_assoc]at G';have hl:(t++(s++[a])).length=(t++s).length+1:=by simp only[X6,List.length_singleton];omega
  refine⟨s++[a],G',fun i hi=>?_⟩;rw[hl,←List.append_assoc]
  by_cases ei:i=k
  ·have:=In.root (h:=(t++s).length) (t:=t++s++[a])
   rw[fU,eF (O1 _),hv]at this;rw[ei];exact this
  exact((j7 (O1 _) _).2 (hs i (by omega))).up
theorem TG.top {A:List R}{B:Nat}(S:Src B A){t:List El}(T:TG A t):∃s,TG A (t++s)∧(∀a,a∈A→In (t++s).length (t++s) (R.sqrt a))∧∀U,TG A U→U.length≤(t++s).length:=by
 obtain⟨s,G,hs⟩:=T.all S (O1 A.length);have hr:∀a,a∈A→In (t++s).length (t++s) (R.sqrt a):=fun a ha=>by
  obtain⟨i,hi,rfl⟩:=List.mem_iff_getElem.1 ha
  have:=hs i hi
  rwa [X7,X8 hi,Option.getD_some]at this
 refine⟨s,G,hr,fun U GU=>Nat.le_of_not_lt fun h=>?_⟩;exact Of h GU.rd fun x hx=>In.m9 G.rd (fun j hj=>hr _ (GU.mem j hj)) hx
end Go.Tw
namespace Go.Tw
open Go Go.R Go.Eng
def QB (B:Nat)(a:El):Prop:=∀c∈a,qm c≤B
theorem QB.mono {B C:Nat}{a:El}(h:QB B a)(k:B≤C):QB C a:=fun c hc=>O0 (h c hc) k
theorem QB.take {B:Nat}{a:El}(h:QB B a)(n:Nat):QB B (a.take n):=fun c hc=>h c (List.mem_of_mem_take hc)
theorem QB.drop {B:Nat}{a:El}(h:QB B a)(n:Nat):QB B (a.drop n):=fun c hc=>h c (List.mem_of_mem_drop hc)
theorem QB.app {B:Nat}{a b:El}(h:QB B a)(k:QB B b):QB B (a++b):=fun c hc=>by
 rcases List.mem_append.1 hc with hc|hc
 ·exact h c hc
 exact k c hc
theorem Er:qm 0≤1:=by decide+kernel
theorem QB.zero {n:Nat}:QB 1 (zE n):=fun c hc=>by rw[List.eq_of_mem_replicate hc];exact Er
theorem Df (x:Rat):qm (-x)=qm x:=by unfold qm;rw[Rat.neg_num,Rat.neg_den,Im]
theorem QB.neg {B:Nat}{a:El}(h:QB B a):QB B (aH a):=fun c hc=>by
 obtain⟨x,hx,rfl⟩:=List.mem_map.1 hc;rw[Df];exact h x hx
theorem QB.add:∀{a b:El} {B C:Nat},QB B a→QB C b→QB (B+C+1) (aC a b)
 |[],b,_,_,_,_=>by intro x hx;cases b<;>cases hx
 |x::a,[],_,_,_,_=>by intro y hy;cases hy
 |x::a,y::b,B,C,h,k=>by
  intro u hu;have hu:u=x+y∨u∈aC a b:=List.mem_cons.1 hu
  rcases hu with rfl|hu
  ·have:=Ob x y
   have:=h x (by simp)
   have:=k y (by simp)
   omega
  exact QB.add (fun v hv=>h v (by simp[hv])) (fun v hv=>k v (by simp[hv])) u hu
theorem QB.getD {B:Nat}{a:El}(h:QB B a)(h1:1≤B)(i:Nat):qm (a.getD i 0)≤B:=by
 rw[X7]
 cases e:a[i]? with
 |none=>exact O0 Er h1
 |some x=>exact h x (List.mem_of_getElem? e)
theorem bH {h:Nat}{t:List El}{b:El}:aj h t (zE (2^h)) b=zE (2^h):=by
 have zz:∀n,aC (zE n) (zE n)=zE n:=by
  intro n;unfold aC zE;rw[List.zipWith_replicate,Nat.min_self,Rat.add_zero]
 induction h generalizing b with
 |zero=>rw[aj];show[(0:Rat)*_]=_;rw[Rat.zero_mul];rfl
 |succ h ih=>rw[aj,pR,pD,ih,ih,ih,zz,CN]
theorem gj {h:Nat}{t:List El}{a:El}:aj h t a (zE (2^h))=zE (2^h):=by
 have zz:∀n,aC (zE n) (zE n)=zE n:=by
  intro n;unfold aC zE;rw[List.zipWith_replicate,Nat.min_self,Rat.add_zero]
 induction h generalizing a with
 |zero=>rw[aj];show[_*(0:Rat)]=_;rw[Rat.mul_zero];rfl
 |succ h ih=>rw[aj,pR,pD,ih,ih,bH,zz,CN]
end Go.Tw
namespace Go.Tw
open Go Go.R Go.Eng
theorem Sz.imp {V W:Prop}{G G':R→Nat→Prop}(hV:V→W)(h:∀x H,G x H→G' x H){x:R}{H:Nat}(hx:Sz V G x H):Sz W G' x H:=by
 induction hx with
 |gen g=>exact .gen (h _ _ g)
 |rat h1 h2=>exact .rat h1 h2
 |add _ _ h1 h2=>exact .add h1 h2
 |mul _ _ h1 h2=>exact .mul h1 h2
 |neg _ h1=>exact .neg h1
 |inv v _ e h1=>exact .inv (hV v) h1 e
 |mono _ e h1=>exact .mono h1 e
def Ra (B:Nat)(a:R):Prop:=∃x:Rat,a=q x∧x.num.natAbs≤2^B∧x.den≤2^B
def dV (A:List R):Prop:=A.length≤3
noncomputable def kp (A:List R):Nat:=@ite _ (dV A) (Classical.propDecidable _) 1 128
theorem oL {A:List R}(h:dV A):kp A=1:=if_pos h
theorem M3 {A:List R}:kp A≤128:=by
 unfold kp;split<;>decide
def mr (A:List R)(x:R)(β μ:Nat):Prop:=∀c,Sz (dV A) (fun y H=>(∃a,a∈A∧y=R.sqrt a)∧H=kp A*c) x (β+μ*c)
section
variable {A:List R}
theorem mr.mono {x:R}{β μ β' μ':Nat}(h:mr A x β μ)(h1:β≤β')(h2:μ≤μ'):mr A x β' μ':=fun c=>(h c).mono (by
 have:=O8 c h2;omega)
theorem mr.add {x y:R}{β μ β' μ':Nat}(h:mr A x β μ)(k:mr A y β' μ'):mr A (x+y) (β+β'+1) (μ+μ'):=fun c=>((h c).add (k c)).mono (by rw[Nat.add_mul];omega)
theorem mr.mul {x y:R}{β μ β' μ':Nat}(h:mr A x β μ)(k:mr A y β' μ'):mr A (x*y) (β+β') (μ+μ'):=fun c=>((h c).mul (k c)).mono (by rw[Nat.add_mul];omega)
theorem mr.neg {x:R}{β μ:Nat}(h:mr A x β μ):mr A (-x) β μ:=fun c=>(h c).neg
theorem mr.inv (hV:dV A){x y:R}{β μ:Nat}(h:mr A x β μ)(e:x*y=q 1):mr A y β μ:=fun c=>(h c).inv hV e
theorem mr.rat {x:Rat}{β:Nat}(h1:x.num.natAbs≤2^β)(h2:x.den≤2^β):mr A (q x) β 0:=fun c=>(Sz.rat h1 h2).mono (by omega)
theorem mr.root {a:R}(h:a∈A):mr A (R.sqrt a) 0 (kp A):=fun c=>(Sz.gen ⟨⟨a,h,rfl⟩,rfl⟩).mono (by omega)
theorem mr.trans {A':List R}(hA:∀a,a∈A→a∈A')(h1:dV A)(h2:dV A'){x:R}{β μ:Nat}(h:mr A x β μ):mr A' x β μ:=
 fun c=>(h c).imp (fun _=>h2) fun _ _ ⟨⟨a,ha,e⟩,hc⟩=>⟨⟨a,hA a ha,e⟩,by rw[hc,oL h1,oL h2]⟩
end
structure ax (A:List R) (t:List El) (a:El) (x:R) (β μ:Nat):Prop where
 tg:TG A t
 len:a.length=2^t.length
 val:val t.length t a=x
 sz:mr A x β μ
theorem ax.mono {A:List R}{t:List El}{a:El}{x:R}{β μ β' μ':Nat}(h:ax A t a x β μ)(h1:β≤β')(h2:μ≤μ'):ax A t a x β' μ':=⟨h.tg,h.len,h.val,h.sz.mono h1 h2⟩
theorem TG.sub {A A':List R}{t:List El}(hA:∀a,a∈A→a∈A')(T:TG A t):TG A' t:=⟨T.rd,fun j hj=>hA _ (T.mem j hj)⟩
theorem ax.sub {A A':List R}{t:List El}{a:El}{x:R}{β μ:Nat}(hA:∀a,a∈A→a∈A')(h1:dV A)(h2:dV A')(h:ax A t a x β μ):ax A' t a x β μ:=⟨h.tg.sub hA,h.len,h.val,h.sz.trans hA h1 h2⟩
theorem ax.in {A:List R}{t:List El}{a:El}{x:R}{β μ:Nat}(h:ax A t a x β μ):In t.length t x:=⟨a,h.len,h.val⟩
theorem EC {n b:Nat}(h:n≤2^b):nl n≤b/32+1:=by
 refine aE (Nat.lt_of_le_of_lt h ?_);show 2^b<(2^32)^(b/32+1);rw[←Nat.pow_mul];exact Nat.pow_lt_pow_right (by decide) (by omega)
theorem tc {c:Rat}{b:Nat}(h1:c.num.natAbs≤2^b)(h2:c.den≤2^b):qm c≤b/32+1:=by
 have:=EC h1
 have:=EC h2
 unfold qm zn;omega
theorem xK {B c:Nat}:∀k,fE B c k+c+1=(B+1)*2^k+2^k*c
 |0=>by rw[fE];omega
 |k+1=>by
  have:=xK (B:=B) (c:=c) k
  rw[fE,O4];have e1:(B+1)*(2^k*2)=2*((B+1)*2^k):=by rw[←Nat.mul_assoc,O6]
  have e2:2^k*2*c=2*(2^k*c):=by rw[Nat.mul_right_comm,O6]
  rw[e1,e2];omega
theorem Sz.expr {V:Prop}{G:R→Nat→Prop}{B c:Nat}{u:List El}:∀{m:Nat} {e:El},e.length=2^m→iu B e→(∀j,j<m→Sz V G (R.sqrt (Tw.val j u (u.getD j []))) c)→Sz V G (Tw.val m u e) (fE B c m):=by
 intro m
 induction m with
 |zero=>
  intro e he hb _;obtain⟨x,rfl⟩:=bw he;obtain⟨h1,h2⟩:=hb x (by simp);exact Sz.rat h1 h2
 |succ m ih=>
  intro e he hb hs;have h1:=ih (ai he) (fun c hc=>hb c (List.mem_of_mem_take hc)) (fun j hj=>hs j (by omega));have h2:=ih (ah he) (fun c hc=>hb c (List.mem_of_mem_drop hc)) (fun j hj=>hs j (by omega));exact(h1.add (h2.mul (hs m (by omega)))).mono (by rw[fE];omega)
theorem ax.short {A:List R}{t:List El}{a:El}{B:Nat}(T:TG A t)(ha:a.length=2^t.length)(hb:iu B a):ax A t a (Tw.val t.length t a) ((B+1)*2^t.length-1) (kp A*(2^t.length-1)):=
 ⟨T,ha,rfl,fun c=>(Sz.expr (c:=kp A*c) ha hb (fun j hj=>.gen ⟨⟨_,T.mem j hj,rfl⟩,rfl⟩)).mono (by
  have:=xK (B:=B) (c:=kp A*c) t.length
  have h1:1≤2^t.length:=Nat.one_le_two_pow;have h2:kp A*(2^t.length-1)*c=2^t.length*(kp A*c)-kp A*c:=by rw[Nat.mul_sub,Nat.sub_mul,Nat.mul_one,O6 (kp A) (2^_),Nat.mul_assoc]
  have h3:kp A*c≤2^t.length*(kp A*c):=Nat.le_mul_of_pos_left _ h1;have h4:2^t.length≤(B+1)*2^t.length:=Nat.le_mul_of_pos_left _ (by omega);omega)⟩
theorem Src.snoc {A:List R}(S:Src 64 A){t:List El}{a:El}(T:TG A t)(ha:a.length=2^t.length)(hb:iu 64 a)(hp:R.pos (Tw.val t.length t a)):Src 64 (A++[Tw.val t.length t a]):=by
 have e1:∀k,k<A.length→(A++[Tw.val t.length t a]).getD k (q 0)=A.getD k (q 0):=fun k hk=>by
  rw[X7,List.getElem?_append_left hk,←X7]
 have e2:(A++[Tw.val t.length t a]).getD A.length (q 0)=Tw.val t.length t a:=by
  rw[X7,List.getElem?_append_right (O1 _)];simp
 refine⟨fun k hk=>?_,fun k hk=>?_⟩
 ·by_cases h:k<A.length
  ·rw[e1 k h];exact S.pos k h
  obtain rfl:k=A.length:=by simp at hk;omega
  rw[e2];exact hp
 by_cases h:k<A.length
 ·rw[e1 k h,List.take_append_of_le_length (Nat.le_of_lt h)];exact S.expr k h
 obtain rfl:k=A.length:=by simp at hk;omega
 rw[e2,List.take_append_of_le_length (O1 _),List.take_length];exact⟨_,_,_,T.kB,ha,hb,T.mem,rfl⟩
end Go.Tw
namespace Go.Tw
open Go Go.R Go.Eng
theorem qT:∀(a b:El),aC a b=aC b a
 |[],[]=>rfl
 |[],_::_=>rfl
 |_::_,[]=>rfl
 |x::a,y::b=>by
  show(x+y)::aC a b=(y+x)::aC b a
  rw[Rat.add_comm,qT]
theorem lq {h:Nat}{t:List El}:∀(a b:El),aj h t a b=aj h t b a:=by
 induction h with
 |zero=>intro a b;rw[aj,aj,Rat.mul_comm]
 |succ h ih=>
  intro a b;rw[aj,aj,ih (a.take _) (b.take _),ih (a.drop _) (b.drop _),ih (a.take _) (b.drop _),ih (a.drop _) (b.take _),qT (aj h t (b.drop _) (a.take _))]
structure Ev (cc h:Nat) (t z:List El) (w d:Nat→Nat):Prop where
 rd:Rd h t
 zt:Zt h z w
 lk:Lk h t z d
 wb:∀i,i<h→w i≤2^cc
 db:∀i,i<h→d i≤2^cc
 rb:∀i,i<h→Ht i z w (val i t (t.getD i [])) cc
theorem Ev.le {cc h k:Nat}{t z:List El}{w d:Nat→Nat}(E:Ev cc h t z w d)(hk:k≤h):Ev cc k t z w d:=⟨E.rd.le hk,E.zt.le hk,E.lk.le hk,fun i hi=>E.wb i (by omega),fun i hi=>E.db i (by omega),fun i hi=>E.rb i (by omega)⟩
def bW (cc h H:Nat):Nat:=2^h*(H+cc)/32+1
def cM (X:Nat):Nat→List El→El→El→Prop
 |0,t,a,b=>QB X a∧QB X b∧QB X (aj 0 t a b)
 |h+1,t,a,b=>QB X a∧QB X b∧QB X (aj (h+1) t a b)∧cM X h t (a.take (2^h)) (b.take (2^h))∧cM X h t (a.drop (2^h)) (b.drop (2^h))∧
  cM X h t (aj h t (a.drop (2^h)) (b.drop (2^h))) (t.getD h [])∧cM X h t (a.take (2^h)) (b.drop (2^h))∧cM X h t (a.drop (2^h)) (b.take (2^h))
theorem cM.q {X h:Nat}{t:List El}{a b:El}(H:cM X h t a b):QB X a∧QB X b∧QB X (aj h t a b):=by
 cases h with
 |zero=>exact H
 |succ h=>exact⟨H.1,H.2.1,H.2.2.1⟩
theorem cM.comm {X h:Nat}:∀{t:List El} {a b:El},cM X h t a b→cM X h t b a:=by
 induction h with
 |zero=>intro t a b ⟨h1,h2,h3⟩;exact⟨h2,h1,by rw[lq];exact h3⟩
 |succ h ih=>intro t a b ⟨h1,h2,h3,h4,h5,h6,h7,h8⟩;exact⟨h2,h1,by rw[lq];exact h3,ih h4,ih h5,by rw[lq];exact h6,ih h8,ih h7⟩
theorem pH {h:Nat}{t:List El}:∀{a b:El},a.length=2^h→aj h t (aH a) b=aH (aj h t a b):=by
 have nadd:∀(x y:El),aH (aC x y)=aC (aH x) (aH y):=by
  intro x
  induction x with
  |nil=>intro y;rfl
  |cons u x ih=>
   intro y
   cases y with
   |nil=>rfl
   |cons v y=>
    show-(u+v)::aH (aC x y)=(-u+ -v)::aC (aH x) (aH y)
    rw[ih,Rat.neg_add]
 induction h with
 |zero=>
  intro a b ha;obtain⟨x,rfl⟩:=Go.Tw.bw ha
  show[-x*_]=[-(x*_)]
  rw[Rat.neg_mul]
 |succ h ih=>
  intro a b ha;have e1:(aH a).take (2^h)=aH (a.take (2^h)):=List.map_take.symm;have e2:(aH a).drop (2^h)=aH (a.drop (2^h)):=List.map_drop.symm;have e3:∀x y:El,aH (x++y)=aH x++aH y:=fun x y=>List.map_append;rw[Go.Tw.aj,Go.Tw.aj,e1,e2,ih (ai ha),ih (ah ha),ih (ai ha),ih (ah ha),ih aa,e3,nadd,nadd]
theorem cM.neg {X h:Nat}:∀{t:List El} {a b:El},a.length=2^h→cM X h t a b→cM X h t (aH a) b:=by
 induction h with
 |zero=>intro t a b ha ⟨h1,h2,h3⟩;exact⟨h1.neg,h2,by rw[pH ha];exact h3.neg⟩
 |succ h ih=>
  intro t a b ha ⟨h1,h2,h3,h4,h5,h6,h7,h8⟩;have e1:(aH a).take (2^h)=aH (a.take (2^h)):=List.map_take.symm;have e2:(aH a).drop (2^h)=aH (a.drop (2^h)):=List.map_drop.symm;refine⟨h1.neg,h2,by rw[pH ha];exact h3.neg,?_,?_,?_,?_,?_⟩
  ·rw[e1];exact ih (ai ha) h4
  ·rw[e2];exact ih (ah ha) h5
  ·rw[e2,pH (ah ha)];exact ih aa h6
  ·rw[e1];exact ih (ai ha) h7
  rw[e2];exact ih (ah ha) h8
theorem cM.mono {X Y:Nat}(TX:X≤Y){h:Nat}:∀{t:List El} {a b:El},cM X h t a b→cM Y h t a b:=by
 induction h with
 |zero=>intro t a b H;exact⟨H.1.mono TX,H.2.1.mono TX,H.2.2.mono TX⟩
 |succ h ih=>intro t a b ⟨h1,h2,h3,h4,h5,h6,h7,h8⟩;exact⟨h1.mono TX,h2.mono TX,h3.mono TX,ih h4,ih h5,ih h6,ih h7,ih h8⟩
def bM (cc h s:Nat):Nat:=2^h*(s+3*cc)/32+1
theorem ui {cc h H s:Nat}(e:H≤s+2*cc):bW cc h H≤bM cc h s:=by
 unfold bW bM
 have:=O9 (2^h) (show H+cc≤s+3*cc by omega)
 omega
theorem Kw {cc h s:Nat}:bM cc h (2*s+3*cc)≤bM cc (h+1) s:=by
 unfold bM;rw[O4,Nat.mul_assoc]
 have:=O9 (2^h) (show 2*s+3*cc+3*cc≤2*(s+3*cc) by omega)
 omega
section
variable {cc:Nat}{t z:List El}{w d:Nat→Nat}
theorem Ev.qb {h:Nat}(E:Ev cc h t z w d){a:El}{H:Nat}(ha:a.length=2^h)(hx:Ht h z w (val h t a) H):QB (bW cc h H) a:=fun c hc=>by
 have:=BN (E:=cc) E.lk E.rd.rl E.zt E.db ha hx c hc
 exact tc this.1 this.2
theorem Ev.parts {h:Nat}(E:Ev cc (h+1) t z w d){a:El}{H:Nat}(ha:a.length=2^(h+1))(hx:Ht (h+1) z w (val (h+1) t a) H):
  Ht h z w (val h t (a.take (2^h))) (2*H)∧Ht h z w (val h t (a.drop (2^h))) (2*H+cc)∧Ht h z w (val h t (aO h t a)) (2*H):=by
 have E':=E.le (Nat.le_succ h);have hr:=E.lk.root E.rd.rl;have hd:=mZ (E.lk.d0 h (by omega));have hu:In h t (val h t (a.take (2^h))):=.of (ai ha);have hv:In h t (val h t (a.drop (2^h))*q ((d h:Rat)⁻¹)):=In.mul E'.rd.rl (.of (ah ha)) (In.rat _);have e:val (h+1) t a=val h t (a.take (2^h))+val h t (a.drop (2^h))*q ((d h:Rat)⁻¹)*R.sqrt (val h z (z.getD h [])):=by
  rw[hr,mul_assoc (val h t _),←mul_assoc (q _),mul_comm (q ((d h:Rat)⁻¹)),hd,one_mul];rfl
 rw[e]at hx;obtain⟨k1,k2,k3⟩:=Ht.split E.zt ((E'.lk.eK E'.rd.rl _).1 hu) ((E'.lk.eK E'.rd.rl _).1 hv) hx;have TP:Ht h z w (q (d h:Rat)) cc:=by
  refine Ht.rat ?_ ?_
  ·rw[Rat.num_natCast,Int.natAbs_natCast];exact E.db h (by omega)
  rw[Rat.den_natCast];exact Nat.one_le_two_pow
 have k4:=k2.mul E'.zt TP;rw[mul_assoc,mul_comm (q _),hd,mul_one]at k4;refine⟨k1,k4,?_⟩;rw[eG E.rd.rl ha,E.rd.rl.root];have e3:val h t (a.drop (2^h))*q ((d h:Rat)⁻¹)*(val h t (a.drop (2^h))*q ((d h:Rat)⁻¹))*val h z (z.getD h [])=val h t (a.drop (2^h))*val h t (a.drop (2^h))*val h t (t.getD h []):=by
  rw[iV,E.lk.v h (by omega),dg,mul_assoc (_*_) (_*_),←mul_assoc (q _*q _) (q _*q _),iV (q _) (q _),mul_comm (q (d h:Rat)⁻¹),hd,one_mul,one_mul]
 rw[e3]at k3;exact k3
theorem cM.of {h:Nat}:∀(_:Ev cc h t z w d) {a b:El} {H K s:Nat},a.length=2^h→b.length=2^h→Ht h z w (val h t a) H→Ht h z w (val h t b) K→H+K≤s→cM (bM cc h s) h t a b:=by
 induction h with
 |zero=>
  intro E a b H K s ha hb hx hy hs;refine⟨(E.qb ha hx).mono (ui (by omega)),(E.qb hb hy).mono (ui (by omega)),(E.qb aa (H:=H+K) ?_).mono (ui (by omega))⟩;rw[val_mul E.rd.rl ha hb];exact hx.mul E.zt hy
 |succ h ih=>
  intro E a b H K s ha hb hx hy hs;have E':=E.le (Nat.le_succ h);have L':=E'.rd.rl;obtain⟨a1,a2,_⟩:=E.parts ha hx;obtain⟨b1,b2,_⟩:=E.parts hb hy;have r:=E.rb h (by omega);have hr:=(E.rd.rl h (by omega)).1;have p22:=a2.mul E'.zt b2;rw[←val_mul L' (ah ha) (ah hb)]at p22;have ih:=fun{a b:El} {H K:Nat} ha hb hx hy hs=>(ih E' (a:=a) (b:=b) (H:=H) (K:=K) (s:=2*s+3*cc) ha hb hx hy hs).mono Kw;refine⟨(E.qb ha hx).mono (ui (by omega)),(E.qb hb hy).mono (ui (by omega)),(E.qb aa (H:=H+K) ?_).mono (ui (by omega)),ih (ai ha) (ai hb) a1 b1 (by omega),ih (ah ha) (ah hb) a2 b2 (by omega),
   ih aa hr p22 r (by omega),ih (ai ha) (ah hb) a1 b2 (by omega),ih (ah ha) (ai hb) a2 b1 (by omega)⟩
  rw[val_mul E.rd.rl ha hb];exact hx.mul E.zt hy
def yS (X h:Nat)(t:List El)(a:El):Prop:=cM X h t (a.take (2^h)) (a.take (2^h))∧cM X h t (a.drop (2^h)) (a.drop (2^h))∧cM X h t (aj h t (a.drop (2^h)) (a.drop (2^h))) (t.getD h [])
theorem yS.mono {X Y h:Nat}(TX:X≤Y){t:List El}{a:El}(H:yS X h t a):yS Y h t a:=⟨H.1.mono TX,H.2.1.mono TX,H.2.2.mono TX⟩
def sX (cc h H:Nat):Nat:=2^h*(2*H+6*cc)/32+1
theorem sR {h H K:Nat}(e:H≤K):sX cc h H≤sX cc h K:=by
 unfold sX
 have:=O9 (2^h) (show 2*H+6*cc≤2*K+6*cc by omega)
 omega
theorem ql {h H K:Nat}(e:K≤2*H+3*cc):sX cc h K≤sX cc (h+1) H:=by
 unfold sX;rw[O4,Nat.mul_assoc]
 have:=O9 (2^h) (show 2*K+6*cc≤2*(2*H+6*cc) by omega)
 omega
theorem so {h H:Nat}:bW cc h H≤sX cc h H:=by
 unfold bW sX
 have:=O9 (2^h) (show H+cc≤2*H+6*cc by omega)
 omega
theorem zD {h s H:Nat}(e:s≤4*H+9*cc):bM cc h s≤sX cc (h+1) H:=by
 unfold bM sX;rw[O4,Nat.mul_assoc]
 have:=O9 (2^h) (show s+3*cc≤2*(2*H+6*cc) by omega)
 omega
theorem yS.of {h:Nat}(E:Ev cc (h+1) t z w d){a:El}{H:Nat}(ha:a.length=2^(h+1))(hx:Ht (h+1) z w (val (h+1) t a) H):yS (sX cc (h+1) H) h t a:=by
 have E':=E.le (Nat.le_succ h);obtain⟨h1,h2,_⟩:=E.parts ha hx;have p:=h2.mul E'.zt h2;rw[←val_mul E'.rd.rl (ah ha) (ah ha)]at p;exact⟨(cM.of E' (ai ha) (ai ha) h1 h1 (O1 _)).mono (zD (by omega)),(cM.of E' (ah ha) (ah ha) h2 h2 (O1 _)).mono (zD (by omega)),
  (cM.of E' aa (E.rd.rl h (by omega)).1 p (E.rb h (by omega)) (O1 _)).mono (zD (by omega))⟩
def iF (X:Nat):Nat→List El→El→Prop
 |0,_,a=>QB X a
 |h+1,t,a=>QB X a∧yS X h t a∧iF X h t (a.take (2^h))∧iF X h t (a.drop (2^h))∧iF X h t (aO h t a)
theorem iF.mono {X Y:Nat}(TX:X≤Y){h:Nat}:∀{t:List El} {a:El},iF X h t a→iF Y h t a:=by
 induction h with
 |zero=>intro t a H;exact QB.mono H TX
 |succ h ih=>intro t a H;exact⟨H.1.mono TX,H.2.1.mono TX,ih H.2.2.1,ih H.2.2.2.1,ih H.2.2.2.2⟩
theorem iF.qb {X h:Nat}{t:List El}{a:El}(H:iF X h t a):QB X a:=by
 cases h with
 |zero=>exact H
 |succ h=>exact H.1
theorem iF.of {h:Nat}:∀(_:Ev cc h t z w d) {a:El} {H:Nat},a.length=2^h→Ht h z w (val h t a) H→iF (sX cc h H) h t a:=by
 induction h with
 |zero=>intro E a H ha hx;exact(E.qb ha hx).mono so
 |succ h ih=>
  intro E a H ha hx;obtain⟨h1,h2,h3⟩:=E.parts ha hx;have ih:=fun{a:El} {K:Nat} hl hx (hK:K≤2*H+3*cc)=>(ih (E.le (Nat.le_succ h)) (a:=a) (H:=K) hl hx).mono (ql hK);exact⟨(E.qb ha hx).mono so,yS.of E ha hx,ih (ai ha) h1 (by omega),ih (ah ha) h2 (by omega),ih aJ h3 (by omega)⟩
def mn (X:Nat):Nat→List El→El→Prop
 |0,_,a=>QB X a
 |h+1,t,a=>QB X a∧yS X h t a∧mn X h t (a.take (2^h))∧mn X h t (aO h t a)∧(∀n,cF h t (a.take (2^h))=some n→QB X n)∧
  ∀n,cF h t (aO h t a)=some n→cM X h t (a.take (2^h)) n∧cM X h t (a.drop (2^h)) n
theorem mn.mono {X Y:Nat}(TX:X≤Y){h:Nat}:∀{t:List El} {a:El},mn X h t a→mn Y h t a:=by
 induction h with
 |zero=>intro t a H;exact QB.mono H TX
 |succ h ih=>intro t a ⟨h1,h2,h3,h4,h5,h6⟩;exact⟨h1.mono TX,h2.mono TX,ih h3,ih h4,fun n hn=>(h5 n hn).mono TX,fun n hn=>⟨(h6 n hn).1.mono TX,(h6 n hn).2.mono TX⟩⟩
theorem mn.qb {X h:Nat}{t:List El}{a:El}(H:mn X h t a):QB X a:=by
 cases h with
 |zero=>exact H
 |succ h=>exact H.1
theorem Ev.PZ {h:Nat}(E:Ev cc h t z w d){a n:El}{H:Nat}(ha:a.length=2^h)(hx:Ht h z w (val h t a) H)(hn:cF h t a=some n):QB (bW cc h H) n:=by
 obtain⟨hl,hv⟩:=dz E.rd.rl ha hn;exact E.qb hl (hx.inv hv)
theorem Ev.inv {h:Nat}(E:Ev cc h t z w d){a n:El}{H:Nat}(ha:a.length=2^h)(hx:Ht h z w (val h t a) H)(hn:cF h t a=some n):n.length=2^h∧Ht h z w (val h t n) H:=by
 obtain⟨hl,hv⟩:=dz E.rd.rl ha hn;exact⟨hl,hx.inv hv⟩
theorem mn.of {h:Nat}:∀(_:Ev cc h t z w d) {a:El} {H:Nat},a.length=2^h→Ht h z w (val h t a) H→mn (sX cc h H) h t a:=by
 induction h with
 |zero=>intro E a H ha hx;exact(E.qb ha hx).mono so
 |succ h ih=>
  intro E a H ha hx;obtain⟨h1,h2,h3⟩:=E.parts ha hx;have E':=E.le (Nat.le_succ h);have ih:=fun{a:El} {K:Nat} hl hx (hK:K≤2*H+3*cc)=>(ih E' (a:=a) (H:=K) hl hx).mono (ql hK);refine⟨(E.qb ha hx).mono so,yS.of E ha hx,ih (ai ha) h1 (by omega),ih aJ h3 (by omega),fun n hn=>(E'.PZ (ai ha) h1 hn).mono (O0 so (ql (by omega))),fun n hn=>?_⟩;obtain⟨hl,hy⟩:=E'.inv aJ h3 hn;exact⟨(cM.of E' (ai ha) hl h1 hy (O1 _)).mono (zD (by omega)),(cM.of E' (ah ha) hl h2 hy (O1 _)).mono (zD (by omega))⟩
def pA (h:Nat):El:=aU h ((2:Rat)⁻¹)
def kE (X:Nat):Nat→List El→El→Prop
 |0,_,a=>QB X a
 |h+1,t,a=>iF X (h+1) t a∧
  (a.drop (2^h)=zE (2^h)→kE X h t (a.take (2^h))∧mn X h t (t.getD h [])∧∀i,cF h t (t.getD h [])=some i→cM X h t (a.take (2^h)) i∧kE X h t (aj h t (a.take (2^h)) i))∧
  (a.drop (2^h)≠zE (2^h)→kE X h t (aO h t a)∧∀n,n.length=2^h→val h t n*val h t n=val h t (aO h t a)→
   QB X n∧cM X h t (aC (a.take (2^h)) n) (pA h)∧kE X h t (aj h t (aC (a.take (2^h)) n) (pA h))∧
   ∀p,p.length=2^h→val h t p*val h t p=val h t (aj h t (aC (a.take (2^h)) n) (pA h))→
    QB X p∧mn X h t p∧mn X h t (aC p p)∧(∀i,cF h t p=some i→cM X h t (a.drop (2^h)) i∧cM X h t (aj h t (a.drop (2^h)) i) (pA h))∧(∀i,cF h t (aC p p)=some i→cM X h t (a.drop (2^h)) i))
theorem kE.mono {X Y:Nat}(TX:X≤Y){h:Nat}:∀{t:List El} {a:El},kE X h t a→kE Y h t a:=by
 induction h with
 |zero=>intro t a H;exact QB.mono H TX
 |succ h ih=>
  intro t a H;obtain⟨h1,h2,h3⟩:=H;refine⟨h1.mono TX,fun e=>?_,fun e=>?_⟩
  ·obtain⟨g1,g2,g3⟩:=h2 e;exact⟨ih g1,g2.mono TX,fun i hi=>⟨(g3 i hi).1.mono TX,ih (g3 i hi).2⟩⟩
  obtain⟨g1,g2⟩:=h3 e;refine⟨ih g1,fun n hn he=>?_⟩;obtain⟨k1,k2,k3,k4⟩:=g2 n hn he;refine⟨k1.mono TX,k2.mono TX,ih k3,fun p hp Vp=>?_⟩;obtain⟨m1,m2,m3,m4,m5⟩:=k4 p hp Vp;exact⟨m1.mono TX,m2.mono TX,m3.mono TX,fun i hi=>⟨(m4 i hi).1.mono TX,(m4 i hi).2.mono TX⟩,fun i hi=>(m5 i hi).mono TX⟩
theorem kE.qb {X h:Nat}{t:List El}{a:El}(H:kE X h t a):QB X a:=by
 cases h with
 |zero=>exact H
 |succ h=>exact H.1.qb
theorem Ht.half {h:Nat}{z:List El}{w:Nat→Nat}:Ht h z w (q ((2:Rat)⁻¹)) 1:=Ht.rat (by decide+kernel) (by decide+kernel)
theorem Ev.pB {h:Nat}(E:Ev cc (h+1) t z w d):Ht h z w (val h t (t.getD h [])) cc:=E.rb h (by omega)
theorem Qv {W h H:Nat}:H≤2*rS W h H:=by
 cases h with
 |zero=>unfold rS;omega
 |succ h=>rw[rS];omega
theorem kE.low {h:Nat}{X:Nat}{a:El}(h0:a.drop (2^h)=zE (2^h))(hs:iF X (h+1) t a)
  (h1:kE X h t (a.take (2^h))) (h2:mn X h t (t.getD h [])) (h3:∀i,cF h t (t.getD h [])=some i→cM X h t (a.take (2^h)) i∧kE X h t (aj h t (a.take (2^h)) i)):kE X (h+1) t a:=
 ⟨hs,fun _=>⟨h1,h2,h3⟩,fun e=>absurd h0 e⟩
theorem zT {h s:Nat}:bM cc h s≤sX cc h s:=by
 unfold bM sX
 have:=O9 (2^h) (show s+3*cc≤2*s+6*cc by omega)
 omega
structure Q0 (cc h:Nat) (z:List El) (w:Nat→Nat) (ρ N:Nat→Nat→Nat):Prop where
 r:∀{i:Nat} {y x:R} {H:Nat},i<h→In i z y→y*y=x→Ht i z w x H→Ht i z w y (ρ i H)
 z:∀{h H:Nat},sX cc h H≤N h H
 s:∀{h H K:Nat},K≤2*H+ρ h (2*H)+2+2*cc→N h K≤N (h+1) H
 p:∀{h H K:Nat},K≤ρ h (2*H+ρ h (2*H)+2)+ρ h (2*H)+2*H+2*cc+4→sX cc h K≤N (h+1) H
theorem kE.of {ρ N:Nat→Nat→Nat}{h:Nat}:∀(_:Ev cc h t z w d) (_:Q0 cc h z w ρ N) {a:El} {H:Nat},a.length=2^h→Ht h z w (val h t a) H→kE (N h H) h t a:=by
 induction h with
 |zero=>intro E n a H ha hx;exact(E.qb ha hx).mono (O0 so n.z)
 |succ h ih=>
  intro E n a H ha hx;have E':=E.le (Nat.le_succ h);have n':Q0 cc h z w ρ N:=⟨fun hi=>n.r (by omega),n.z,n.s,n.p⟩;have Z':=E'.zt;have L':=E'.rd.rl;obtain⟨h1,h2,h3⟩:=E.parts ha hx;have ih:=fun{a:El} {K:Nat} hl hx (hK:K≤2*H+ρ h (2*H)+2+2*cc)=>(ih E' n' (a:=a) (H:=K) hl hx).mono (n.s hK);have kq:∀{K:Nat},K≤ρ h (2*H+ρ h (2*H)+2)+ρ h (2*H)+2*H+2*cc+4→bW cc h K≤N (h+1) H:=fun hK=>O0 so (n.p hK);have km:∀{K:Nat},K≤ρ h (2*H+ρ h (2*H)+2)+ρ h (2*H)+2*H+2*cc+4→bM cc h K≤N (h+1) H:=fun hK=>O0 zT (n.p hK);refine⟨(iF.of E ha hx).mono n.z,fun e=>?_,fun e=>?_⟩
  ·have hr:=E.pB;have WA:=(E.rd.rl h (by omega)).1;refine⟨ih (ai ha) h1 (by omega),(mn.of E' WA hr).mono (n.p (by omega)),fun i hi=>?_⟩;obtain⟨hl,Xn⟩:=E'.inv WA hr hi;have Xb:=h1.mul Z' Xn;rw[←val_mul L' (ai ha) hl]at Xb;exact⟨(cM.of E' (ai ha) hl h1 Xn (O1 _)).mono (km (by omega)),ih aa Xb (by omega)⟩
  refine⟨ih aJ h3 (by omega),fun m hn he=>?_⟩;have k1:=n.r (Nat.lt_succ_self h) ((E'.lk.eK L' _).1 (.of hn)) he h3;have k2:=h1.add Z' k1;rw[←val_add (ai ha) hn]at k2;have hhl:(pA h).length=2^h:=aA;have hh:Ht h z w (val h t (pA h)) 1:=by rw[show val h t (pA h)=q ((2:Rat)⁻¹)from bx];exact Ht.half
  have hal:=ar (ai ha) hn;have m1:=cM.of E' hal hhl k2 hh (O1 _);have k3:=k2.mul Z' hh;rw[←val_mul L' hal hhl]at k3;have k3:=k3.mono (K:=2*H+ρ h (2*H)+2) (by omega);refine⟨(E'.qb hn k1).mono (kq (by omega)),m1.mono (km (by omega)),ih aa k3 (by omega),fun p hp Vp=>?_⟩;have k4:=n.r (Nat.lt_succ_self h) ((E'.lk.eK L' _).1 (.of hp)) Vp k3;have k5:=Ht.two.mul Z' k4;rw[←xq,←val_add hp hp]at k5;refine⟨(E'.qb hp k4).mono (kq (by omega)),(mn.of E' hp k4).mono (n.p (by omega)),(mn.of E' (ar hp hp) k5).mono (n.p (by omega)),fun i hi=>?_,fun i hi=>?_⟩
  ·obtain⟨hl,k6⟩:=E'.inv hp k4 hi;have k7:=h2.mul Z' k6;rw[←val_mul L' (ah ha) hl]at k7;exact⟨(cM.of E' (ah ha) hl h2 k6 (O1 _)).mono (km (by omega)),(cM.of E' aa hhl k7 hh (O1 _)).mono (km (by omega))⟩
  obtain⟨hl,k6⟩:=E'.inv (ar hp hp) k5 hi;exact(cM.of E' (ah ha) hl h2 k6 (O1 _)).mono (km (by omega))
def rX (h H:Nat):Nat:=sX cW h (2*rS cW h H+8*cW+8)
theorem Kh {h H K:Nat}(e:H≤K):rX h H≤rX h K:=sR (by have:=lU (W:=cW) (h:=h) e;omega)
theorem Ev.MU {h:Nat}(E:Ev cW h t z w d):Q0 cW h z w (rS cW) rX:=by
 have hd:∀h H,rS cW (h+1) H=2*rS cW h (2*H+rS cW h (2*H)+2+2*cW)+2*H+cW+2:=fun h H=>by rw[rS]
 refine⟨fun{i} {y x H} hi hy e hx=>?_,fun{h H}=>?_,fun{h H K} hK=>?_,fun{h H K} hK=>?_⟩
 ·have E':=E.le (Nat.le_of_lt hi);exact Ht.sqrt E'.zt E'.wb hy e hx
 ·have:=Qv (W:=cW) (h:=h) (H:=H)
  exact sR (by omega)
 ·have:=lU (W:=cW) (h:=h) hK
  have:=hd h H
  refine ql ?_;omega
 have h1:rS cW h (2*H+rS cW h (2*H)+2)≤rS cW h (2*H+rS cW h (2*H)+2+2*cW):=lU (by omega);have h2:rS cW h (2*H)≤rS cW h (2*H+rS cW h (2*H)+2+2*cW):=lU (by omega)
 have:=hd h H
 exact ql (by omega)
end
end Go.Tw
namespace Go.Tw
open Go Go.R Go.Eng
theorem R1 {t:List El}:Zt 0 t (fun _=>1):=⟨⟨fun i hi=>absurd hi (O5 _),fun i hi=>absurd hi (O5 _)⟩,fun i hi=>absurd hi (O5 _),fun i hi=>absurd hi (O5 _)⟩
def jS:Nat:=2^36
end Go.Tw
namespace Go.Tw
open Go Go.R Go.Eng
theorem Aj {n:Nat}(h:0<n):q (n:Rat)≠q 0:=jQ (qH h)
theorem DB (n:Nat):rY (n:Rat):=⟨(n:Int),(Rat.intCast_natCast _).symm⟩
theorem IV (n:Nat):ab (n:Rat)=(n:Rat):=by unfold ab;rw[if_pos Rat.natCast_nonneg]
theorem G5 {n H:Nat}(h:n≤2^H):(n:Rat)≤p2 H:=Rat.natCast_le_natCast.2 h
def Ih (h:Nat)(z:List El)(w:Nat→Nat)(x:R)(H:Nat):Prop:=
 ∃(M:El) (N:Nat),M.length=2^h∧bf M∧0<N∧x*q (N:Rat)=val h z M∧cH h w M≤p2 H∧N≤2^H
section
variable {h:Nat}{z:List El}{w:Nat→Nat}
theorem Ih.mono {x:R}{H K:Nat}(hx:Ih h z w x H)(hk:H≤K):Ih h z w x K:=by
 obtain⟨M,N,hM,iM,hN,e,nM,lN⟩:=hx;exact⟨M,N,hM,iM,hN,e,Rat.le_trans nM (gT hk),O0 lN (O3 (by decide) hk)⟩
theorem Ih.ht {x:R}{H:Nat}(hx:Ih h z w x H):Ht h z w x H:=by
 obtain⟨M,N,hM,iM,hN,e,nM,lN⟩:=hx;refine⟨M,aU h (N:Rat),hM,aA,iM,bf.rat (DB N),by rw[bx];exact Aj hN,by rw[bx];exact e,nM,?_⟩;rw[gU,IV];exact G5 lN
theorem smul (Z:Zt h z w){M:El}(hM:M.length=2^h)(iM:bf M){H:Nat}(nM:cH h w M≤p2 H){n K:Nat}(hn:n≤2^K):
  ∃P:El,P.length=2^h∧bf P∧val h z P=q (n:Rat)*val h z M∧cH h w P≤p2 (K+H):=by
 refine⟨aj h z (aU h (n:Rat)) M,aa,bf.mul Z.int (bf.rat (DB n)) iM,by rw[val_mul Z.rd.rl aA hM,bx],?_⟩;refine Rat.le_trans (dP Z.wt Z.rd.rl aA hM) (dS bV ?_ nM);rw[gU,IV];exact G5 hn
theorem NB {P S:El}(hP:P.length=2^h)(hS:S.length=2^h){H:Nat}(nP:cH h w P≤p2 H)(nS:cH h w S≤p2 H):cH h w (aC P S)≤p2 (H+1):=by
 have:=p6 (w:=w) hP hS
 rw[oV,yl];grind
theorem Ih.add (Z:Zt h z w){x y:R}{H K:Nat}(hx:Ih h z w x H)(hy:Ih h z w y K):Ih h z w (x+y) (H+K+1):=by
 obtain⟨M,N,hM,iM,hN,e,nM,lN⟩:=hx;obtain⟨M',N',hM',iM',hN',e',nM',lN'⟩:=hy;obtain⟨P,hP,iP,vP,nP⟩:=smul Z hM iM nM lN';obtain⟨S,hS,iS,vS,nS⟩:=smul Z hM' iM' nM' lN;rw[Nat.add_comm K H]at nP;refine⟨aC P S,N*N',ar hP hS,bf.add iP iS,Nat.mul_pos hN hN',?_,NB hP hS nP nS,?_⟩
 ·rw[val_add hP hS,vP,vS,←e,←e',Rat.natCast_mul,dg,Eb,mul_comm (q (N':Rat)),mul_comm (q (N:Rat)) (y*_)]
 refine O0 (Nat.mul_le_mul lN lN') ?_;rw[←Nat.pow_add];exact O3 (by decide) (by omega)
theorem Ih.mul (Z:Zt h z w){x y:R}{H K:Nat}(hx:Ih h z w x H)(hy:Ih h z w y K):Ih h z w (x*y) (H+K):=by
 obtain⟨M,N,hM,iM,hN,e,nM,lN⟩:=hx;obtain⟨M',N',hM',iM',hN',e',nM',lN'⟩:=hy;refine⟨aj h z M M',N*N',aa,bf.mul Z.int iM iM',Nat.mul_pos hN hN',?_,Rat.le_trans (dP Z.wt Z.rd.rl hM hM') (dS bV nM nM'),?_⟩
 ·rw[val_mul Z.rd.rl hM hM',←e,←e',Rat.natCast_mul,dg,iV]
 rw[Nat.pow_add];exact Nat.mul_le_mul lN lN'
theorem Ih.neg {x:R}{H:Nat}(hx:Ih h z w x H):Ih h z w (-x) H:=by
 obtain⟨M,N,hM,iM,hN,e,nM,lN⟩:=hx;exact⟨aH M,N,by rw[au,hM],iM.neg,hN,by rw[neg_mul,e,val_neg hM],by rw[pK hM];exact nM,lN⟩
theorem Ih.rat {x:Rat}{H:Nat}(h1:x.num.natAbs≤2^H)(h2:x.den≤2^H):Ih h z w (q x) H:=by
 refine⟨aU h (x.num:Rat),x.den,aA,bf.rat ⟨_,rfl⟩,x.den_pos,by rw[bx,←dg,sK],?_,h2⟩;rw[gU];unfold ab p2
 have:((x.num.natAbs:Nat):Rat)≤((2^H:Nat):Rat):=Rat.natCast_le_natCast.2 h1
 refine Rat.le_trans ?_ this;rw[←Rat.intCast_natCast]
 split
 ·exact Rat.intCast_le_intCast.2 (by omega)
 rw[←Rat.intCast_neg];exact Rat.intCast_le_intCast.2 (by omega)
theorem Ra.ih {B:Nat}{a:R}(H:Ra B a):Ih h z w a B:=by
 obtain⟨x,rfl,h1,h2⟩:=H;exact Ih.rat h1 h2
theorem Ih.up {x:R}{H:Nat}(hx:Ih h z w x H):Ih (h+1) z w x H:=by
 obtain⟨M,N,hM,iM,hN,e,nM,lN⟩:=hx;refine⟨M++zE (2^h),N,by rw[X6,hM,av,O4];omega,iM.app bf.zero,hN,by rw[kD hM];exact e,?_,lN⟩;rw[jb hM,kM];grind
theorem Ih.le {k:Nat}{x:R}{H:Nat}(hx:Ih h z w x H)(hk:h≤k):Ih k z w x H:=by
 obtain⟨d,rfl⟩:=Nat.exists_eq_add_of_le hk;clear hk
 induction d with
 |zero=>exact hx
 |succ d ih=>exact ih.up
theorem Ih.split (Z:Zt (h+1) z w){u v:R}{H:Nat}(hu:In h z u)(hv:In h z v)(hx:Ih (h+1) z w (u+v*R.sqrt (val h z (z.getD h []))) H):Ih h z w u H∧Ih h z w v H:=by
 obtain⟨M,N,hM,iM,hN,e,nM,lN⟩:=hx;have Z':=Z.le (Nat.le_succ h);rw[add_mul,mul_assoc v,mul_comm (R.sqrt _),←mul_assoc v]at e;obtain⟨s1,s2⟩:=gI Z.rd (In.mul Z'.rd.rl hu (In.rat _)) (In.mul Z'.rd.rl hv (In.rat _)) (.of (ai hM)) (.of (ah hM)) e;exact⟨⟨_,N,ai hM,iM.take _,hN,s1,Rat.le_trans x9 nM,lN⟩,⟨_,N,ah hM,iM.drop _,hN,s2,Rat.le_trans (DO Z.wt) nM,lN⟩⟩
end
theorem GO {r:Rat}(h:rY (r*r)):rY r:=by
 obtain⟨m,hm⟩:=h;have h1:=(H8 r).2;rw[hm,Rat.den_intCast]at h1;have h2:r.den=1:=by
  rcases Nat.eq_zero_or_pos r.den with k|k
  ·exact absurd k r.den_nz
  refine Nat.le_antisymm ?_ k;refine Nat.le_of_not_lt fun hl=>?_
  have:=Nat.mul_le_mul hl hl
  omega
 refine⟨r.num,?_⟩
 have:=sK r
 rw[h2]at this;rw[←this];show r=r*((1:Nat):Rat);rw[show ((1:Nat):Rat)=1 from rfl,Rat.mul_one]
structure vh (h:Nat) (z:List El) (w:Nat→Nat) (C:Nat):Prop where
 ex:∃δ:Nat,0<δ∧δ≤2^C∧∀(y:R) (M:El) (H:Nat),In h z y→M.length=2^h→bf M→y*y=val h z M→cH h w M≤p2 (2*H)→
  ∃Y:El,Y.length=2^h∧bf Y∧y*q (δ:Rat)=val h z Y∧cH h w Y≤p2 (H+C)
theorem vh.zero {z:List El}{w:Nat→Nat}:vh 0 z w 0:=by
 refine⟨1,by decide,by decide,fun y M H hy hM iM e nM=>?_⟩;obtain⟨r,rfl⟩:=tJ hy;obtain⟨m,rfl⟩:=bw hM;have e:r*r=m:=j3 (by rw[dg];exact e);have im:=iM m (by simp);rw[←e]at im;have ir:=GO im;refine⟨[r],rfl,fun x hx=>by rw[List.mem_singleton.1 hx];exact ir,?_,?_⟩
 ·show q r*q 1=q r;rw[mul_one]
 have nM:ab m≤p2 (2*H):=nM;rw[←e,Jv,show 2*H=H+H by omega,oV]at nM;show ab r≤p2 H;have h1:=Na r;have h2:=IC H;refine Rat.not_lt.1 fun hl=>?_;have k1:=Rat.mul_lt_mul_of_pos_left hl (show 0<ab r by grind);have k2:=Rat.mul_le_mul_of_nonneg_left (Rat.le_of_lt hl) h2
 grind
instance:Std.Associative (α:=R) (· * ·):=⟨mul_assoc⟩
instance:Std.Commutative (α:=R) (· * ·):=⟨mul_comm⟩
theorem kR (m n:Nat):q ((m*n:Nat):Rat)=q (m:Rat)*q (n:Rat):=by rw[Rat.natCast_mul,dg]
theorem q2:q ((2:Nat):Rat)=q 2:=rfl
theorem vh.succ {h:Nat}{z:List El}{w:Nat→Nat}(Z:Zt (h+1) z w){C W:Nat}(hw:w h≤2^W)(S:vh h z w C):vh (h+1) z w (2*C+(2^(h+1)+1)*W+2):=by
 obtain⟨δ,d0,dl,S⟩:=S.ex;have Z':=Z.le (Nat.le_succ h);have L:=Z.rd.rl;have L':=Z'.rd.rl;have hr:=L h (by omega);have hwp:(w h:Rat)≤p2 W:=Rat.natCast_le_natCast.2 hw;have nR:cH h w (z.getD h [])≤p2 (2*W):=by
  rw[show 2*W=W+W by omega];exact Rat.le_trans (Z.wt h (by omega)).2 (dS Rat.natCast_nonneg hwp hwp)
 obtain⟨A,Nz,hA,iA,nz0,eA,nA,lN⟩:=NA Z' hr.1 (Z.int h (by omega)) (jQ hr.2) nR;obtain⟨B,hB⟩:∃B,B=2^(h+1)*W:=⟨_,rfl⟩;have eB:2^h*(2*W)=B:=by rw[hB,O4,Nat.mul_assoc]
 have eW:(2^(h+1)+1)*W=B+W:=by rw[Nat.add_mul,←hB,Nat.one_mul]
 rw[eB]at lN;have nA:cH h w A≤p2 B:=Rat.le_trans nA (gT (by rw[←eB];exact O8 _ (Nat.sub_le _ _)));rw[eW];refine⟨2*Nz*(δ*δ),Nat.mul_pos (by omega) (Nat.mul_pos d0 d0),?_,fun y M H hy hM iM e nM=>?_⟩
 ·refine O0 (Nat.mul_le_mul (O9 2 lN) (Nat.mul_le_mul dl dl)) ?_;rw[←Nat.pow_add,show 2*2^B=2^(B+1) by rw[O4,O6],←Nat.pow_add];exact O3 (by decide) (by omega)
 obtain⟨p,g,hp,hg,rfl⟩:=hy.split;have Xn:In h z (val h z (z.getD h [])):=.of hr.1;have e':(p*p+g*g*val h z (z.getD h []))+(p*g+p*g)*R.sqrt (val h z (z.getD h []))=val h z (M.take (2^h))+val h z (M.drop (2^h))*R.sqrt (val h z (z.getD h [])):=by
  have e:=e;rw[zP,L.root]at e;exact e
 obtain⟨e1,e2⟩:=gI Z.rd ((In.mul L' hp hp).add (In.mul L' (In.mul L' hg hg) Xn)) ((In.mul L' hp hg).add (In.mul L' hp hg)) (.of (ai hM)) (.of (ah hM)) e'
 -- the root of the norm
 have en:(p*p+ -(g*g*val h z (z.getD h [])))*(p*p+ -(g*g*val h z (z.getD h [])))=val h z (aO h z M):=by
  rw[eG L hM,L.root,←e1,←e2,CM]
 have nN:cH h w (aO h z M)≤p2 (2*(2*H)):=by
  rw[show 2*(2*H)=2*H+2*H by omega];exact Rat.le_trans (nG Z.wt L hM) (dS bV nM nM)
 obtain⟨Yn,Uc,iYn,vYn,nYn⟩:=S _ (aO h z M) (2*H) ((In.mul L' hp hp).add (In.mul L' (In.mul L' hg hg) Xn).neg) aJ (nO Z.int iM) en nN;have nM1:cH h w (M.take (2^h))≤p2 (2*H):=Rat.le_trans x9 nM;obtain⟨P1,Zy,iP1,vP1,nP1⟩:=smul Z' (ai hM) (iM.take _) nM1 dl;have nYn':cH h w Yn≤p2 (C+2*H):=by rw[Nat.add_comm];exact nYn
 have hnY:(aH Yn).length=2^h:=by rw[au,Uc]
 have nS1:=NB Zy Uc nP1 nYn';have nD1:=NB Zy hnY nP1 (by rw[pK Uc];exact nYn');have hS1:=ar Zy Uc;have hD1:=ar Zy hnY;have l2:2*δ≤2^(C+1):=by rw[O4];omega
 obtain⟨Mp,hMp,iMp,vMp,nMp⟩:=smul Z' hS1 (bf.add iP1 iYn) nS1 l2;obtain⟨r,TT⟩:∃r,r=val h z (z.getD h []):=⟨_,rfl⟩;rw[←TT]at e1 eA vYn;have vS:val h z (aC P1 Yn)=(p*p+p*p)*q (δ:Rat):=by
  rw[val_add Zy Uc,vP1,←vYn,←e1,mul_comm (q (δ:Rat)),←add_mul,GK]
 have vD:val h z (aC P1 (aH Yn))=(g*g+g*g)*r*q (δ:Rat):=by
  rw[val_add Zy hnY,val_neg Uc,vP1,←vYn,←e1,mul_comm (q (δ:Rat)),←neg_mul,←add_mul,mO,neg_neg]
  congr 1
  generalize g*g=c
  generalize p*p=b
  rw[add_mul,add_comm b (c*r),add_assoc,←add_assoc b,add_neg,zero_add]
 obtain⟨Yp,hYp,iYp,vYp,nYp⟩:=S (q ((2*δ:Nat):Rat)*p) Mp (H+C+1) (In.mul L' (In.rat _) hp) hMp iMp (by
  rw[vMp,vS,kR,q2,xq]
  ac_rfl) (Rat.le_trans nMp (gT (by omega)))
 have hDA:(aj h z (aC P1 (aH Yn)) A).length=2^h:=aa;have nDA:=Rat.le_trans (dP Z'.wt L' hD1 hA) (dS bV nD1 nA);have l3:2*Nz*δ≤2^(B+1+C):=by
  rw[Nat.pow_add,O4];exact Nat.mul_le_mul (by omega) dl
 obtain⟨Mg,hMg,iMg,vMg,nMg⟩:=smul Z' hDA (bf.mul Z'.int (bf.add iP1 iYn.neg) iA) nDA l3;obtain⟨Yg,hYg,iYg,vYg,nYg⟩:=S (q ((2*Nz*δ:Nat):Rat)*g) Mg (H+C+1+B) (In.mul L' (In.rat _) hg) hMg iMg (by
  rw[vMg,val_mul L' hD1 hA,vD,xq,kR,kR,q2]
  have:q 2*q (Nz:Rat)*q (δ:Rat)*(q 2*(g*g)*r*q (δ:Rat)*val h z A)=q 2*q (Nz:Rat)*q (δ:Rat)*(q 2*(g*g)*q (δ:Rat)*(r*val h z A)):=by ac_rfl
  rw[this,eA]
  ac_rfl) (Rat.le_trans nMg (gT (by omega)))
 obtain⟨P3,hP3,iP3,vP3,nP3⟩:=smul Z' hYp iYp nYp lN;refine⟨P3++Yg,by rw[X6,hP3,hYg,O4];omega,iP3.app iYg,?_,?_⟩
 ·rw[ft hP3,←TT,vP3,←vYp,←vYg,add_mul];have k1:p*q ((2*Nz*(δ*δ):Nat):Rat)=q (Nz:Rat)*(q ((2*δ:Nat):Rat)*p*q (δ:Rat)):=by
   simp only[kR];ac_rfl
  have k2:∀s:R,g*s*q ((2*Nz*(δ*δ):Nat):Rat)=q ((2*Nz*δ:Nat):Rat)*g*q (δ:Rat)*s:=fun s=>by
   simp only[kR];ac_rfl
  rw[k1,k2]
 rw[jb hP3];have a1:cH h w P3≤p2 (H+C+1+B+C+W):=Rat.le_trans nP3 (gT (by omega));have a2:cH h w Yg*(w h:Rat)≤p2 (H+C+1+B+C+W):=dS bV nYg hwp;have a3:cH h w P3+cH h w Yg*(w h:Rat)≤p2 (H+C+1+B+C+W+1):=by
  rw[oV _ 1,yl];grind
 exact Rat.le_trans a3 (gT (by omega))
end Go.Tw
