/-
  MatrixInvalid: for every input the law returns true, and each argument reads afterwards as it read before. No condition beyond the cells of the given rows.
  (Text 5 of 9; made by a program out of smaller texts.)
-/
import Derived.WalkKit
import Derived.Test.YtgcmkdgpaibpeaaGreatP4
set_option linter.unusedSimpArgs false
set_option linter.unusedVariables false
set_option maxHeartbeats 16000000
set_option maxRecDepth 10000
open Nat renaming reduceAdd→J1,reduceMul→J2,reduceSub→J3,reduceEqDiff→J4,reduceLT→J5,reduceLeDiff→J6,reduceBEq→J7,reduceDiv→J8,reduceMod→J9,reducePow→J0
open Int renaming reduceToNat→K1,reduceLE→K2,reduceLT→K3,reduceEq→K4,reducePow→K5,reduceSub→K6,reduceNeg→K7,natCast_add→X2,natCast_one→X3,natCast_zero→X4
open List renaming getD_cons_zero→X0,getD_cons_succ→X1,length_take→X5,length_append→X6,getD_eq_getElem?_getD→X7,getElem?_eq_getElem→X8
/-
  Rational numbers: what the code's quotients come to.
-/
namespace Go.Eng
def qm (q:Rat):Nat:=max (zn q.num) (nl q.den)
theorem wW {n:Int}{d:Nat}(hd:0<d):0<Int.gcd n d:=by
 unfold Int.gcd;exact Nat.gcd_pos_of_pos_right _ (by simpa using hd)
theorem xJ {n:Int}{d:Nat}(hd:0<d):n.fdiv (Int.gcd n d)=(mkRat n d).num:=by
 rw[Rat.num_mkRat,if_neg (by omega),Int.fdiv_eq_ediv_of_nonneg _ (by omega)];unfold Int.gcd;rw[Nat.gcd_comm];rfl
theorem w9 {n:Int}{d:Nat}(hd:0<d):(d:Int).fdiv (Int.gcd n d)=((mkRat n d).den:Int):=by
 rw[Rat.den_mkRat,if_neg (by omega),Int.fdiv_eq_ediv_of_nonneg _ (by omega)];unfold Int.gcd;rw[Nat.gcd_comm];rfl
theorem fdiv_one (n:Int):n.fdiv 1=n:=by rw[Int.fdiv_eq_ediv_of_nonneg _ (by omega)];exact Int.ediv_one n
theorem Er (n:Int)(d:Nat):zn (mkRat n d).num≤zn n:=by
 rw[Rat.num_mkRat]
 split
 ·unfold zn;rw[Int.natAbs_zero,iO];omega
 refine rC ?_;exact Int.natAbs_ediv_le_natAbs _ _
theorem E7 {n:Int}{d:Nat}(h:0<d):nl (mkRat n d).den≤nl d:=by
 rw[Rat.den_mkRat,if_neg (by omega)];exact bh (Nat.div_le_self _ _)
theorem FH {n:Int}{d:Nat}(h:0<d):qm (mkRat n d)≤max (zn n) (nl d):=by
 have h1:=Er n d;have h2:=E7 (n:=n) h;unfold qm;omega
theorem MP (a b:Rat):qm (a*b)≤qm a+qm b:=by
 rw[Rat.mul_def'];have h:=FH (n:=a.num*b.num) (Nat.mul_pos a.den_pos b.den_pos);have h1:=cQ a.num b.num;have h2:=iu a.den b.den;unfold qm at*;omega
theorem aE (n:Nat):zn (n:Int)=nl n:=rfl
theorem NK (a b:Rat):qm (a+b)≤qm a+qm b+1:=by
 rw[Rat.add_def'];have h:=FH (n:=a.num*b.den+b.num*a.den) (Nat.mul_pos a.den_pos b.den_pos);have h1:=cQ a.num b.den;have h2:=cQ b.num a.den;have h3:=oy (a.num*b.den) (b.num*a.den);have h4:=iu a.den b.den;rw[aE]at h1 h2;unfold qm at*;omega
theorem add_one {a b:Rat}(ha:a.den=1)(hb:b.den=1):(a+b).num=a.num+b.num∧(a+b).den=1:=by
 rw[Rat.add_def',ha,hb]
 constructor
 ·rw[Rat.num_mkRat];simp
 rw[Rat.den_mkRat];simp
theorem yj {a b:Rat}(ha:a.den=1)(hb:b.den=1):(a*b).num=a.num*b.num∧(a*b).den=1:=by
 rw[Rat.mul_def',ha,hb]
 constructor
 ·rw[Rat.num_mkRat];simp
 rw[Rat.den_mkRat];simp
theorem DH {a b:Rat}(h:a.den.gcd b.den=1):(a+b).num=a.num*b.den+b.num*a.den∧(a+b).den=a.den*b.den:=by
 show(Rat.add a b).num=_∧(Rat.add a b).den=_
 delta Rat.add
 dsimp only
 rw[dif_pos h];exact⟨rfl,rfl⟩
theorem Kw {a b:Rat}{g:Nat}(hg:g=a.den.gcd b.den){num:Int}(hn:num=a.num*((b.den/g:Nat):Int)+b.num*((a.den/g:Nat):Int)){h:Nat}(hh:h=num.natAbs.gcd g):
  num.fdiv h=(a+b).num∧(((a.den/g)*(b.den/h):Nat):Int)=((a+b).den:Int):=by
 have hgp:0<g:=by rw[hg];exact Nat.gcd_pos_of_pos_left _ a.den_pos
 have hga:g∣a.den:=by rw[hg];exact Nat.gcd_dvd_left _ _
 have hgb:g∣b.den:=by rw[hg];exact Nat.gcd_dvd_right _ _
 have hdp:0<a.den/g:=Nat.div_pos (Nat.le_of_dvd a.den_pos hga) hgp;have e1:a+b=mkRat num (a.den/g*b.den):=by
  rw[Rat.add_def',←Rat.mkRat_mul_right (a:=g) (n:=num) (by omega)]
  congr 1
  ·rw[hn,Int.add_mul,Int.mul_assoc,Int.mul_assoc,←Int.natCast_mul,←Int.natCast_mul,Nat.div_mul_cancel hgb,Nat.div_mul_cancel hga]
  rw[Nat.mul_right_comm,Nat.div_mul_cancel hga]
 have e2:num.natAbs.gcd g=num.natAbs.gcd (a.den/g*b.den):=by
  have:=Rat.add.aux a b (g:=g) hg rfl rfl
  simp only[←hn]at this;exact this
 have hp:0<a.den/g*b.den:=Nat.mul_pos hdp b.den_pos;have e3:h=Int.gcd num ((a.den/g*b.den:Nat):Int):=by rw[hh,e2];rfl
 have hhb:h∣b.den:=Nat.dvd_trans (by rw[hh];exact Nat.gcd_dvd_right _ _) hgb;rw[e1]
 constructor
 ·rw[←xJ hp,←e3]
 rw[←w9 hp,←e3,Int.fdiv_eq_ediv_of_nonneg _ (by omega),←Nat.mul_div_assoc _ hhb,Int.natCast_ediv]
theorem Lc (a b:Rat){g h:Nat}(hg:g=a.num.natAbs.gcd b.den)(hh:h=b.num.natAbs.gcd a.den):
  a.num.fdiv g*b.num.fdiv h=(a*b).num∧(((a.den/h)*(b.den/g):Nat):Int)=((a*b).den:Int):=by
 have hga:(g:Int)∣a.num:=Int.ofNat_dvd_left.2 (by rw[hg];exact Nat.gcd_dvd_left _ _);have hhb:(h:Int)∣b.num:=Int.ofNat_dvd_left.2 (by rw[hh];exact Nat.gcd_dvd_left _ _);rw[Int.fdiv_eq_ediv_of_nonneg _ (by omega),Int.fdiv_eq_ediv_of_nonneg _ (by omega)];have e:a*b=Rat.mul a b:=rfl;rw[e]
 delta Rat.mul
 dsimp only
 simp only[Int.divExact_eq_tdiv,Nat.divExact_eq_div];subst hg hh;refine⟨?_,rfl⟩;rw[Int.tdiv_eq_ediv_of_dvd hga,Int.tdiv_eq_ediv_of_dvd hhb]
end Go.Eng
namespace Go.Proofs.YtgcmkdgpaibpeaaGreat
open Go.Proofs.Tryz
open Go Go.Eng
def QC (q:Rat):List C:=[.bool (zs q.num),.ints .u32 (zm q.num),.bool (zs (q.den:Int)),.ints .u32 (zm (q.den:Int))]
def QV (q:Rat):V:=.agg (QC q)
theorem Dr {z:Int}:z=1↔zs z=false∧zn z=1∧z.natAbs%BB=1:=by
 constructor
 ·rintro rfl;refine⟨rfl,?_,by decide⟩;have h1:zn 1≤1:=aD (by decide);have h2:zn 1≠0:=fun e=>by have:=dU.1 e;omega
  omega
 rintro⟨h1,h2,h3⟩;have h4:=dC.1 h1;have h5:z.natAbs<BB:=by have:=cJ.1 (show nl z.natAbs≤1 by unfold zn at h2;omega);simpa using this
 rw[Nat.mod_eq_of_lt h5]at h3;omega
theorem vb {p q:Bool}(h:p=q):fP (.one (.bool p)) (.one (.bool q)):=Ve (by rw[h])
theorem Cw (z:Int):(zm z).getD 0 0=((z.natAbs%BB:Nat):Int):=by
 unfold zm;rw[lG,Nat.pow_zero,Nat.div_one]
def Fm (s:Bool)(xs:List Int)(t:Bool)(ys:List Int):Bool:=
 Ar s xs&&(Ar t ys&&(decide (0<fv t (val ys))&&decide (((Int.gcd (fv s (val xs)) (fv t (val ys)):Nat):Int)=1)))
theorem LS (q:Rat):Fm (zs q.num) (zm q.num) (zs (q.den:Int)) (zm (q.den:Int))=true:=by
 unfold Fm;rw[kZ,bY,kZ,bY,LN,LN];have h1:=q.den_pos;have h2:Int.gcd q.num (q.den:Int)=1:=q.reduced;rw[h2]
 simp;omega
theorem jf (z:Int)(hz:zn z<2^60):Pr prog 209 [ZV z] (.one (.bool (decide (z=1)))):=by
 have hiff:=Dr (z:=z);refine pw func209 ⟨[0,1,2],[]⟩ ?_;simp only[Tryz.f209,ntmps209,iz,seval];simp only[vx,T,seval,ZV];refine⟨fun h1=>Lg ?_,fun h1=>Lg ?_⟩
 ·have h1:zs z=false:=by simpa using h1
  simp only[vx,T,seval];refine⟨fun h2=>Lg ?_,fun h2=>Lg ?_⟩
  ·rw[aU]at h2;simp only[vx,T,seval,aU,Cw];refine⟨by omega,vb (decide_eq_decide.2 ?_)⟩;rw[hiff];refine⟨fun h=>⟨h1,by omega,by omega⟩,fun h=>by omega⟩
  rw[aU]at h2;simp only[vx,T,seval];refine vb (decide_eq_false ?_).symm;rw[hiff];omega
 simp only[vx,T,seval];refine vb (decide_eq_false ?_).symm;rw[hiff];rintro⟨h2,_⟩;rw[h2]at h1;cases h1
theorem gy (z:Int)(hz:zn z<2^60):Pr prog 117 [ZV z] (.one (.bool (decide (z=1)))):=by
 have hiff:=Dr (z:=z);refine pw func117 ⟨[0,1,2],[]⟩ ?_;simp only[Tryz.f117,ntmps117,iz,seval];simp only[vx,T,seval,ZV];refine⟨fun h1=>Lg ?_,fun h1=>Lg ?_⟩
 ·rw[aU]at h1;simp only[vx,T,seval,aU,Cw];refine⟨by omega,?_⟩;refine⟨fun h2=>Lg ?_,fun h2=>Lg ?_⟩
  ·simp only[vx,T,seval];refine vb ?_
   cases hzs:zs z
   ·refine(decide_eq_true ?_).symm
    rw[hiff];exact⟨hzs,by omega,by omega⟩
   refine(decide_eq_false ?_).symm
   rw[hiff,hzs];rintro⟨h,_⟩
   cases h
  simp only[vx,T,seval];refine vb (decide_eq_false ?_).symm;rw[hiff];omega
 rw[aU]at h1;simp only[vx,T,seval];refine vb (decide_eq_false ?_).symm;rw[hiff];omega
theorem xr (s t:Bool)(xs ys:List Int)(hx:bK xs)(hy:bK ys)(hxl:xs.length<2^40)(hyl:ys.length<2^40):Pr prog 183 [.agg [.bool s,.ints .u32 xs,.bool t,.ints .u32 ys]] (.one (.bool (Fm s xs t ys))):=by
 refine pw func183 ⟨[0,1,2],[]⟩ ?_;simp only[Tryz.f183,ntmps183,iz,seval];simp only[vx,T,seval];refine Cg (rE s xs hx (by omega)) ?_;simp only[vx,T,seval];refine⟨fun h1=>Lg ?_,fun h1=>Lg ?_⟩
 ·simp only[vx,T,seval];refine Cg (rE t ys hy (by omega)) ?_;simp only[vx,T,seval];refine⟨fun h2=>Lg ?_,fun h2=>Lg ?_⟩
  ·obtain⟨z,rfl,rfl⟩:=xy h1;obtain⟨d,rfl,rfl⟩:=xy h2;rw[aU]at hxl hyl;have hok:Fm (zs z) (zm z) (zs d) (zm d)=(decide (0<d)&&decide (((Int.gcd z d:Nat):Int)=1)):=by
    unfold Fm;rw[h1,h2,kZ,bY,kZ,bY];rfl
   rw[hok];simp only[vx,T,seval];refine Cg (fJ d (by omega)) ?_;simp only[vx,T,seval]
   have hs:(0<bJ d)↔0<d:=by unfold bJ;(repeat' split)<;>omega
   refine⟨fun h3=>Lg ?_,fun h3=>Lg ?_⟩
   ·rw[hs]at h3;simp only[vx,T,seval];refine Cg (qt z d (by omega) (by omega)) ?_;have hgn:zn (Int.gcd z d)≤zn d:=rC (by
     have:=Nat.gcd_le_right z.natAbs (show 0<d.natAbs by omega)
     exact this)
    simp only[vx,T,seval,ZV];refine Cg (jf (Int.gcd z d) (by omega)) ?_;simp only[vx,T,seval];refine vb ?_;rw[decide_eq_true h3];rfl
   rw[hs]at h3;simp only[vx,T,seval];refine vb ?_;rw[decide_eq_false h3];rfl
  simp only[vx,T,seval];refine vb ?_;unfold Fm;rw[h1,h2];rfl
 simp only[vx,T,seval];refine vb ?_;unfold Fm;rw[h1];rfl
theorem xo (s t:Bool)(xs ys:List Int)(hx:bK xs)(hy:bK ys)(hxl:xs.length<2^40)(hyl:ys.length<2^40):Pr prog 153 [.agg [.bool s,.ints .u32 xs,.bool t,.ints .u32 ys]] (.one (.bool (Fm s xs t ys))):=by
 refine pw func153 ⟨[0,1,2],[]⟩ ?_;simp only[Tryz.f153,ntmps153,iz,seval];simp only[vx,T,seval];refine Cg (rD s xs hx (by omega)) ?_;simp only[vx,T,seval];refine⟨fun h1=>Lg ?_,fun h1=>Lg ?_⟩
 ·simp only[vx,T,seval];refine Cg (rD t ys hy (by omega)) ?_;simp only[vx,T,seval];refine⟨fun h2=>Lg ?_,fun h2=>Lg ?_⟩
  ·obtain⟨z,rfl,rfl⟩:=xy h1;obtain⟨d,rfl,rfl⟩:=xy h2;rw[aU]at hxl hyl;have hok:Fm (zs z) (zm z) (zs d) (zm d)=(decide (0<d)&&decide (((Int.gcd z d:Nat):Int)=1)):=by
    unfold Fm;rw[h1,h2,kZ,bY,kZ,bY];rfl
   rw[hok];simp only[vx,T,seval];refine Cg (gA d (by omega)) ?_;simp only[vx,T,seval]
   have hs:(0<bJ d)↔0<d:=by unfold bJ;(repeat' split)<;>omega
   refine⟨fun h3=>Lg ?_,fun h3=>Lg ?_⟩
   ·rw[hs]at h3;simp only[vx,T,seval];refine Cg (ey z d (by omega) (by omega)) ?_;have hgn:zn (Int.gcd z d)≤zn d:=rC (by
     have:=Nat.gcd_le_right z.natAbs (show 0<d.natAbs by omega)
     exact this)
    simp only[vx,T,seval,ZV];refine Cg (gy (Int.gcd z d) (by omega)) ?_;simp only[vx,T,seval];refine vb ?_;rw[decide_eq_true h3];rfl
   rw[hs]at h3;simp only[vx,T,seval];refine vb ?_;rw[decide_eq_false h3];rfl
  simp only[vx,T,seval];refine vb ?_;unfold Fm;rw[h1,h2];rfl
 simp only[vx,T,seval];refine vb ?_;unfold Fm;rw[h1];rfl
theorem ov:Pr prog 136 [] (ZV 1):=by
 refine pw func136 ⟨[0],[]⟩ ?_;simp only[Tryz.f136,ntmps136,iz,seval];simp only[vx,T,seval,ZV];refine Cg (gM 1 (by omega) (by omega)) ?_;simp only[vx,T,seval,ZV];refine Va ?_;simp only[cV,aW,ry,seval,ZV]
theorem nj (a b:Int)(ha:zn a<2^40)(hb:zn b<2^40)(h0:b≠0):Pr prog 229 [ZV a,ZV b] (ZV (a.fdiv b)):=by
 refine pw func229 ⟨[0,1,2,3,4,5,9],[]⟩ ?_;simp only[Tryz.f229,ntmps229,iz,seval];simp only[vx,T,seval,ZV];refine Cg (jf b (by omega)) ?_;simp only[vx,T,seval,ZV];refine⟨fun h1=>Lg ?_,fun h1=>Lg ?_⟩
 ·subst h1;simp only[vx,T,seval,ZV];rw[fdiv_one];refine Va ?_;simp only[cV,aW,ry,seval,ZV]
 simp only[vx,T,seval,ZV];refine Cg (xt a b (by omega) (by omega) h0) ?_;simp only[vx,T,seval,ZV];refine Va ?_;simp only[cV,aW,ry,seval,ZV]
theorem bE (a b:Int)(ha:zn a<2^40)(hb:zn b<2^40)(h0:b≠0):Pr prog 84 [ZV a,ZV b] (ZV (a.fdiv b)):=by
 refine pw func84 ⟨[0,1,2,3,4,5],[]⟩ ?_;simp only[Tryz.f84,ntmps84,iz,seval];simp only[vx,T,seval,ZV];refine Cg (xw a b (by omega) (by omega) h0) ?_;simp only[vx,T,seval,ZV];refine Va ?_;simp only[cV,aW,ry,seval,ZV]
theorem fb (n:Int)(d:Nat)(hn:zn n<2^40)(hd:nl d<2^40)(h0:0<d):Pr prog 217 [ZV n,ZV (d:Int)] (QV (mkRat n d)):=by
 have hg:(0:Int)<(Int.gcd n d:Nat):=by have:=wW (n:=n) h0;omega
 have hgn:zn (Int.gcd n d)≤nl d:=rC (b:=(d:Int)) (by
  have:=Nat.gcd_le_right n.natAbs (show 0<(d:Int).natAbs by omega)
  exact this)
 have hzd:zs (d:Int)=false:=dC.2 (by omega);refine pw func217 ⟨[0,1,2,3,4,5,10],[]⟩ ?_;simp only[Tryz.f217,ntmps217,iz,seval];simp only[vx,T,seval,ZV];refine Cg (qt n d (by omega) (by rw[aE];omega)) ?_;simp only[vx,T,seval,ZV];refine⟨fun h=>(by rw[hzd]at h;cases h),fun _=>Lg ?_⟩;simp only[vx,T,seval,ZV];refine Cg (nj n (Int.gcd n d) (by omega) (by omega) (by omega)) ?_;rw[xJ h0];simp only[vx,T,seval,ZV];refine Cg (nj d (Int.gcd n d) (by rw[aE];omega) (by omega) (by omega)) ?_;rw[w9 h0];simp only[vx,T,seval,ZV];refine Va ?_;simp only[cV,aW,ry,seval,QV,QC]
theorem cP (z:Int)(h1: -9223372036854775808≤z)(h2:z≤9223372036854775807):Pr prog 95 [.one (.int .i64 z)] (QV (Rat.ofInt z)):=by
 refine pw func95 ⟨[0,2],[]⟩ ?_;simp only[Tryz.f95,ntmps95,iz,seval];simp only[vx,T,seval,QV,QC];refine Cg (gM z h1 h2) ?_;simp only[vx,T,seval,ZV];refine Cg ov ?_;simp only[vx,T,seval,ZV];refine Va ?_;simp only[cV,aW,ry,seval,Rat.ofInt_num,Rat.ofInt_den,X3]
theorem bc (z:Int)(h1: -9223372036854775808≤z)(h2:z≤9223372036854775807):Pr prog 42 [.one (.int .i64 z)] (QV (Rat.ofInt z)):=by
 refine pw func42 ⟨[0,2],[]⟩ ?_;simp only[Tryz.f42,ntmps42,iz,seval];simp only[vx,T,seval,QV,QC];refine Cg (fu z h1 h2) ?_;simp only[vx,T,seval,ZV];refine Cg (fu 1 (by omega) (by omega)) ?_;simp only[vx,T,seval,ZV];refine Va ?_;simp only[cV,aW,ry,seval,Rat.ofInt_num,Rat.ofInt_den,X3]
theorem j0 (q:Rat)(hq:qm q<2^40):Pr prog 176 [QV q] (.one (.int .i64 (bJ q.num))):=by
 unfold qm at hq;refine pw func176 ⟨[0,1,2],[]⟩ ?_;simp only[Tryz.f176,ntmps176,iz,seval];simp only[vx,T,seval,QV,QC];refine Cg (fJ q.num (by omega)) ?_;simp only[vx,T,seval,ZV];exact Ve rfl
theorem rI (q:Rat)(hq:qm q<2^40):Pr prog 128 [QV q] (.one (.int .i64 (bJ q.num))):=by
 unfold qm at hq;refine pw func128 ⟨[0,1,2],[]⟩ ?_;simp only[Tryz.f128,ntmps128,iz,seval];simp only[vx,T,seval,QV,QC];refine Cg (gA q.num (by omega)) ?_;simp only[vx,T,seval,ZV];exact Ve rfl
open Go Go.Eng
theorem Fv {n:Int}{d:Int}{q:Rat}(h1:q.num=n)(h2:(q.den:Int)=d):QC q=[.bool (zs n),.ints .u32 (zm n),.bool (zs d),.ints .u32 (zm d)]:=by
 unfold QC;rw[h1,h2]
theorem fx (a g:Nat):(a:Int).fdiv (g:Int)=((a/g:Nat):Int):=by
 rw[Int.fdiv_eq_ediv_of_nonneg _ (by omega)];rfl
theorem o9 (n:Int)(g:Nat):zn (n.fdiv g)≤zn n:=by
 rw[Int.fdiv_eq_ediv_of_nonneg _ (by omega)];exact rC (Int.natAbs_ediv_le_natAbs _ _)
theorem sd {z:Int}(h:((zm z).length:Int)=0):z=0:=dU.1 (by rw[aU]at h;omega)
theorem Hl:Rat.ofInt 0=0:=rfl
theorem BF (a b:Rat)(ha:qm a<2^38)(hb:qm b<2^38):Pr prog 202 [QV a,QV b] (QV (a*b)):=by
 have m1:=cQ a.num b.num;have m2:=iu a.den b.den;have m3:=cQ a.num b.den;have m4:=cQ b.num a.den;have m5:=oy (a.num*b.den) (b.num*a.den);have n1:=aE a.den;have n2:=aE b.den;have p1:=a.den_pos;have p2:=b.den_pos;have p3:=Nat.mul_pos p1 p2;unfold qm at ha hb;refine pw func202 ⟨[0,1,2,3,4,12],[]⟩ ?_;simp only[Tryz.f202,ntmps202,iz,seval];simp only[vx,T,seval,QV,QC];refine Cg (jf a.den (by omega)) ?_;simp only[vx,T,seval,ZV];refine⟨fun h1=>Lg ?_,fun h1=>Lg ?_⟩
 ·simp only[vx,T,seval,ZV];refine Cg (jf b.den (by omega)) ?_;simp only[vx,T,seval,ZV];refine⟨fun h2=>Lg ?_,fun h2=>Lg ?_⟩
  ·obtain⟨k1,k2⟩:=yj (a:=a) (b:=b) (by omega) (by omega);simp only[vx,T,seval,ZV];refine Cg (bO a.num b.num (by omega) (by omega)) ?_;simp only[vx,T,seval,ZV];refine Cg ov ?_;simp only[vx,T,seval,ZV];rw[k1,k2];refine Va ?_;simp only[cV,aW,ry,seval,X3]
  simp only[vx,T,seval,ZV];refine Cg (bO a.num b.num (by omega) (by omega)) ?_;simp only[vx,T,seval,ZV];refine Cg (bO a.den b.den (by omega) (by omega)) ?_;rw[←Int.natCast_mul];simp only[vx,T,seval,ZV];refine Cg (fb (a.num*b.num) (a.den*b.den) (by omega) (by omega) p3) ?_;rw[←Rat.mul_def'];simp only[vx,T,seval,QV,QC];refine Va ?_;simp only[cV,aW,ry,seval]
 simp only[vx,T,seval,ZV];refine Cg (bO a.num b.num (by omega) (by omega)) ?_;simp only[vx,T,seval,ZV];refine Cg (bO a.den b.den (by omega) (by omega)) ?_;rw[←Int.natCast_mul];simp only[vx,T,seval,ZV];refine Cg (fb (a.num*b.num) (a.den*b.den) (by omega) (by omega) p3) ?_;rw[←Rat.mul_def'];simp only[vx,T,seval,QV,QC];refine Va ?_;simp only[cV,aW,ry,seval]
theorem Be (a b:Rat)(ha:qm a<2^38)(hb:qm b<2^38):Pr prog 211 [QV a,QV b] (QV (a+b)):=by
 have m1:=cQ a.num b.num;have m2:=iu a.den b.den;have m3:=cQ a.num b.den;have m4:=cQ b.num a.den;have m5:=oy (a.num*b.den) (b.num*a.den);have n1:=aE a.den;have n2:=aE b.den;have p1:=a.den_pos;have p2:=b.den_pos;have p3:=Nat.mul_pos p1 p2;unfold qm at ha hb;refine pw func211 ⟨[0,1,2,3,4,5,13],[]⟩ ?_;simp only[Tryz.f211,ntmps211,iz,seval];simp only[vx,T,seval,QV,QC];refine Cg (jf a.den (by omega)) ?_;simp only[vx,T,seval,ZV];refine⟨fun h1=>Lg ?_,fun h1=>Lg ?_⟩
 ·simp only[vx,T,seval,ZV];refine Cg (jf b.den (by omega)) ?_;simp only[vx,T,seval,ZV];refine⟨fun h2=>Lg ?_,fun h2=>Lg ?_⟩
  ·obtain⟨k1,k2⟩:=add_one (a:=a) (b:=b) (by omega) (by omega);simp only[vx,T,seval,ZV];refine Cg (qO a.num b.num (by omega) (by omega)) ?_;simp only[vx,T,seval,ZV];refine Cg ov ?_;simp only[vx,T,seval,ZV];rw[k1,k2];refine Va ?_;simp only[cV,aW,ry,seval,X3]
  simp only[vx,T,seval,ZV];refine Cg (bO a.num b.den (by omega) (by omega)) ?_;simp only[vx,T,seval,ZV];refine Cg (bO b.num a.den (by omega) (by omega)) ?_;simp only[vx,T,seval,ZV];refine Cg (qO (a.num*b.den) (b.num*a.den) (by omega) (by omega)) ?_;simp only[vx,T,seval,ZV];refine Cg (bO a.den b.den (by omega) (by omega)) ?_;rw[←Int.natCast_mul];simp only[vx,T,seval,ZV];refine Cg (fb (a.num*b.den+b.num*a.den) (a.den*b.den) (by omega) (by omega) p3) ?_;rw[←Rat.add_def'];simp only[vx,T,seval,QV,QC];refine Va ?_;simp only[cV,aW,ry,seval]
 simp only[vx,T,seval,ZV];refine Cg (bO a.num b.den (by omega) (by omega)) ?_;simp only[vx,T,seval,ZV];refine Cg (bO b.num a.den (by omega) (by omega)) ?_;simp only[vx,T,seval,ZV];refine Cg (qO (a.num*b.den) (b.num*a.den) (by omega) (by omega)) ?_;simp only[vx,T,seval,ZV];refine Cg (bO a.den b.den (by omega) (by omega)) ?_;rw[←Int.natCast_mul];simp only[vx,T,seval,ZV];refine Cg (fb (a.num*b.den+b.num*a.den) (a.den*b.den) (by omega) (by omega) p3) ?_;rw[←Rat.add_def'];simp only[vx,T,seval,QV,QC];refine Va ?_;simp only[cV,aW,ry,seval]
theorem BQ (a b:Rat)(ha:qm a<2^38)(hb:qm b<2^38):Pr prog 77 [QV a,QV b] (QV (a*b)):=by
 have m1:=cQ a.num b.num;have m2:=iu a.den b.den;have m3:=cQ a.num b.den;have m4:=cQ b.num a.den;have m5:=oy (a.num*b.den) (b.num*a.den);have n1:=aE a.den;have n2:=aE b.den;have p1:=a.den_pos;have p2:=b.den_pos;have p3:=Nat.mul_pos p1 p2;unfold qm at ha hb;obtain⟨g,hg⟩:∃g,g=a.num.natAbs.gcd b.den:=⟨_,rfl⟩;obtain⟨h,hh⟩:∃h,h=b.num.natAbs.gcd a.den:=⟨_,rfl⟩;have eg:Int.gcd a.num b.den=g:=by rw[hg];rfl
 have eh:Int.gcd b.num a.den=h:=by rw[hh];rfl
 have g0:0<g:=by rw[hg];exact Nat.gcd_pos_of_pos_right _ p2
 have h0:0<h:=by rw[hh];exact Nat.gcd_pos_of_pos_right _ p1
 have gl:nl g≤nl b.den:=by rw[hg];exact bh (Nat.gcd_le_right _ p2)
 have hl:nl h≤nl a.den:=by rw[hh];exact bh (Nat.gcd_le_right _ p1)
 have dl:nl (a.den/h)≤nl a.den:=bh (Nat.div_le_self _ _);have dl2:nl (b.den/g)≤nl b.den:=bh (Nat.div_le_self _ _);obtain⟨k1,k2⟩:=Lc a b hg hh;refine pw func77 ⟨[0,1,2,3,4,5,6,18,27],[]⟩ ?_;simp only[Tryz.f77,ntmps77,iz,seval];simp only[vx,T,seval,QV,QC];refine⟨fun h1=>Lg ?_,fun h1=>Lg ?_⟩
 ·have ez:a*b=0:=by rw[Rat.num_eq_zero.1 (sd h1),Rat.zero_mul]
  simp only[vx,T,seval,ZV];refine Cg (bc 0 (by omega) (by omega)) ?_;rw[ez,←Hl];simp only[vx,T,seval,QV,QC];refine Va ?_;simp only[cV,aW,ry,seval]
 simp only[vx,T,seval,ZV];refine⟨fun h2=>Lg ?_,fun h2=>Lg ?_⟩
 ·have ez:a*b=0:=by rw[Rat.num_eq_zero.1 (sd h2),Rat.mul_zero]
  simp only[vx,T,seval,ZV];refine Cg (bc 0 (by omega) (by omega)) ?_;rw[ez,←Hl];simp only[vx,T,seval,QV,QC];refine Va ?_;simp only[cV,aW,ry,seval]
 simp only[vx,T,seval,ZV];refine Cg (gy a.den (by omega)) ?_;simp only[vx,T,seval,ZV];refine⟨fun h3=>Lg ?_,fun h3=>Lg ?_⟩
 ·simp only[vx,T,seval,ZV];refine Cg (gy b.den (by omega)) ?_;simp only[vx,T,seval,ZV];refine⟨fun h4=>Lg ?_,fun h4=>Lg ?_⟩
  ·obtain⟨k1,k2⟩:=yj (a:=a) (b:=b) (by omega) (by omega);simp only[vx,T,seval,ZV];refine Cg (bp a.num b.num (by omega) (by omega)) ?_;simp only[vx,T,seval,ZV];rw[k1,k2,h3];refine Va ?_;simp only[cV,aW,ry,seval,X3]
  simp only[vx,T,seval,ZV];have hw1:zn (a.num.fdiv g)≤zn a.num:=o9 _ _;have hw2:zn (b.num.fdiv h)≤zn b.num:=o9 _ _;refine Cg (ey a.num b.den (by omega) (by omega)) ?_;rw[eg];simp only[vx,T,seval,ZV];refine Cg (ey b.num a.den (by omega) (by omega)) ?_;rw[eh];simp only[vx,T,seval,ZV];refine Cg (bE a.num g (by omega) (by rw[aE];omega) (by omega)) ?_;simp only[vx,T,seval,ZV];refine Cg (bE b.num h (by omega) (by rw[aE];omega) (by omega)) ?_;simp only[vx,T,seval,ZV];refine Cg (bp (a.num.fdiv g) (b.num.fdiv h) (by omega) (by omega)) ?_;rw[k1];simp only[vx,T,seval,ZV];refine Cg (bE a.den h (by omega) (by rw[aE];omega) (by omega)) ?_;rw[fx];simp only[vx,T,seval,ZV];refine Cg (bE b.den g (by omega) (by rw[aE];omega) (by omega)) ?_;rw[fx];simp only[vx,T,seval,ZV];refine Cg (bp ((a.den/h:Nat):Int) ((b.den/g:Nat):Int) (by rw[aE];omega) (by rw[aE];omega)) ?_;rw[←Int.natCast_mul,k2];simp only[vx,T,seval,ZV];refine Va ?_;simp only[cV,aW,ry,seval]
 simp only[vx,T,seval,ZV];have hw1:zn (a.num.fdiv g)≤zn a.num:=o9 _ _;have hw2:zn (b.num.fdiv h)≤zn b.num:=o9 _ _;refine Cg (ey a.num b.den (by omega) (by omega)) ?_;rw[eg];simp only[vx,T,seval,ZV];refine Cg (ey b.num a.den (by omega) (by omega)) ?_;rw[eh];simp only[vx,T,seval,ZV];refine Cg (bE a.num g (by omega) (by rw[aE];omega) (by omega)) ?_;simp only[vx,T,seval,ZV];refine Cg (bE b.num h (by omega) (by rw[aE];omega) (by omega)) ?_;simp only[vx,T,seval,ZV];refine Cg (bp (a.num.fdiv g) (b.num.fdiv h) (by omega) (by omega)) ?_;rw[k1];simp only[vx,T,seval,ZV];refine Cg (bE a.den h (by omega) (by rw[aE];omega) (by omega)) ?_;rw[fx];simp only[vx,T,seval,ZV];refine Cg (bE b.den g (by omega) (by rw[aE];omega) (by omega)) ?_;rw[fx];simp only[vx,T,seval,ZV];refine Cg (bp ((a.den/h:Nat):Int) ((b.den/g:Nat):Int) (by rw[aE];omega) (by rw[aE];omega)) ?_;rw[←Int.natCast_mul,k2];simp only[vx,T,seval,ZV];refine Va ?_;simp only[cV,aW,ry,seval]
theorem Bo (a b:Rat)(ha:qm a<2^38)(hb:qm b<2^38):Pr prog 119 [QV a,QV b] (QV (a+b)):=by
 have m1:=cQ a.num b.num;have m2:=iu a.den b.den;have m3:=cQ a.num b.den;have m4:=cQ b.num a.den;have m5:=oy (a.num*b.den) (b.num*a.den);have n1:=aE a.den;have n2:=aE b.den;have p1:=a.den_pos;have p2:=b.den_pos;have p3:=Nat.mul_pos p1 p2;unfold qm at ha hb;obtain⟨g,hg⟩:∃g,g=a.den.gcd b.den:=⟨_,rfl⟩;have eg:Int.gcd (a.den:Int) b.den=g:=by rw[hg];rfl
 have g0:0<g:=by rw[hg];exact Nat.gcd_pos_of_pos_right _ p2
 have gl:nl g≤nl b.den:=by rw[hg];exact bh (Nat.gcd_le_right _ p2)
 obtain⟨num,hn⟩:∃num,num=a.num*((b.den/g:Nat):Int)+b.num*((a.den/g:Nat):Int):=⟨_,rfl⟩;obtain⟨h,hh⟩:∃h,h=num.natAbs.gcd g:=⟨_,rfl⟩;have eh:Int.gcd num g=h:=by rw[hh];rfl
 have h0:0<h:=by rw[hh];exact Nat.gcd_pos_of_pos_right _ g0
 have hl:nl h≤nl g:=by rw[hh];exact bh (Nat.gcd_le_right _ g0)
 have dl:nl (a.den/g)≤nl a.den:=bh (Nat.div_le_self _ _);have dl2:nl (b.den/g)≤nl b.den:=bh (Nat.div_le_self _ _);have dl3:nl (b.den/h)≤nl b.den:=bh (Nat.div_le_self _ _);have w1:=cQ a.num ((b.den/g:Nat):Int);have w2:=cQ b.num ((a.den/g:Nat):Int);have w3:=oy (a.num*((b.den/g:Nat):Int)) (b.num*((a.den/g:Nat):Int));rw[aE]at w1 w2;rw[←hn]at w3;have w4:zn (num.fdiv h)≤zn num:=o9 _ _;obtain⟨k1,k2⟩:=Kw hg hn hh;refine pw func119 ⟨[0,1,2,3,4,5,6,7,8,9,10,15,21,30,45],[]⟩ ?_;simp only[Tryz.f119,ntmps119,iz,seval];simp only[vx,T,seval,QV,QC];refine⟨fun h1=>Lg ?_,fun h1=>Lg ?_⟩
 ·have ez:a+b=b:=by rw[Rat.num_eq_zero.1 (sd h1),Rat.zero_add]
  simp only[vx,T,seval,ZV];rw[ez];refine Va ?_;simp only[cV,aW,ry,seval]
 simp only[vx,T,seval,ZV];refine⟨fun h2=>Lg ?_,fun h2=>Lg ?_⟩
 ·have ez:a+b=a:=by rw[Rat.num_eq_zero.1 (sd h2),Rat.add_zero]
  simp only[vx,T,seval,ZV];rw[ez];refine Va ?_;simp only[cV,aW,ry,seval]
 simp only[vx,T,seval,ZV];refine Cg (gy a.den (by omega)) ?_;simp only[vx,T,seval,ZV];refine⟨fun h3=>Lg ?_,fun h3=>Lg ?_⟩
 ·simp only[vx,T,seval,ZV];refine Cg (gy b.den (by omega)) ?_;simp only[vx,T,seval,ZV];refine⟨fun h4=>Lg ?_,fun h4=>Lg ?_⟩
  ·obtain⟨k1,k2⟩:=add_one (a:=a) (b:=b) (by omega) (by omega);simp only[vx,T,seval,ZV];refine Cg (gD a.num b.num (by omega) (by omega)) ?_;simp only[vx,T,seval,ZV];rw[k1,k2,h3];refine Va ?_;simp only[cV,aW,ry,seval,X3]
  simp only[vx,T,seval,ZV];refine Cg (ey a.den b.den (by omega) (by omega)) ?_;rw[eg];simp only[vx,T,seval,ZV];refine Cg (gy g (by rw[aE];omega)) ?_;simp only[vx,T,seval,ZV];refine⟨fun h5=>Lg ?_,fun h5=>Lg ?_⟩
  ·obtain⟨k3,k4⟩:=DH (a:=a) (b:=b) (by rw[←hg];omega);simp only[vx,T,seval,ZV];refine Cg (bp a.num b.den (by omega) (by omega)) ?_;simp only[vx,T,seval,ZV];refine Cg (bp b.num a.den (by omega) (by omega)) ?_;simp only[vx,T,seval,ZV];refine Cg (gD (a.num*b.den) (b.num*a.den) (by omega) (by omega)) ?_;simp only[vx,T,seval,ZV];refine Cg (bp a.den b.den (by omega) (by omega)) ?_;simp only[vx,T,seval,ZV];rw[k3,k4,Int.natCast_mul];refine Va ?_;simp only[cV,aW,ry,seval]
  simp only[vx,T,seval,ZV];refine Cg (bE a.den g (by omega) (by rw[aE];omega) (by omega)) ?_;rw[fx];simp only[vx,T,seval,ZV];refine Cg (bE b.den g (by omega) (by rw[aE];omega) (by omega)) ?_;rw[fx];simp only[vx,T,seval,ZV];refine Cg (bp a.num ((b.den/g:Nat):Int) (by omega) (by rw[aE];omega)) ?_;simp only[vx,T,seval,ZV];refine Cg (bp b.num ((a.den/g:Nat):Int) (by omega) (by rw[aE];omega)) ?_;simp only[vx,T,seval,ZV];refine Cg (gD _ _ (Nat.lt_of_le_of_lt w1 (by omega)) (Nat.lt_of_le_of_lt w2 (by omega))) ?_;rw[←hn];simp only[vx,T,seval,ZV];refine Cg (ey num g (by omega) (by rw[aE];omega)) ?_;rw[eh];simp only[vx,T,seval,ZV];refine Cg (bE num h (by omega) (by rw[aE];omega) (by omega)) ?_;rw[k1];simp only[vx,T,seval,ZV];refine Cg (bE b.den h (by omega) (by rw[aE];omega) (by omega)) ?_;rw[fx];simp only[vx,T,seval,ZV];refine Cg (bp ((a.den/g:Nat):Int) ((b.den/h:Nat):Int) (by rw[aE];omega) (by rw[aE];omega)) ?_;rw[←Int.natCast_mul,k2];simp only[vx,T,seval,ZV];refine Va ?_;simp only[cV,aW,ry,seval]
 simp only[vx,T,seval,ZV];refine Cg (ey a.den b.den (by omega) (by omega)) ?_;rw[eg];simp only[vx,T,seval,ZV];refine Cg (gy g (by rw[aE];omega)) ?_;simp only[vx,T,seval,ZV];refine⟨fun h5=>Lg ?_,fun h5=>Lg ?_⟩
 ·obtain⟨k3,k4⟩:=DH (a:=a) (b:=b) (by rw[←hg];omega);simp only[vx,T,seval,ZV];refine Cg (bp a.num b.den (by omega) (by omega)) ?_;simp only[vx,T,seval,ZV];refine Cg (bp b.num a.den (by omega) (by omega)) ?_;simp only[vx,T,seval,ZV];refine Cg (gD (a.num*b.den) (b.num*a.den) (by omega) (by omega)) ?_;simp only[vx,T,seval,ZV];refine Cg (bp a.den b.den (by omega) (by omega)) ?_;simp only[vx,T,seval,ZV];rw[k3,k4,Int.natCast_mul];refine Va ?_;simp only[cV,aW,ry,seval]
 simp only[vx,T,seval,ZV];refine Cg (bE a.den g (by omega) (by rw[aE];omega) (by omega)) ?_;rw[fx];simp only[vx,T,seval,ZV];refine Cg (bE b.den g (by omega) (by rw[aE];omega) (by omega)) ?_;rw[fx];simp only[vx,T,seval,ZV];refine Cg (bp a.num ((b.den/g:Nat):Int) (by omega) (by rw[aE];omega)) ?_;simp only[vx,T,seval,ZV];refine Cg (bp b.num ((a.den/g:Nat):Int) (by omega) (by rw[aE];omega)) ?_;simp only[vx,T,seval,ZV];refine Cg (gD _ _ (Nat.lt_of_le_of_lt w1 (by omega)) (Nat.lt_of_le_of_lt w2 (by omega))) ?_;rw[←hn];simp only[vx,T,seval,ZV];refine Cg (ey num g (by omega) (by rw[aE];omega)) ?_;rw[eh];simp only[vx,T,seval,ZV];refine Cg (bE num h (by omega) (by rw[aE];omega) (by omega)) ?_;rw[k1];simp only[vx,T,seval,ZV];refine Cg (bE b.den h (by omega) (by rw[aE];omega) (by omega)) ?_;rw[fx];simp only[vx,T,seval,ZV];refine Cg (bp ((a.den/g:Nat):Int) ((b.den/h:Nat):Int) (by rw[aE];omega) (by rw[aE];omega)) ?_;rw[←Int.natCast_mul,k2];simp only[vx,T,seval,ZV];refine Va ?_;simp only[cV,aW,ry,seval]
open Go Go.Eng
def qC (q:Rat):Nat→C
 |0=>.bool (zs q.num)
 |1=>.ints .u32 (zm q.num)
 |2=>.bool (zs (q.den:Int))
 |3=>.ints .u32 (zm (q.den:Int))
 |_=>.any
def aa (l:List Rat):C:=.rows 4 l.length (fun i=>qC (l.getD i default))
def tC (h:Nat)(t:List (List Rat)):C:=.rows 1 h (fun i _=>aa (t.getD i []))
def tV (h:Nat)(t:List (List Rat)):V:=.one (tC h t)
def eV (a:List Rat):V:=.one (aa a)
end Go.Proofs.YtgcmkdgpaibpeaaGreat
/-
  THE REAL NUMBERS: Cauchy sequences of rational numbers; a ring with an order, inverses and square roots.
-/
namespace Go.Re
def Nr (x e:Rat):Prop:= -e<x∧x<e
theorem Nr.mono {x e f:Rat}(h:Nr x e)(hf:e≤f):Nr x f:=by unfold Nr at*;grind
theorem Nr.add {x y e f:Rat}(h:Nr x e)(k:Nr y f):Nr (x+y) (e+f):=by unfold Nr at*;grind
theorem Nr.neg {x e:Rat}(h:Nr x e):Nr (-x) e:=by unfold Nr at*;grind
theorem Nr.sub {x y e f:Rat}(h:Nr x e)(k:Nr y f):Nr (x-y) (e+f):=by unfold Nr at*;grind
theorem Nr.symm {x y e:Rat}(h:Nr (x-y) e):Nr (y-x) e:=by unfold Nr at*;grind
theorem Nr.mul {x y e f:Rat}(h:Nr x e)(k:Nr y f):Nr (x*y) (e*f):=by
 unfold Nr at*
 have a:=Rat.mul_pos (a:=e-x) (b:=f-y) (by grind) (by grind);have b:=Rat.mul_pos (a:=e+x) (b:=f+y) (by grind) (by grind);have c:=Rat.mul_pos (a:=e-x) (b:=f+y) (by grind) (by grind);have d:=Rat.mul_pos (a:=e+x) (b:=f-y) (by grind) (by grind)
 constructor<;>grind
theorem bL {e:Rat}(h:0<e):0<e/2:=by grind
theorem div_pos {a b:Rat}(h:0<a)(k:0<b):0<a/b:=by
 rw[Rat.div_def];exact Rat.mul_pos h (Rat.inv_pos.2 k)
theorem div_mul {a b:Rat}(k:0<b):a/b*b=a:=by
 have:b≠0:=by grind
 grind
structure Sq where
 s:Nat→Rat
 h:∀e,0<e→∃N,∀m n,N≤m→N≤n→Nr (s m-s n) e
def eqv (a b:Sq):Prop:=∀e,0<e→∃N,∀n,N≤n→Nr (a.s n-b.s n) e
theorem eqv.refl (a:Sq):eqv a a:=fun e he=>⟨0,fun n _=>by unfold Nr;grind⟩
theorem eqv.symm {a b:Sq}(h:eqv a b):eqv b a:=fun e he=>by
 obtain⟨N,hN⟩:=h e he;exact⟨N,fun n hn=>(hN n hn).symm⟩
theorem eqv.trans {a b c:Sq}(h:eqv a b)(k:eqv b c):eqv a c:=fun e he=>by
 obtain⟨N,hN⟩:=h (e/2) (bL he);obtain⟨M,hM⟩:=k (e/2) (bL he);refine⟨max N M,fun n hn=>?_⟩;have h1:=hN n (by omega);have h2:=hM n (by omega);unfold Nr at*;grind
instance st:Setoid Sq:=⟨eqv,eqv.refl,eqv.symm,eqv.trans⟩
theorem Sq.sk (a:Sq):∃B,0<B∧∀n,Nr (a.s n) B:=by
 obtain⟨N,hN⟩:=a.h 1 (by decide);have key:∀k,∃B,0<B∧∀n,n<k→Nr (a.s n) B:=by
  intro k
  induction k with
  |zero=>exact⟨1,by decide,fun n h=>absurd h (Nat.not_lt_zero _)⟩
  |succ k ih=>
   obtain⟨B,h0,hB⟩:=ih
   by_cases hp:0≤a.s k
   ·refine⟨B+a.s k+1,by grind,fun n hn=>?_⟩
    by_cases hk:n=k
    ·subst hk;unfold Nr;grind
    exact(hB n (by omega)).mono (by grind)
   refine⟨B-a.s k+1,by grind,fun n hn=>?_⟩
   by_cases hk:n=k
   ·subst hk;unfold Nr;grind
   exact(hB n (by omega)).mono (by grind)
 obtain⟨B,h0,hB⟩:=key (N+1);refine⟨B+1,by grind,fun n=>?_⟩
 by_cases hn:n<N+1
 ·exact(hB n hn).mono (by grind)
 have h1:=hN n N (by omega) (Nat.le_refl _);have h2:=hB N (by omega);unfold Nr at*;grind
def Sq.const (q:Rat):Sq:=⟨fun _=>q,fun e he=>⟨0,fun m n _ _=>by unfold Nr;grind⟩⟩
def Sq.add (a b:Sq):Sq:=⟨fun n=>a.s n+b.s n,fun e he=>by
 obtain⟨N,hN⟩:=a.h (e/2) (bL he);obtain⟨M,hM⟩:=b.h (e/2) (bL he);refine⟨max N M,fun m n hm hn=>?_⟩;have h1:=hN m n (by omega) (by omega);have h2:=hM m n (by omega) (by omega);unfold Nr at*;grind⟩
def Sq.neg (a:Sq):Sq:=⟨fun n=> -a.s n,fun e he=>by
 obtain⟨N,hN⟩:=a.h e he;refine⟨N,fun m n hm hn=>?_⟩;have h1:=hN m n hm hn;unfold Nr at*;grind⟩
theorem Mf {a b a' b' A B e:Rat}(hA:0<A)(hB:0<B)(he:0<e)(h1:Nr a A)(h2:Nr b' B)(h3:Nr (a-a') (e/2/B))(h4:Nr (b-b') (e/2/A)):Nr (a*b-a'*b') e:=by
 have k1:=h1.mul h4;have k2:=h3.mul h2;rw[div_mul hB]at k2;rw[Rat.mul_comm A,div_mul hA]at k1
 have:=k1.add k2
 unfold Nr at*;grind
def Sq.mul (a b:Sq):Sq:=⟨fun n=>a.s n*b.s n,fun e he=>by
 obtain⟨A,hA,ha⟩:=a.sk;obtain⟨B,hB,hb⟩:=b.sk;obtain⟨N,hN⟩:=a.h (e/2/B) (div_pos (bL he) hB);obtain⟨M,hM⟩:=b.h (e/2/A) (div_pos (bL he) hA);exact⟨max N M,fun m n hm hn=>Mf hA hB he (ha m) (hb n) (hN m n (by omega) (by omega)) (hM m n (by omega) (by omega))⟩⟩
theorem KL {a b c d:Sq}(h:eqv a c)(k:eqv b d):eqv (a.add b) (c.add d):=fun e he=>by
 obtain⟨N,hN⟩:=h (e/2) (bL he);obtain⟨M,hM⟩:=k (e/2) (bL he);refine⟨max N M,fun n hn=>?_⟩;have h1:=hN n (by omega);have h2:=hM n (by omega);show Nr (a.s n+b.s n-(c.s n+d.s n)) e;unfold Nr at*;grind
theorem Jj {a c:Sq}(h:eqv a c):eqv a.neg c.neg:=fun e he=>by
 obtain⟨N,hN⟩:=h e he;refine⟨N,fun n hn=>?_⟩;have h1:=hN n (by omega);show Nr (-a.s n- -c.s n) e;unfold Nr at*;grind
theorem Ki {a b c d:Sq}(h:eqv a c)(k:eqv b d):eqv (a.mul b) (c.mul d):=fun e he=>by
 obtain⟨A,hA,ha⟩:=a.sk;obtain⟨B,hB,hb⟩:=d.sk;obtain⟨N,hN⟩:=h (e/2/B) (div_pos (bL he) hB);obtain⟨M,hM⟩:=k (e/2/A) (div_pos (bL he) hA);exact⟨max N M,fun n hn=>Mf hA hB he (ha n) (hb n) (hN n (by omega)) (hM n (by omega))⟩
def Sq.pos (a:Sq):Prop:=∃e,0<e∧∃N,∀n,N≤n→e<a.s n
theorem CT {a b:Sq}(h:eqv a b)(k:a.pos):b.pos:=by
 obtain⟨e,he,N,hN⟩:=k;obtain⟨M,hM⟩:=h (e/2) (bL he);refine⟨e/2,bL he,max N M,fun n hn=>?_⟩;have h1:=hN n (by omega);have h2:=hM n (by omega);unfold Nr at h2;grind
end Go.Re
def Go.R:Type:=Quotient Go.Re.st
namespace Go.R
open Go.Re
def mk (a:Sq):R:=Quotient.mk st a
theorem ind {p:R→Prop}(h:∀a,p (mk a))(x:R):p x:=Quotient.ind h x
theorem sound {a b:Sq}(h:eqv a b):mk a=mk b:=Quotient.sound (s:=st) h
theorem exact {a b:Sq}(h:mk a=mk b):eqv a b:=Quotient.exact (s:=st) h
theorem pt {a b:Sq}(h:∀n,a.s n=b.s n):mk a=mk b:=sound fun e he=>⟨0,fun n _=>by rw[h n];unfold Nr;grind⟩
def q (x:Rat):R:=mk (Sq.const x)
instance:Add R:=⟨Quotient.lift₂ (s₁:=st) (s₂:=st) (fun a b=>mk (a.add b)) fun _ _ _ _ h k=>sound (KL h k)⟩
instance:Mul R:=⟨Quotient.lift₂ (s₁:=st) (s₂:=st) (fun a b=>mk (a.mul b)) fun _ _ _ _ h k=>sound (Ki h k)⟩
instance:Neg R:=⟨Quotient.lift (s:=st) (fun a=>mk a.neg) fun _ _ h=>sound (Jj h)⟩
instance:Sub R:=⟨fun a b=>a+ -b⟩
def pos (x:R):Prop:=Quotient.lift (s:=st) Sq.pos (fun _ _ h=>propext ⟨CT h,CT (eqv.symm h)⟩) x
theorem sub_def (x y:R):x-y=x+ -y:=rfl
end Go.R
namespace Go.R
open Go.Re
theorem add_comm (x y:R):x+y=y+x:=by
 induction x using ind with|h a=>induction y using ind with|h b=>
 exact pt fun n=>Rat.add_comm _ _
theorem add_assoc (x y z:R):x+y+z=x+(y+z):=by
 induction x using ind with|h a=>induction y using ind with|h b=>induction z using ind with|h c=>
 exact pt fun n=>Rat.add_assoc _ _ _
theorem mul_comm (x y:R):x*y=y*x:=by
 induction x using ind with|h a=>induction y using ind with|h b=>
 exact pt fun n=>Rat.mul_comm _ _
theorem mul_assoc (x y z:R):x*y*z=x*(y*z):=by
 induction x using ind with|h a=>induction y using ind with|h b=>induction z using ind with|h c=>
 exact pt fun n=>Rat.mul_assoc _ _ _
theorem mul_add (x y z:R):x*(y+z)=x*y+x*z:=by
 induction x using ind with|h a=>induction y using ind with|h b=>induction z using ind with|h c=>
 exact pt fun n=>Rat.mul_add _ _ _
theorem add_mul (x y z:R):(x+y)*z=x*z+y*z:=by rw[mul_comm,mul_add,mul_comm z,mul_comm z]
theorem add_zero (x:R):x+q 0=x:=by
 induction x using ind with|h a=>exact pt fun n=>Rat.add_zero _
theorem zero_add (x:R):q 0+x=x:=by rw[add_comm,add_zero]
theorem mul_one (x:R):x*q 1=x:=by
 induction x using ind with|h a=>exact pt fun n=>Rat.mul_one _
theorem one_mul (x:R):q 1*x=x:=by rw[mul_comm,mul_one]
theorem mul_zero (x:R):x*q 0=q 0:=by
 induction x using ind with|h a=>exact pt fun n=>Rat.mul_zero _
theorem zero_mul (x:R):q 0*x=q 0:=by rw[mul_comm,mul_zero]
theorem add_neg (x:R):x+ -x=q 0:=by
 induction x using ind with|h a=>exact pt fun n=>Rat.add_neg_cancel _
theorem sub_self (x:R):x-x=q 0:=add_neg x
theorem neg_add (x:R): -x+x=q 0:=by rw[add_comm,add_neg]
theorem neg_mul (x y:R): -x*y= -(x*y):=by
 induction x using ind with|h a=>induction y using ind with|h b=>
 exact pt fun n=>Rat.neg_mul _ _
theorem mul_neg (x y:R):x* -y= -(x*y):=by rw[mul_comm,neg_mul,mul_comm]
theorem neg_neg (x:R): - -x=x:=by
 induction x using ind with|h a=>exact pt fun n=>Rat.neg_neg _
theorem vz (x y:Rat):q (x+y)=q x+q y:=pt fun _=>rfl
theorem dT (x y:Rat):q (x*y)=q x*q y:=pt fun _=>rfl
theorem u7 (x:Rat):q (-x)= -q x:=pt fun _=>rfl
theorem iB: -q 0=q 0:=pt fun _=>rfl
theorem me (x y:R): -(x+y)= -x+ -y:=by
 induction x using ind with|h a=>induction y using ind with|h b=>
 exact pt fun n=>Rat.neg_add
theorem sub_zero (x:R):x-q 0=x:=by rw[sub_def,iB,add_zero]
theorem gu {x y:R}(h:x-y=q 0):x=y:=by
 have:x-y+y=y:=by rw[h,zero_add]
 rw[sub_def,add_assoc,neg_add,add_zero]at this;exact this
theorem ub {x:Rat}:pos (q x)↔0<x:=by
 constructor
 ·rintro⟨e,he,N,hN⟩
  have:e<x:=hN N (Nat.le_refl _)
  grind
 intro h;exact⟨x/2,bL h,0,fun n _=>by show x/2<x;grind⟩
theorem pI {x y:R}:pos x→pos y→pos (x+y):=by
 induction x using ind with|h a=>induction y using ind with|h b=>
 rintro⟨e,he,N,hN⟩ ⟨f,hf,M,hM⟩;refine⟨e+f,by grind,max N M,fun n hn=>?_⟩;have h1:=hN n (by omega);have h2:=hM n (by omega);show e+f<a.s n+b.s n
 grind
theorem dE {x y:R}:pos x→pos y→pos (x*y):=by
 induction x using ind with|h a=>induction y using ind with|h b=>
 rintro⟨e,he,N,hN⟩ ⟨f,hf,M,hM⟩;refine⟨e*f,Rat.mul_pos he hf,max N M,fun n hn=>?_⟩;have h1:=hN n (by omega);have h2:=hM n (by omega);show e*f<a.s n*b.s n;have h3:=Rat.mul_pos (a:=a.s n-e) (b:=f) (by grind) hf;have h4:=Rat.mul_pos (a:=a.s n) (b:=b.s n-f) (by grind) (by grind)
 grind
theorem kK:¬pos (q 0):=fun h=>absurd (ub.1 h) (by decide)
theorem C5 {x:R}(h:pos x)(k:pos (-x)):False:=by
 have:=pI h k
 rw[add_neg]at this;exact kK this
theorem Ol (x:R):x=q 0∨pos x∨pos (-x):=by
 induction x using ind with|h a=>
 by_cases h:a.pos
 ·exact .inr (.inl h)
 by_cases k:a.neg.pos
 ·exact .inr (.inr k)
 refine .inl (sound fun e he=>?_);obtain⟨N,hN⟩:=a.h (e/2) (bL he);have h1:∃n,N≤n∧¬e/2<a.s n:=Classical.byContradiction fun hh=>h ⟨e/2,bL he,N,fun n hn=>Classical.byContradiction fun h2=>hh ⟨n,hn,h2⟩⟩;have k1:∃n,N≤n∧¬e/2< -a.s n:=Classical.byContradiction fun hh=>k ⟨e/2,bL he,N,fun n hn=>Classical.byContradiction fun h2=>hh ⟨n,hn,h2⟩⟩;obtain⟨m,hm,h1⟩:=h1;obtain⟨l,hl,k1⟩:=k1;refine⟨N,fun n hn=>?_⟩;have h2:=hN n m hn hm;have k2:=hN n l hn hl;show Nr (a.s n-0) e;unfold Nr at*;grind
theorem kY {x:R}(h:pos x):x≠q 0:=fun e=>by subst e;exact kK h
theorem xf {x:R}(h:pos (-x)):x≠q 0:=fun e=>by subst e;rw[iB]at h;exact kK h
theorem qE {x y:R}(hx:x≠q 0)(hy:y≠q 0):x*y≠q 0:=by
 rcases(Ol x).resolve_left hx with h|h<;>rcases(Ol y).resolve_left hy with k|k
 ·exact kY (dE h k)
 ·refine xf ?_;rw[←mul_neg];exact dE h k
 ·refine xf ?_;rw[←neg_mul];exact dE h k
 refine kY ?_
 have:=dE h k
 rwa [neg_mul,mul_neg,neg_neg]at this
theorem gR {x y:R}(h:x*y=q 0):x=q 0∨y=q 0:=by
 by_cases hx:x=q 0
 ·exact .inl hx
 exact .inr (Classical.byContradiction fun hy=>qE hx hy h)
theorem ku {x y:Rat}(h:q x=q y):x=y:=by
 have h0:q (x-y)=q 0:=by rw[show x-y=x+ -y by grind,vz,u7,h,add_neg]
 have h1:¬0<x-y:=fun hp=>kY (ub.2 hp) h0;have h2:¬0< -(x-y):=fun hp=>xf (x:=q (x-y)) (by rw[←u7];exact ub.2 hp) h0
 grind
theorem jl {x y z:R}(h:x*z=y*z)(hz:z≠q 0):x=y:=by
 refine gu ((gR (y:=z) ?_).resolve_right hz);rw[sub_def,add_mul,neg_mul,h,add_neg]
theorem yt {x:R}:pos x→∃y,x*y=q 1:=by
 induction x using ind with|h a=>
 rintro⟨e,he,N,hN⟩;have hne:∀n,N≤n→a.s n≠0:=fun n hn=>by have:=hN n hn;grind
 let b:Sq:=⟨fun n=>(a.s (max n N))⁻¹,fun f hf=>by
  obtain⟨M,hM⟩:=a.h (f*(e*e)) (Rat.mul_pos hf (Rat.mul_pos he he));refine⟨M,fun m n hm hn=>?_⟩;have h1:=hM (max m N) (max n N) (by omega) (by omega);have a1:=hN (max m N) (by omega);have a2:=hN (max n N) (by omega)
  revert h1 a1 a2
  generalize a.s (max m N)=u
  generalize a.s (max n N)=v
  intro h1 hu hv;have u0:0<u:=by grind
  have v0:0<v:=by grind
  have h2:u⁻¹-v⁻¹=(v-u)*(u⁻¹*v⁻¹):=by
   have:u≠0:=by grind
   have:v≠0:=by grind
   grind
  have p:=Rat.mul_pos (Rat.inv_pos.2 u0) (Rat.inv_pos.2 v0);have huv:e*e<u*v:=by
   have h3:=Rat.mul_pos (a:=u-e) (b:=e) (by grind) he;have h4:=Rat.mul_pos (a:=u) (b:=v-e) (by grind) (by grind)
   grind
  have huv1:u*v*(u⁻¹*v⁻¹)=1:=by
   have:u≠0:=by grind
   have:v≠0:=by grind
   grind
  rw[h2]
  revert p huv1
  generalize u⁻¹*v⁻¹=w
  intro p huv1;unfold Nr at*
  have k1:=Rat.mul_pos (a:=f*(e*e)-(v-u)) (b:=w) (by grind) p;have k2:=Rat.mul_pos (a:=f*(e*e)+(v-u)) (b:=w) (by grind) p;have k3:=Rat.mul_pos (a:=f*(u*v-e*e)) (b:=w) (Rat.mul_pos hf (by grind)) p;have k4:f*(u*v)*w=f:=by rw[Rat.mul_assoc,huv1,Rat.mul_one]
  grind⟩
 refine⟨mk b,sound fun f hf=>⟨N,fun n hn=>?_⟩⟩;have h1:a.s n*(a.s (max n N))⁻¹=1:=by
  rw[Nat.max_eq_left hn,Rat.mul_inv_cancel _ (hne n hn)]
 show Nr (a.s n*(a.s (max n N))⁻¹-1) f;rw[h1];unfold Nr;grind
theorem inv {x:R}(h:x≠q 0):∃y,x*y=q 1:=by
 rcases(Ol x).resolve_left h with h|h
 ·exact yt h
 obtain⟨y,hy⟩:=yt h;exact⟨-y,by rw[mul_neg,←neg_mul,hy]⟩
def nn (x:R):Prop:=¬pos (-x)
theorem bx {x:R}:nn x↔x=q 0∨pos x:=by
 constructor
 ·intro h
  rcases Ol x with k|k|k
  ·exact .inl k
  ·exact .inr k
  exact absurd k h
 rintro(rfl|h) k
 ·rw[iB]at k;exact kK k
 exact C5 h k
theorem Ee (b:Rat)(hb:0≤b)(d:Rat)(hd:0<d):∃s:Rat,0≤s∧s*s≤b∧b<(s+d)*(s+d):=by
 have key:∀k:Nat,b<(k*d)*(k*d)→∃s:Rat,0≤s∧s*s≤b∧b<(s+d)*(s+d):=by
  intro k
  induction k with
  |zero=>intro h;exfalso;simp at h;grind
  |succ k ih=>
   intro h
   by_cases hk:b<(k*d)*(k*d)
   ·exact ih hk
   refine⟨k*d,Rat.mul_nonneg (by simp[Rat.natCast_nonneg]) (by grind),by grind,?_⟩;have e:((k+1:Nat):Rat)*d=k*d+d:=by rw[Rat.natCast_add];grind
   rw[e]at h;exact h
 obtain⟨k,hk⟩:∃k:Nat,b/(d*d)+1<(k:Rat):=by
  refine⟨(b/(d*d)+1).ceil.toNat+1,?_⟩;have h1:=Rat.le_ceil (x:=b/(d*d)+1);have h2:((b/(d*d)+1).ceil:Rat)≤(((b/(d*d)+1).ceil.toNat:Nat):Rat):=by
   rw[←Rat.intCast_natCast,Rat.intCast_le_intCast];exact Int.self_le_toNat _
  rw[Rat.natCast_add]
  grind
 refine key k ?_;have hdd:=Rat.mul_pos hd hd;have h0:0≤b/(d*d):=by rw[Rat.div_def];exact Rat.mul_nonneg hb (Rat.le_of_lt (Rat.inv_pos.2 hdd))
 have e1:b/(d*d)*(d*d)=b:=div_mul hdd;have k1:(1:Rat)<k:=by grind
 have h2:=Rat.mul_pos (a:=(k:Rat)-b/(d*d)) (b:=d*d) (by grind) hdd;have h3:=Rat.mul_pos (a:=(k:Rat)*((k:Rat)-1)) (b:=d*d) (Rat.mul_pos (by grind) (by grind)) hdd
 grind
theorem NJ (e:Rat)(he:0<e):∃N:Nat,∀n,N≤n→(1:Rat)/((n:Rat)+1)<e:=by
 refine⟨(1/e).ceil.toNat,fun n hn=>?_⟩;have h1:=Rat.le_ceil (x:=1/e);have h2:((1/e).ceil:Rat)≤(n:Rat):=by
  rw[←Rat.intCast_natCast,Rat.intCast_le_intCast];omega
 have h3:1/e<(n:Rat)+1:=by grind
 have e0:e≠0:=by grind
 have hpe:=div_pos (a:=1) (by decide) he;have n0:0<(n:Rat)+1:=by grind
 have h4:=Rat.mul_pos (a:=(n:Rat)+1-1/e) (b:=e) (by grind) he;have h5:1/e*e=1:=div_mul he;have h6:1<((n:Rat)+1)*e:=by grind
 have h7:=Rat.mul_pos (a:=((n:Rat)+1)*e-1) (b:=1/((n:Rat)+1)) (by grind) (div_pos (by decide) n0);have h8:1/((n:Rat)+1)*((n:Rat)+1)=1:=div_mul n0
 revert h7 h8
 generalize 1/((n:Rat)+1)=r
 generalize(n:Rat)+1=m
 intro h7 h8;have h9:(m*e-1)*r=r*m*e-r:=by grind
 rw[h9,h8]at h7
 grind
end Go.R
namespace Go.R
open Go.Re
theorem KZ {a:Sq}(h:nn (mk a)){e:Rat}(he:0<e):∃N,∀n,N≤n→ -e<a.s n:=by
 rcases bx.1 h with h|h
 ·obtain⟨N,hN⟩:=exact (b:=Sq.const 0) h e he;refine⟨N,fun n hn=>?_⟩;have h1:Nr (a.s n-0) e:=hN n hn;unfold Nr at h1;grind
 obtain⟨f,hf,N,hN⟩:=h;refine⟨N,fun n hn=>?_⟩
 have:=hN n hn
 grind
theorem mo {x:R}(h:nn x):∃y,nn y∧y*y=x:=by
 induction x using ind with|h a=>
 let b:Nat→Rat:=fun n=>if 0≤a.s n then a.s n else 0
 have hb0:∀n,0≤b n:=fun n=>by show 0≤ite _ _ _;split<;>grind
 have dp:∀n:Nat,(0:Rat)<1/((n:Rat)+1):=fun n=>div_pos (by decide) (by have:(0:Rat)≤n:=Rat.natCast_nonneg;grind);obtain⟨s,hs⟩:=Classical.axiomOfChoice (r:=fun(n:Nat) (s:Rat)=>0≤s∧s*s≤b n∧b n<(s+1/((n:Rat)+1))*(s+1/((n:Rat)+1))) fun n=>Ee (b n) (hb0 n) _ (dp n);have hbc:∀m n (e:Rat),Nr (a.s m-a.s n) e→b m-b n<e:=by
  intro m n e h;unfold Nr at h
  show(ite _ _ _:Rat)-ite _ _ _<e
  split<;>split<;>grind
 have hc:∀e,0<e→∃N,∀m n,N≤m→N≤n→s m<s n+e:=by
  intro e he;obtain⟨N,hN⟩:=a.h (e*e/2) (bL (Rat.mul_pos he he));obtain⟨M,hM⟩:=NJ (e/2) (bL he);refine⟨max N M,fun m n hm hn=>?_⟩;have h1:=hbc m n _ (hN m n (by omega) (by omega));obtain⟨m1,m2,m3⟩:=hs m;obtain⟨n1,n2,n3⟩:=hs n;have hd:=hM n (by omega);have dn:=dp n
  revert hd dn n3
  generalize(1:Rat)/((n:Rat)+1)=d
  intro n3 hd dn;refine Rat.not_le.1 fun hh=>?_;have k1:=Rat.mul_nonneg (a:=s m-(s n+e)) (b:=s m+(s n+e)) (by grind) (by grind);have k2:=Rat.mul_nonneg (a:=e/2-d) (b:=2*s n+d+e/2) (by grind) (by grind);have k3:=Rat.mul_nonneg (a:=s n) (b:=e) n1 (Rat.le_of_lt he);have k4:=Rat.mul_pos he he
  grind
 let y:Sq:=⟨s,fun e he=>by
  obtain⟨N,hN⟩:=hc e he;refine⟨N,fun m n hm hn=>?_⟩;have h1:=hN m n hm hn;have h2:=hN n m hn hm;unfold Nr;grind⟩
 refine⟨mk y,?_,?_⟩
 ·rintro⟨e,he,N,hN⟩;have h1:e< -s N:=hN N (Nat.le_refl _)
  have:=(hs N).1
  grind
 refine sound fun e he=>?_;obtain⟨B,hB,hy⟩:=y.sk;obtain⟨N,hN⟩:=KZ h (bL he);have hq:0<e/2/(2*B+1):=div_pos (bL he) (by grind);obtain⟨M,hM⟩:=NJ (e/2/(2*B+1)) hq;obtain⟨L,hL⟩:=NJ 1 (by decide);refine⟨max N (max M L),fun n hn=>?_⟩;obtain⟨n1,n2,n3⟩:=hs n;have hd:=hM n (by omega);have hl:=hL n (by omega);have dn:=dp n;have ha:=hN n (by omega);have hyn:Nr (s n) B:=hy n;have hb:a.s n≤b n∧b n<a.s n+e/2∨a.s n=b n:=by
  show a.s n≤ite _ _ _∧ite _ _ _<a.s n+e/2∨a.s n=ite _ _ _
  split<;>grind
 show Nr (s n*s n-a.s n) e
 revert hd dn n3 hl
 generalize(1:Rat)/((n:Rat)+1)=d
 intro n3 hd hl dn;have e1:e/2/(2*B+1)*(2*B+1)=e/2:=div_mul (by grind)
 revert e1 hd
 generalize e/2/(2*B+1)=g
 intro hd e1;unfold Nr at*
 have k1:=Rat.mul_nonneg (a:=g-d) (b:=2*B+1) (by grind) (by grind);have k2:=Rat.mul_nonneg (a:=d) (b:=B-s n) (by grind) (by grind);have k3:=Rat.mul_nonneg (a:=d) (b:=1-d) (by grind) (by grind)
 grind
noncomputable def sqrt (x:R):R:=open Classical in if h:nn x then Classical.choose (mo h)else q 0
theorem dN {x:R}(h:nn x):sqrt x*sqrt x=x:=by
 unfold sqrt;rw[dif_pos h];exact(Classical.choose_spec (mo h)).2
theorem CJ (x:R):nn (sqrt x):=by
 unfold sqrt
 split
 ·rename_i h;exact(Classical.choose_spec (mo h)).1
 exact bx.2 (.inl rfl)
end Go.R
/-
  TOWERS OF SQUARE ROOTS: elements as lists of coefficients, their values, products and signs.
-/
namespace Go.R
open Go.Re
theorem Gi (x y u v s:R):(x+y*s)*(u+v*s)=(x*u+y*v*(s*s))+(x*v+y*u)*s:=by
 induction x using ind with|h x=>induction y using ind with|h y=>induction u using ind with|h u=>induction v using ind with|h v=>induction s using ind with|h s=>
 exact pt fun n=>by simp only[Sq.add,Sq.mul];grind
theorem px (x y s:R):(x+y*s)*(x-y*s)=x*x+ -(y*y*(s*s)):=by
 induction x using ind with|h x=>induction y using ind with|h y=>induction s using ind with|h s=>
 exact pt fun n=>by simp only[Sq.add,Sq.mul,Sq.neg];grind
theorem FU (x y u v s:R):(x+y*s)+(u+v*s)=(x+u)+(y+v)*s:=by
 induction x using ind with|h x=>induction y using ind with|h y=>induction u using ind with|h u=>induction v using ind with|h v=>induction s using ind with|h s=>
 exact pt fun n=>by simp only[Sq.add,Sq.mul];grind
theorem GL (x y s:R): -(x+y*s)= -x+ -y*s:=by
 induction x using ind with|h x=>induction y using ind with|h y=>induction s using ind with|h s=>
 exact pt fun n=>by simp only[Sq.add,Sq.mul,Sq.neg];grind
noncomputable def bJ (x:R):Int:=open Classical in if pos x then 1 else if pos (-x)then-1 else 0
theorem gP {x:R}(h:pos x):bJ x=1:=by unfold bJ;rw[if_pos h]
theorem nD {x:R}(h:pos (-x)):bJ x= -1:=by unfold bJ;rw[if_neg (fun k=>C5 k h),if_pos h]
theorem fX:bJ (q 0)=0:=by
 unfold bJ;rw[if_neg kK,if_neg (by rw[iB];exact kK)]
theorem df (x:R):x=q 0∧bJ x=0∨pos x∧bJ x=1∨pos (-x)∧bJ x= -1:=by
 rcases Ol x with h|h|h
 ·exact .inl ⟨h,h▸fX⟩
 ·exact .inr (.inl ⟨h,gP h⟩)
 exact .inr (.inr ⟨h,nD h⟩)
theorem m9 {x:R}:bJ x=0↔x=q 0:=by
 rcases df x with⟨h,e⟩|⟨h,e⟩|⟨h,e⟩
 ·exact⟨fun _=>h,fun _=>e⟩
 ·exact⟨fun k=>by omega,fun k=>absurd k (kY h)⟩
 exact⟨fun k=>by omega,fun k=>absurd k (xf h)⟩
theorem kQ (x y:R):bJ (x*y)=bJ x*bJ y:=by
 rcases df x with⟨h,e⟩|⟨h,e⟩|⟨h,e⟩<;>rcases df y with⟨k,f⟩|⟨k,f⟩|⟨k,f⟩<;>rw [e,f]
 ·rw[h,zero_mul,fX];rfl
 ·rw[h,zero_mul,fX];rfl
 ·rw[h,zero_mul,fX];rfl
 ·rw[k,mul_zero,fX];rfl
 ·exact gP (dE h k)
 ·exact nD (by rw[←mul_neg];exact dE h k)
 ·rw[k,mul_zero,fX];rfl
 ·exact nD (by rw[←neg_mul];exact dE h k)
 have:=dE h k
 rw[neg_mul,mul_neg,neg_neg]at this;exact gP this
theorem Ph (x:Rat):bJ (q x)=if 0<x then 1 else if x<0 then-1 else 0:=by
 by_cases h:0<x
 ·rw[if_pos h,gP (ub.2 h)]
 rw[if_neg h]
 by_cases k:x<0
 ·rw[if_pos k];exact nD (by rw[←u7];exact ub.2 (by grind))
 rw[if_neg k,show x=0 by grind,fX]
theorem Fy {x y s:R}(hs:pos s):bJ (x+y*s)=if bJ y=0∨bJ x=bJ y then bJ x else if bJ x=0 then bJ y else bJ x*bJ (x*x+ -(y*y*(s*s))):=by
 have hss:=gP hs;have hys:bJ (y*s)=bJ y:=by rw[kQ,hss,Int.mul_one]
 have hn:=congrArg bJ (px x y s);rw[kQ]at hn
 rcases df x with⟨h,e⟩|⟨h,e⟩|⟨h,e⟩<;>rcases df y with⟨k,f⟩|⟨k,f⟩|⟨k,f⟩<;>rw [e,f]
 ·rw[h,zero_add,hys,f];rfl
 ·rw[h,zero_add,hys,f];rfl
 ·rw[h,zero_add,hys,f];rfl
 ·rw[k,zero_mul,add_zero,e];rfl
 ·exact gP (pI h (dE k hs))
 ·have h1:pos (x-y*s):=by rw[sub_def,←neg_mul];exact pI h (dE k hs)
  rw[gP h1,Int.mul_one]at hn;rw[hn];rw[if_neg (by omega),if_neg (by omega),Int.one_mul]
 ·rw[k,zero_mul,add_zero,e];rfl
 ·have h1:pos (-(x-y*s)):=by rw[sub_def,me,neg_neg];exact pI h (dE k hs)
  rw[nD h1]at hn;rw[←hn];rw[if_neg (by omega),if_neg (by omega)];omega
 refine nD ?_;rw[me,←neg_mul];exact pI h (dE k hs)
theorem zo {x:R}(h:pos x):pos (sqrt x):=by
 rcases bx.1 (CJ x)with k|k
 ·have:=dN (bx.2 (.inr h))
  rw[k,mul_zero]at this;exact absurd this.symm (kY h)
 exact k
theorem L6 (x:R):nn (x*x):=by
 rcases Ol x with h|h|h
 ·rw[h,mul_zero];exact bx.2 (.inl rfl)
 ·exact bx.2 (.inr (dE h h))
 have:=dE h h
 rw[neg_mul,mul_neg,neg_neg]at this;exact bx.2 (.inr this)
theorem Du {x y:R}(h:x*x=y*y):x=y∨x= -y:=by
 have e:(x-y)*(x- -y)=q 0:=by
  have:(x-y)*(x- -y)=x*x-y*y:=by
   induction x using ind with|h x=>induction y using ind with|h y=>
   exact pt fun n=>by simp only[Sq.add,Sq.mul,Sq.neg];grind
  rw[this,h,sub_self]
 rcases gR e with h|h
 ·exact .inl (gu h)
 exact .inr (gu h)
theorem Gk {x y:R}(hx:nn x)(hy:nn y)(h:x*x=y*y):x=y:=by
 rcases Du h with e|e
 ·exact e
 rcases bx.1 hy with k|k
 ·rw[e,k,iB]
 exact absurd (by rw[e,neg_neg];exact k) hx
theorem pR {x:R}(h:nn x):sqrt (x*x)=x:=Gk (CJ _) h (dN (L6 x))
end Go.R
namespace Go.Tw
open Go Go.R
abbrev El:=List Rat
noncomputable def val:Nat→List El→El→R
 |0,_,a=>q (a.getD 0 0)
 |h+1,t,a=>val h t (a.take (2^h))+val h t (a.drop (2^h))*sqrt (val h t (t.getD h []))
def aC (a b:El):El:=List.zipWith (· + ·) a b
def aJ (a:El):El:=a.map (- ·)
def zE (n:Nat):El:=List.replicate n 0
def ai:Nat→List El→El→El→El
 |0,_,a,b=>[a.getD 0 0*b.getD 0 0]
 |h+1,t,a,b=>aC (ai h t (a.take (2^h)) (b.take (2^h))) (ai h t (ai h t (a.drop (2^h)) (b.drop (2^h))) (t.getD h []))++
   aC (ai h t (a.take (2^h)) (b.drop (2^h))) (ai h t (a.drop (2^h)) (b.take (2^h)))
theorem ah {a:El}{h:Nat}(ha:a.length=2^(h+1)):(a.take (2^h)).length=2^h:=by
 rw[X5,ha,Nat.pow_succ];omega
theorem ag {a:El}{h:Nat}(ha:a.length=2^(h+1)):(a.drop (2^h)).length=2^h:=by
 rw[List.length_drop,ha,Nat.pow_succ];omega
theorem ao {a b:El}{n:Nat}(ha:a.length=n)(hb:b.length=n):(aC a b).length=n:=by
 unfold aC;rw[List.length_zipWith,ha,hb,Nat.min_self]
theorem ar {a:El}:(aJ a).length=a.length:=List.length_map _
theorem au {n:Nat}:(zE n).length=n:=List.length_replicate
theorem ae {h:Nat}{t:List El}:∀{a b:El},(ai h t a b).length=2^h:=by
 induction h with
 |zero=>intro a b;rfl
 |succ h ih=>
  intro a b;rw[ai,X6,ao ih ih,ao ih ih,Nat.pow_succ];omega
theorem bB {a:El}(h:a.length=2^0):∃x,a=[x]:=by
 match a,h with
 |[x],_=>exact⟨x,rfl⟩
theorem gn {h:Nat}{t:List El}{a b:El}(ha:a.length=2^h):val (h+1) t (a++b)=val h t a+val h t b*sqrt (val h t (t.getD h [])):=by
 rw[val,List.take_append_of_le_length (by omega),List.take_of_length_le (by omega),List.drop_append_of_le_length (by omega),List.drop_of_length_le (by omega),List.nil_append]
theorem val_add {h:Nat}{t:List El}:∀{a b:El},a.length=2^h→b.length=2^h→val h t (aC a b)=val h t a+val h t b:=by
 induction h with
 |zero=>
  intro a b ha hb;obtain⟨x,rfl⟩:=bB ha;obtain⟨y,rfl⟩:=bB hb;exact vz x y
 |succ h ih=>
  intro a b ha hb;have e1:(aC a b).take (2^h)=aC (a.take (2^h)) (b.take (2^h)):=List.take_zipWith;have e2:(aC a b).drop (2^h)=aC (a.drop (2^h)) (b.drop (2^h)):=List.drop_zipWith;rw[val,e1,e2,ih (ah ha) (ah hb),ih (ag ha) (ag hb),val,val,FU]
theorem val_neg {h:Nat}{t:List El}:∀{a:El},a.length=2^h→val h t (aJ a)= -val h t a:=by
 induction h with
 |zero=>
  intro a ha;obtain⟨x,rfl⟩:=bB ha;exact u7 x
 |succ h ih=>
  intro a ha;have e1:(aJ a).take (2^h)=aJ (a.take (2^h)):=List.map_take.symm;have e2:(aJ a).drop (2^h)=aJ (a.drop (2^h)):=List.map_drop.symm;rw[val,e1,e2,ih (ah ha),ih (ag ha),val,GL]
theorem pD {h:Nat}:(zE (2^(h+1))).take (2^h)=zE (2^h):=by
 unfold zE;rw[List.take_replicate,Nat.pow_succ,Nat.min_eq_left (by omega)]
theorem py {h:Nat}:(zE (2^(h+1))).drop (2^h)=zE (2^h):=by
 unfold zE;rw[List.drop_replicate,Nat.pow_succ];congr 1;omega
theorem AT {h:Nat}:zE (2^h)++zE (2^h)=zE (2^(h+1)):=by
 unfold zE;rw[List.replicate_append_replicate,Nat.pow_succ];congr 1;omega
theorem val_zero {h:Nat}{t:List El}:val h t (zE (2^h))=q 0:=by
 induction h with
 |zero=>rfl
 |succ h ih=>rw[val,pD,py,ih,zero_mul,add_zero]
def Rl (h:Nat)(t:List El):Prop:=∀i,i<h→(t.getD i []).length=2^i∧pos (val i t (t.getD i []))
theorem Rl.le {h k:Nat}{t:List El}(H:Rl h t)(hk:k≤h):Rl k t:=fun i hi=>H i (by omega)
theorem Rl.root {h:Nat}{t:List El}(H:Rl (h+1) t):sqrt (val h t (t.getD h []))*sqrt (val h t (t.getD h []))=val h t (t.getD h []):=
 dN (bx.2 (.inr (H h (by omega)).2))
theorem val_mul {h:Nat}{t:List El}:∀(_:Rl h t) {a b:El},a.length=2^h→b.length=2^h→val h t (ai h t a b)=val h t a*val h t b:=by
 induction h with
 |zero=>intro _ a b _ _;exact dT _ _
 |succ h ih=>
  intro H a b ha hb;have H':=H.le (Nat.le_succ h);rw[ai,gn (ao ae ae),val_add ae ae,val_add ae ae,ih H' (ah ha) (ah hb),ih H' ae (H h (by omega)).1,
   ih H' (ag ha) (ag hb),ih H' (ah ha) (ag hb),ih H' (ag ha) (ah hb),val,val,Gi,H.root]
def aO (h:Nat)(t:List El)(a:El):El:=aC (ai h t (a.take (2^h)) (a.take (2^h))) (aJ (ai h t (ai h t (a.drop (2^h)) (a.drop (2^h))) (t.getD h [])))
theorem aI {h:Nat}{t:List El}{a:El}:(aO h t a).length=2^h:=ao ae (by rw[ar,ae])
theorem fh {h:Nat}{t:List El}(H:Rl (h+1) t){a:El}(ha:a.length=2^(h+1)):
  val h t (aO h t a)=val h t (a.take (2^h))*val h t (a.take (2^h))+ -(val h t (a.drop (2^h))*val h t (a.drop (2^h))*(sqrt (val h t (t.getD h []))*sqrt (val h t (t.getD h [])))):=by
 have H':=H.le (Nat.le_succ h);unfold aO;rw[val_add ae (by rw[ar,ae]),val_neg ae,val_mul H' (ah ha) (ah ha),val_mul H' ae (H h (by omega)).1,val_mul H' (ag ha) (ag ha),H.root]
def bo:Nat→List El→El→Int
 |0,_,a=>if 0<a.getD 0 0 then 1 else if a.getD 0 0<0 then-1 else 0
 |h+1,t,a=>
  if bo h t (a.drop (2^h))=0∨bo h t (a.take (2^h))=bo h t (a.drop (2^h))then bo h t (a.take (2^h))
  else if bo h t (a.take (2^h))=0 then bo h t (a.drop (2^h))
  else bo h t (a.take (2^h))*bo h t (aO h t a)
theorem b6 {h:Nat}{t:List El}:∀(_:Rl h t) {a:El},a.length=2^h→bo h t a=bJ (val h t a):=by
 induction h with
 |zero=>intro _ a _;exact(Ph _).symm
 |succ h ih=>
  intro H a ha;have H':=H.le (Nat.le_succ h);rw[bo,ih H' (ah ha),ih H' (ag ha),ih H' aI,fh H ha,val,Fy (zo (H h (by omega)).2)]
end Go.Tw
/-
  TOWERS OF SQUARE ROOTS: reduced towers: an element is known by its value; inverses; square roots.
-/
namespace Go.R
open Go.Re
theorem Dt (p g s:R):(p+g*s)*(p+g*s)=(p*p+g*g*(s*s))+(p*g+p*g)*s:=by
 induction p using ind with|h p=>induction g using ind with|h g=>induction s using ind with|h s=>
 exact pt fun n=>by simp only[Sq.add,Sq.mul];grind
theorem Hu (p g r:R):(p*p+ -(g*g*r))*(p*p+ -(g*g*r))=(p*p+g*g*r)*(p*p+g*g*r)+ -((p*g+p*g)*(p*g+p*g)*r):=by
 induction p using ind with|h p=>induction g using ind with|h g=>induction r using ind with|h r=>
 exact pt fun n=>by simp only[Sq.add,Sq.mul,Sq.neg];grind
theorem MF (p g u r:R):(p*p+p*p+ -u)*(p*p+p*p+ -u)+ -(u*u+ -((p*g+p*g)*(p*g+p*g)*r))=(p*p)*(p*p+g*g*r+ -u)*q 4:=by
 induction p using ind with|h p=>induction g using ind with|h g=>induction u using ind with|h u=>induction r using ind with|h r=>
 exact pt fun n=>by simp only[Sq.add,Sq.mul,Sq.neg,Sq.const];grind
theorem nw {x y:R}(h:x+y=q 0):x= -y:=by
 refine gu ?_;rw[sub_def,neg_neg,h]
theorem BU {x y z:R}(h:x+z=y+z):x=y:=by
 have:=congrArg (· + -z) h
 simp only[add_assoc,add_neg,add_zero]at this;exact this
theorem GV:q 2≠q 0:=fun h=>absurd (ku h) (by decide)
theorem gk:q 1≠q 0:=fun h=>absurd (ku h) (by decide)
theorem C6 (x:R):x+x=q 2*x:=by
 induction x using ind with|h x=>
 exact pt fun n=>by simp only[Sq.add,Sq.mul,Sq.const];grind
theorem Ib {x:R}(h:x+x=q 0):x=q 0:=by
 rw[C6]at h;exact(gR h).resolve_left GV
theorem Ps {x:R}(h:x*x=q 0):x=q 0:=by
 rcases gR h with h|h<;>exact h
end Go.R
namespace Go.Tw
open Go Go.R
def In (h:Nat)(t:List El)(x:R):Prop:=∃a:El,a.length=2^h∧val h t a=x
theorem In.of {h:Nat}{t:List El}{a:El}(ha:a.length=2^h):In h t (val h t a):=⟨a,ha,rfl⟩
theorem In.add {h:Nat}{t:List El}{x y:R}(hx:In h t x)(hy:In h t y):In h t (x+y):=by
 obtain⟨a,ha,rfl⟩:=hx;obtain⟨b,hb,rfl⟩:=hy;exact⟨aC a b,ao ha hb,val_add ha hb⟩
theorem In.neg {h:Nat}{t:List El}{x:R}(hx:In h t x):In h t (-x):=by
 obtain⟨a,ha,rfl⟩:=hx;exact⟨aJ a,by rw[ar,ha],val_neg ha⟩
theorem In.mul {h:Nat}{t:List El}(H:Rl h t){x y:R}(hx:In h t x)(hy:In h t y):In h t (x*y):=by
 obtain⟨a,ha,rfl⟩:=hx;obtain⟨b,hb,rfl⟩:=hy;exact⟨ai h t a b,ae,val_mul H ha hb⟩
def aX (h:Nat)(x:Rat):El:=x::zE (2^h-1)
theorem aG {h:Nat}{x:Rat}:(aX h x).length=2^h:=by
 unfold aX;rw[List.length_cons,au];have:=Nat.two_pow_pos h;omega
theorem v7 {h:Nat}{x:Rat}:aX (h+1) x=aX h x++zE (2^h):=by
 unfold aX zE;rw[List.cons_append,List.replicate_append_replicate,Nat.pow_succ]
 have:=Nat.two_pow_pos h
 congr 2;omega
theorem cG {h:Nat}{t:List El}{x:Rat}:val h t (aX h x)=q x:=by
 induction h with
 |zero=>rfl
 |succ h ih=>rw[v7,gn aG,ih,val_zero,zero_mul,add_zero]
theorem In.rat {h:Nat}{t:List El}(x:Rat):In h t (q x):=⟨aX h x,aG,cG⟩
theorem kV {h:Nat}{t:List El}{a:El}(ha:a.length=2^h):val (h+1) t (a++zE (2^h))=val h t a:=by
 rw[gn ha,val_zero,zero_mul,add_zero]
theorem In.up {h:Nat}{t:List El}{x:R}(hx:In h t x):In (h+1) t x:=by
 obtain⟨a,ha,rfl⟩:=hx;exact⟨a++zE (2^h),by rw[X6,ha,au,Nat.pow_succ];omega,kV ha⟩
theorem In.split {h:Nat}{t:List El}{x:R}(hx:In (h+1) t x):∃u v,In h t u∧In h t v∧x=u+v*sqrt (val h t (t.getD h [])):=by
 obtain⟨a,ha,rfl⟩:=hx;exact⟨_,_,.of (ah ha),.of (ag ha),rfl⟩
theorem In.join {h:Nat}{t:List El}{u v:R}(hu:In h t u)(hv:In h t v):In (h+1) t (u+v*sqrt (val h t (t.getD h []))):=by
 obtain⟨a,ha,rfl⟩:=hu;obtain⟨b,hb,rfl⟩:=hv;exact⟨a++b,by rw[X6,ha,hb,Nat.pow_succ];omega,gn ha⟩
theorem In.root {h:Nat}{t:List El}:In (h+1) t (sqrt (val h t (t.getD h []))):=by
 have:=In.join (t:=t) (In.rat (h:=h) 0) (In.rat (h:=h) 1)
 rwa [one_mul,zero_add]at this
theorem In.le {h k:Nat}{t:List El}{x:R}(hx:In h t x)(hk:h≤k):In k t x:=by
 obtain⟨d,rfl⟩:=Nat.exists_eq_add_of_le hk;clear hk
 induction d with
 |zero=>exact hx
 |succ d ih=>exact ih.up
structure Rd (h:Nat) (t:List El):Prop where
 rl:Rl h t
 ns:∀i,i<h→∀x,In i t x→x*x≠val i t (t.getD i [])
theorem Rd.le {h k:Nat}{t:List El}(H:Rd h t)(hk:k≤h):Rd k t:=⟨H.rl.le hk,fun i hi=>H.ns i (by omega)⟩
theorem Rd.yT {h:Nat}{t:List El}(H:Rd (h+1) t):¬In h t (sqrt (val h t (t.getD h []))):=fun k=>H.ns h (by omega) _ k H.rl.root
def cA:Nat→List El→El→Option El
 |0,_,a=>if a.getD 0 0=0 then none else some [(a.getD 0 0)⁻¹]
 |h+1,t,a=>(cA h t (aO h t a)).map fun n=>ai h t (a.take (2^h)) n++aJ (ai h t (a.drop (2^h)) n)
theorem dc {h:Nat}{t:List El}:∀(_:Rl h t) {a b:El},a.length=2^h→cA h t a=some b→b.length=2^h∧val h t a*val h t b=q 1:=by
 induction h with
 |zero=>
  intro _ a b _ hb;rw[cA]at hb
  split at hb
  ·cases hb
  rename_i h0
  cases hb
  refine⟨rfl,?_⟩;show q _*q _=q 1;rw[←dT,X0,Rat.mul_inv_cancel _ h0]
 |succ h ih=>
  intro H a b ha hb;have H':=H.le (Nat.le_succ h);rw[cA,Option.map_eq_some_iff]at hb;obtain⟨n,hn,rfl⟩:=hb;obtain⟨hl,hv⟩:=ih H' aI hn;refine⟨by rw[X6,ar,ae,ae,Nat.pow_succ];omega,?_⟩;rw[fh H ha]at hv;rw[gn ae,val_neg ae,val_mul H' (ah ha) hl,val_mul H' (ag ha) hl,val,←hv,←px]
  generalize val h t (a.take (2^h))=x
  generalize val h t (a.drop (2^h))=y
  generalize val h t n=m
  rw[neg_mul,mul_assoc y m,mul_comm m,←mul_assoc y,←neg_mul,←add_mul,sub_def,mul_assoc]
theorem ud {h:Nat}{t:List El}(H:Rl h t)(hinv:∀x,In h t x→x≠q 0→∃y,In h t y∧x*y=q 1){x y s:R}(hx:In h t x)(hy:In h t y)(he:x+y*s=q 0)(hs:¬In h t s):y=q 0∧x=q 0:=by
 by_cases h0:y=q 0
 ·exact⟨h0,by rwa [h0,zero_mul,add_zero]at he⟩
 exfalso
 obtain⟨z,hz,hyz⟩:=hinv y hy h0
 apply hs
 have:s= -(x*z):=by
  have e:=nw (x:=y*s) (y:=x) (by rw[add_comm];exact he)
  have:=congrArg (z* ·) e
  simp only[←mul_assoc,mul_neg]at this;rw[mul_comm z y,hyz,one_mul,mul_comm z x]at this;exact this
 rw[this];exact(In.mul H hx hz).neg
theorem nv {h:Nat}{t:List El}:∀(_:Rd h t) {a:El},a.length=2^h→cA h t a=none→val h t a=q 0:=by
 induction h with
 |zero=>
  intro _ a _ hb;rw[cA]at hb
  split at hb
  ·rename_i h0
   show q _=q 0;rw[h0]
  cases hb
 |succ h ih=>
  intro H a ha hb;have H':=H.le (Nat.le_succ h);rw[cA,Option.map_eq_none_iff]at hb;have h0:=ih H' aI hb;have hinv:∀x,In h t x→x≠q 0→∃y,In h t y∧x*y=q 1:=by
   rintro x ⟨a,ha,rfl⟩ h0
   cases hi:cA h t a with
   |none=>exact absurd (ih H' ha hi) h0
   |some b=>
    obtain⟨hl,hv⟩:=dc H'.rl ha hi;exact⟨_,.of hl,hv⟩
  rw[fh H.rl ha,←px]at h0
  rcases gR h0 with h0|h0
  ·exact h0
  rw[sub_def,←neg_mul,←val_neg (ag ha)]at h0
  have:=ud H'.rl hinv (.of (ah ha)) (.of (by rw[ar];exact ag ha)) h0 H.yT
  rw[val_neg (ag ha)]at this;rw[val,this.2,nw (y:=q 0) (x:=val h t (a.drop (2^h))) ?_,iB,zero_mul,add_zero];rw[add_zero]
  have:=congrArg (- ·) this.1
  simpa only[neg_neg,iB]using this
theorem In.inv {h:Nat}{t:List El}(H:Rd h t){x y:R}(hx:In h t x)(h1:x*y=q 1):In h t y:=by
 obtain⟨a,ha,rfl⟩:=hx
 cases hi:cA h t a with
 |none=>
  rw[nv H ha hi,zero_mul]at h1;exact absurd h1.symm gk
 |some b=>
  obtain⟨hl,hv⟩:=dc H.rl ha hi
  have:y=val h t b:=by
   refine jl (z:=val h t a) ?_ ?_
   ·rw[mul_comm y,h1,mul_comm,hv]
   intro e;rw[e,zero_mul]at h1;exact gk h1.symm
  rw[this];exact .of hl
theorem In.Po {h:Nat}{t:List El}(H:Rd h t)(x:R)(hx:In h t x)(h0:x≠q 0):∃y,In h t y∧x*y=q 1:=by
 obtain⟨y,hy⟩:=R.inv h0;exact⟨y,hx.inv H hy,hy⟩
theorem oR {h:Nat}{t:List El}(H:Rd (h+1) t){x y:R}(hx:In h t x)(hy:In h t y)(he:x+y*sqrt (val h t (t.getD h []))=q 0):x=q 0∧y=q 0:=
 (ud (H.rl.le (Nat.le_succ h)) (In.Po (H.le (Nat.le_succ h))) hx hy he H.yT).symm
theorem kt {h:Nat}{t:List El}(H:Rd (h+1) t){x y u v:R}(hx:In h t x)(hy:In h t y)(hu:In h t u)(hv:In h t v)
  (he:x+y*sqrt (val h t (t.getD h []))=u+v*sqrt (val h t (t.getD h []))):x=u∧y=v:=by
 have:=oR H (hx.add hu.neg) (hy.add hv.neg) (by
  rw[←FU,he,←GL,add_neg])
 exact⟨gu this.1,gu this.2⟩
theorem mG {h:Nat}{t:List El}:∀(_:Rd h t) {a:El},a.length=2^h→val h t a=q 0→a=zE (2^h):=by
 induction h with
 |zero=>
  intro _ a ha h0;obtain⟨x,rfl⟩:=bB ha;rw[show x=0 from ku h0];rfl
 |succ h ih=>
  intro H a ha h0;have H':=H.le (Nat.le_succ h);obtain⟨h1,h2⟩:=oR H (.of (ah ha)) (.of (ag ha)) h0;rw[←List.take_append_drop (2^h) a,ih H' (ah ha) h1,ih H' (ag ha) h2,AT]
theorem val_inj {h:Nat}{t:List El}:∀(_:Rd h t) {a b:El},a.length=2^h→b.length=2^h→val h t a=val h t b→a=b:=by
 induction h with
 |zero=>
  intro _ a b ha hb h0;obtain⟨x,rfl⟩:=bB ha;obtain⟨y,rfl⟩:=bB hb;rw[show x=y from ku h0]
 |succ h ih=>
  intro H a b ha hb h0;have H':=H.le (Nat.le_succ h);obtain⟨h1,h2⟩:=kt H (.of (ah ha)) (.of (ag ha)) (.of (ah hb)) (.of (ag hb)) h0;rw[←List.take_append_drop (2^h) a,←List.take_append_drop (2^h) b,ih H' (ah ha) (ah hb) h1,ih H' (ag ha) (ag hb) h2]
theorem jy {h:Nat}{t:List El}(H:Rd h t){a:El}(ha:a.length=2^h)(h0:val h t a≠q 0):∃b,cA h t a=some b∧b.length=2^h∧val h t a*val h t b=q 1:=by
 cases hi:cA h t a with
 |none=>exact absurd (nv H ha hi) h0
 |some b=>exact⟨b,rfl,dc H.rl ha hi⟩
theorem M8 {h:Nat}{t:List El}(H:Rd (h+1) t){x z:R}(hx:In h t x)(hz:In (h+1) t z)(he:z*z=x):
  In h t z∧z*z=x∨∃g,In h t g∧z=g*sqrt (val h t (t.getD h []))∧g*g*val h t (t.getD h [])=x:=by
 obtain⟨p,g,hp,hg,rfl⟩:=hz.split;have H':=(H.le (Nat.le_succ h));have hr:In h t (val h t (t.getD h [])):=.of (H.rl h (by omega)).1;have e2:=he;rw[Dt,H.rl.root]at e2
 have:=kt H (u:=x) (v:=q 0) ((In.mul H'.rl hp hp).add (In.mul H'.rl (In.mul H'.rl hg hg) hr)) ((In.mul H'.rl hp hg).add (In.mul H'.rl hp hg)) hx (In.rat 0) (by rw[zero_mul,add_zero];exact e2)
 rcases gR (Ib this.2)with h0|h0
 ·right
  refine⟨g,hg,by rw[h0,zero_add],?_⟩;rw[←this.1,h0,mul_zero,zero_add]
 left
 rw[h0,zero_mul,add_zero]at he⊢;exact⟨hp,he⟩
theorem Dh {h:Nat}{t:List El}(H:Rd (h+1) t){u v z:R}(hu:In h t u)(hv:In h t v)(h0:v≠q 0)(hz:In (h+1) t z)(he:z*z=u+v*sqrt (val h t (t.getD h []))):
  ∃p g,In h t p∧In h t g∧p≠q 0∧z=p+g*sqrt (val h t (t.getD h []))∧v=p*g+p*g∧p*p+g*g*val h t (t.getD h [])=u∧
   (p*p+ -(g*g*val h t (t.getD h [])))*(p*p+ -(g*g*val h t (t.getD h [])))=u*u+ -(v*v*val h t (t.getD h [])):=by
 obtain⟨p,g,hp,hg,rfl⟩:=hz.split;have H':=(H.le (Nat.le_succ h));have hr:In h t (val h t (t.getD h [])):=.of (H.rl h (by omega)).1;rw[Dt,H.rl.root]at he;obtain⟨h1,h2⟩:=kt H ((In.mul H'.rl hp hp).add (In.mul H'.rl (In.mul H'.rl hg hg) hr)) ((In.mul H'.rl hp hg).add (In.mul H'.rl hp hg)) hu hv he;refine⟨p,g,hp,hg,?_,rfl,h2.symm,h1,?_⟩
 ·rintro rfl;rw[zero_mul,add_zero]at h2;exact h0 h2.symm
 rw[Hu,h1,h2]
theorem I5 {u v r m p g s:R}(hs:s*s=r)(hm:m*m=u*u+ -(v*v*r))(hp:p*p+p*p=u+m)(h0:p≠q 0)(hg:p*g+p*g=v):(p+g*s)*(p+g*s)=u+v*s:=by
 have e:m=p*p+p*p+ -u:=by
  rw[hp,add_comm u,add_assoc,add_neg,add_zero]
 have k:=MF p g u r;rw[←e,hg,hm,add_neg]at k
 rcases gR k.symm with k|k
 ·rcases gR k with k|k
  ·exact absurd (Ps k) h0
  have:p*p+g*g*r=u:=by
   have:=nw k
   rw[neg_neg]at this;exact this
  rw[Dt,hs,this,hg]
 exact absurd (ku k) (by decide)
end Go.Tw
/-
  HEIGHTS: how long the coefficients of a number can be.
-/
namespace Go.R
open Go.Re
theorem KU (x y a b:R):(x+y)*(a*b)=(x*a)*b+(y*b)*a:=by
 induction x using ind with|h x=>induction y using ind with|h y=>induction a using ind with|h a=>induction b using ind with|h b=>
 exact pt fun n=>by simp only[Sq.add,Sq.mul];grind
theorem jT (x y a b:R):(x*y)*(a*b)=(x*a)*(y*b):=by
 induction x using ind with|h x=>induction y using ind with|h y=>induction a using ind with|h a=>induction b using ind with|h b=>
 exact pt fun n=>by simp only[Sq.mul];grind
theorem I3 (u v a b s:R):(u+ -v*s)*(a+ -b*s)=(u*a+v*b*(s*s))+ -(u*b+v*a)*s:=by
 induction u using ind with|h u=>induction v using ind with|h v=>induction a using ind with|h a=>induction b using ind with|h b=>induction s using ind with|h s=>
 exact pt fun n=>by simp only[Sq.add,Sq.mul,Sq.neg];grind
end Go.R
namespace Go.Tw
open Go Go.R
theorem DF (x:Rat):x*(x.den:Rat)=(x.num:Rat):=by
 have h0:(x.den:Rat)≠0:=fun e=>x.den_nz (Rat.natCast_inj.1 e);have e:x=(x.num:Rat)/(x.den:Rat):=by rw[←Rat.mkRat_eq_div,Rat.mkRat_self]
 grind
theorem N3 (x:Rat):(x*x).num=x.num*x.num∧(x*x).den=x.den*x.den:=by
 rw[Rat.mul_def,Rat.normalize_eq]
 have:Nat.gcd (x.num*x.num).natAbs (x.den*x.den)=1:=by
  rw[Int.natAbs_mul];exact Nat.Coprime.mul_left (Nat.Coprime.mul_right x.reduced x.reduced) (Nat.Coprime.mul_right x.reduced x.reduced)
 constructor
 ·show _/_=_;rw[this];simp
 show _/_=_;rw[this];simp
def ab (x:Rat):Rat:=if 0≤x then x else-x
theorem OP (x:Rat):0≤ab x:=by unfold ab;split<;>grind
theorem No (x y:Rat):ab (x+y)≤ab x+ab y:=by unfold ab;split<;>split<;>split<;>grind
theorem MK (x:Rat):ab (-x)=ab x:=by unfold ab;split<;>split<;>grind
theorem NX (x y:Rat):ab (x*y)=ab x*ab y:=by
 unfold ab
 by_cases hx:0≤x<;>by_cases hy:0≤y
 ·rw[if_pos hx,if_pos hy,if_pos (Rat.mul_nonneg hx hy)]
 ·rw[if_pos hx,if_neg hy]
  have:=Rat.mul_nonneg (a:=x) (b:= -y) hx (by grind)
  split<;>grind
 ·rw[if_neg hx,if_pos hy]
  have:=Rat.mul_nonneg (a:= -x) (b:=y) (by grind) hy
  split<;>grind
 rw[if_neg hx,if_neg hy]
 have:=Rat.mul_nonneg (a:= -x) (b:= -y) (by grind) (by grind)
 rw[if_pos (by grind)];grind
def du:Nat→(Nat→Nat)→El→Rat
 |0,_,a=>ab (a.getD 0 0)
 |h+1,w,a=>du h w (a.take (2^h))+du h w (a.drop (2^h))*(w h:Rat)
theorem cX {h:Nat}{w:Nat→Nat}:∀{a:El},0≤du h w a:=by
 induction h with
 |zero=>intro a;exact OP _
 |succ h ih=>intro a;rw[du];exact Rat.add_nonneg ih (Rat.mul_nonneg ih Rat.natCast_nonneg)
theorem mX {h:Nat}{w:Nat→Nat}{a b:El}(ha:a.length=2^h):du (h+1) w (a++b)=du h w a+du h w b*(w h:Rat):=by
 rw[du,List.take_append_of_le_length (by omega),List.take_of_length_le (by omega),List.drop_append_of_le_length (by omega),List.drop_of_length_le (by omega),List.nil_append]
theorem xK {h:Nat}{w:Nat→Nat}:∀{a:El},a.length=2^h→du h w (aJ a)=du h w a:=by
 induction h with
 |zero=>
  intro a ha;obtain⟨x,rfl⟩:=bB ha;exact MK x
 |succ h ih=>
  intro a ha;have e1:(aJ a).take (2^h)=aJ (a.take (2^h)):=List.map_take.symm;have e2:(aJ a).drop (2^h)=aJ (a.drop (2^h)):=List.map_drop.symm;rw[du,e1,e2,ih (ah ha),ih (ag ha),du]
theorem sB {h:Nat}{w:Nat→Nat}:∀{a b:El},a.length=2^h→b.length=2^h→du h w (aC a b)≤du h w a+du h w b:=by
 induction h with
 |zero=>
  intro a b ha hb;obtain⟨x,rfl⟩:=bB ha;obtain⟨y,rfl⟩:=bB hb;exact No x y
 |succ h ih=>
  intro a b ha hb;have e1:(aC a b).take (2^h)=aC (a.take (2^h)) (b.take (2^h)):=List.take_zipWith;have e2:(aC a b).drop (2^h)=aC (a.drop (2^h)) (b.drop (2^h)):=List.drop_zipWith;have h1:=ih (ah ha) (ah hb);have h2:=ih (ag ha) (ag hb);rw[du,e1,e2,du,du];have hw:(0:Rat)≤w h:=Rat.natCast_nonneg;have h3:=Rat.mul_le_mul_of_nonneg_right h2 hw;rw[Rat.add_mul]at h3
  grind
theorem pP {h:Nat}{w:Nat→Nat}:du h w (zE (2^h))=0:=by
 induction h with
 |zero=>rfl
 |succ h ih=>rw[du,pD,py,ih];grind
theorem nm {h:Nat}{w:Nat→Nat}{x:Rat}:du h w (aX h x)=ab x:=by
 induction h with
 |zero=>rfl
 |succ h ih=>rw[v7,mX aG,ih,pP];grind
def Wt (h:Nat)(z:List El)(w:Nat→Nat):Prop:=∀i,i<h→1≤w i∧du i w (z.getD i [])≤(w i:Rat)*(w i:Rat)
theorem Wt.le {h k:Nat}{z:List El}{w:Nat→Nat}(H:Wt h z w)(hk:k≤h):Wt k z w:=fun i hi=>H i (by omega)
theorem BX {a b c d:Rat}(ha:0≤a)(hd:0≤d)(h:a≤c)(k:b≤d):a*b≤c*d:=
 Rat.le_trans (Rat.mul_le_mul_of_nonneg_left k ha) (Rat.mul_le_mul_of_nonneg_right h hd)
theorem fF {h:Nat}{z:List El}{w:Nat→Nat}:∀(_:Wt h z w) (_:Rl h z) {a b:El},a.length=2^h→b.length=2^h→du h w (ai h z a b)≤du h w a*du h w b:=by
 induction h with
 |zero=>
  intro _ _ a b ha hb;obtain⟨x,rfl⟩:=bB ha;obtain⟨y,rfl⟩:=bB hb;show ab (x*y)≤ab x*ab y;rw[NX];exact Rat.le_refl
 |succ h ih=>
  intro W L a b ha hb;have W':=W.le (Nat.le_succ h);have L':=L.le (Nat.le_succ h);obtain⟨hw1,hw2⟩:=W h (by omega);have hr:=(L h (by omega)).1;have g1:=ih W' L' (ah ha) (ah hb);have g2:=ih W' L' (ag ha) (ag hb);have g3:=ih W' L' (ah ha) (ag hb);have g4:=ih W' L' (ag ha) (ah hb);have g5:=ih W' L' (a:=ai h z (a.drop (2^h)) (b.drop (2^h))) ae hr;have k1:=sB (w:=w) (a:=ai h z (a.take (2^h)) (b.take (2^h))) (b:=ai h z (ai h z (a.drop (2^h)) (b.drop (2^h))) (z.getD h [])) ae ae;have k2:=sB (w:=w) (a:=ai h z (a.take (2^h)) (b.drop (2^h))) (b:=ai h z (a.drop (2^h)) (b.take (2^h))) ae ae;rw[ai,mX (ao ae ae),du,du];have n1:0≤du h w (a.take (2^h)):=cX;have n2:0≤du h w (a.drop (2^h)):=cX;have n3:0≤du h w (b.take (2^h)):=cX;have n4:0≤du h w (b.drop (2^h)):=cX;have n5:0≤du h w (ai h z (a.drop (2^h)) (b.drop (2^h))):=cX;have n6:0≤du h w (z.getD h []):=cX;have hw:(0:Rat)≤w h:=Rat.natCast_nonneg;have m5:=BX n5 (Rat.mul_nonneg hw hw) g2 hw2;have m6:=Rat.mul_le_mul_of_nonneg_right k2 hw;have m7:=Rat.mul_le_mul_of_nonneg_right g3 hw;have m8:=Rat.mul_le_mul_of_nonneg_right g4 hw
  grind
def tD (x:Rat):Prop:=∃n:Int,x=(n:Rat)
theorem tD.add {x y:Rat}(h:tD x)(k:tD y):tD (x+y):=by
 obtain⟨m,rfl⟩:=h;obtain⟨n,rfl⟩:=k;exact⟨m+n,(Rat.intCast_add m n).symm⟩
theorem tD.mul {x y:Rat}(h:tD x)(k:tD y):tD (x*y):=by
 obtain⟨m,rfl⟩:=h;obtain⟨n,rfl⟩:=k;exact⟨m*n,(Rat.intCast_mul m n).symm⟩
theorem tD.neg {x:Rat}(h:tD x):tD (-x):=by
 obtain⟨m,rfl⟩:=h;exact⟨-m,(Rat.intCast_neg m).symm⟩
theorem tD.zero:tD 0:=⟨0,rfl⟩
def bA (a:El):Prop:=∀x∈a,tD x
theorem bA.take {a:El}(h:bA a)(n:Nat):bA (a.take n):=fun x hx=>h x (List.mem_of_mem_take hx)
theorem bA.drop {a:El}(h:bA a)(n:Nat):bA (a.drop n):=fun x hx=>h x (List.mem_of_mem_drop hx)
theorem bA.app {a b:El}(h:bA a)(k:bA b):bA (a++b):=fun x hx=>by
 rcases List.mem_append.1 hx with hx|hx
 ·exact h x hx
 exact k x hx
theorem bA.neg {a:El}(h:bA a):bA (aJ a):=fun x hx=>by
 obtain⟨y,hy,rfl⟩:=List.mem_map.1 hx;exact(h y hy).neg
theorem bA.add:∀{a b:El},bA a→bA b→bA (aC a b)
 |[],b,_,_=>by intro x hx;cases b<;>cases hx
 |x::a,[],_,_=>by intro y hy;cases hy
 |x::a,y::b,h,k=>by
  intro u hu;have hu:u=x+y∨u∈aC a b:=List.mem_cons.1 hu
  rcases hu with rfl|hu
  ·exact(h x (by simp)).add (k y (by simp))
  exact bA.add (fun v hv=>h v (by simp[hv])) (fun v hv=>k v (by simp[hv])) u hu
theorem bA.get {a:El}(h:bA a)(i:Nat):tD (a.getD i 0):=by
 rw[X7]
 cases e:a[i]? with
 |none=>exact tD.zero
 |some x=>exact h x (List.mem_of_getElem? e)
def D6 (h:Nat)(z:List El):Prop:=∀i,i<h→bA (z.getD i [])
theorem D6.le {h k:Nat}{z:List El}(H:D6 h z)(hk:k≤h):D6 k z:=fun i hi=>H i (by omega)
theorem bA.mul {h:Nat}{z:List El}:∀(_:D6 h z) {a b:El},bA a→bA b→bA (ai h z a b):=by
 induction h with
 |zero=>
  intro _ a b ha hb x hx;rw[ai,List.mem_singleton]at hx;subst hx;exact(ha.get 0).mul (hb.get 0)
 |succ h ih=>
  intro T a b ha hb;have T':=T.le (Nat.le_succ h);rw[ai];exact bA.app (bA.add (ih T' (ha.take _) (hb.take _)) (ih T' (ih T' (ha.drop _) (hb.drop _)) (T h (by omega))))
   (bA.add (ih T' (ha.take _) (hb.drop _)) (ih T' (ha.drop _) (hb.take _)))
theorem bA.zero {n:Nat}:bA (zE n):=fun x hx=>by
 rw[List.eq_of_mem_replicate hx];exact tD.zero
theorem bA.rat {h:Nat}{x:Rat}(hx:tD x):bA (aX h x):=fun y hy=>by
 rcases List.mem_cons.1 hy with rfl|hy
 ·exact hx
 exact bA.zero y hy
structure Zt (h:Nat) (z:List El) (w:Nat→Nat):Prop where
 rd:Rd h z
 int:D6 h z
 wt:Wt h z w
theorem Zt.le {h k:Nat}{z:List El}{w:Nat→Nat}(H:Zt h z w)(hk:k≤h):Zt k z w:=⟨H.rd.le hk,H.int.le hk,H.wt.le hk⟩
def p2 (H:Nat):Rat:=((2^H:Nat):Rat)
theorem wS (H K:Nat):p2 (H+K)=p2 H*p2 K:=by unfold p2;rw[Nat.pow_add,Rat.natCast_mul]
theorem L4 (H:Nat):0≤p2 H:=Rat.natCast_nonneg
theorem wM {H K:Nat}(h:H≤K):p2 H≤p2 K:=Rat.natCast_le_natCast.2 (Nat.pow_le_pow_right (by decide) h)
theorem F8:p2 1=2:=rfl
theorem KO:p2 0=1:=rfl
theorem FY (H:Nat):1≤p2 H:=by rw[←KO];exact wM (Nat.zero_le _)
theorem gE {a b:Rat}{H K:Nat}(ha:0≤a)(h:a≤p2 H)(k:b≤p2 K):a*b≤p2 (H+K):=by
 rw[wS];exact BX ha (L4 _) h k
def Ht (h:Nat)(z:List El)(w:Nat→Nat)(x:R)(H:Nat):Prop:=
 ∃P Q:El,P.length=2^h∧Q.length=2^h∧bA P∧bA Q∧val h z Q≠q 0∧x*val h z Q=val h z P∧du h w P≤p2 H∧du h w Q≤p2 H
section
variable {h:Nat}{z:List El}{w:Nat→Nat}
theorem Ht.mono {x:R}{H K:Nat}(hx:Ht h z w x H)(hk:H≤K):Ht h z w x K:=by
 obtain⟨P,Q,hP,hQ,iP,iQ,h0,he,nP,nQ⟩:=hx;exact⟨P,Q,hP,hQ,iP,iQ,h0,he,Rat.le_trans nP (wM hk),Rat.le_trans nQ (wM hk)⟩
theorem Ht.add (Z:Zt h z w){x y:R}{H K:Nat}(hx:Ht h z w x H)(hy:Ht h z w y K):Ht h z w (x+y) (H+K+1):=by
 obtain⟨P,Q,hP,hQ,iP,iQ,h0,he,nP,nQ⟩:=hx;obtain⟨S,T,hS,hT,iS,iT,k0,ke,nS,nT⟩:=hy;have m1:=fF Z.wt Z.rd.rl hP hT;have m2:=fF Z.wt Z.rd.rl hS hQ;have m3:=fF Z.wt Z.rd.rl hQ hT;have m4:=sB (w:=w) (a:=ai h z P T) (b:=ai h z S Q) ae ae;have b1:=gE cX nP nT;have b2:=gE cX nS nQ;have b3:=gE cX nQ nT;rw[Nat.add_comm K H]at b2;refine⟨aC (ai h z P T) (ai h z S Q),ai h z Q T,ao ae ae,ae,bA.add (bA.mul Z.int iP iT) (bA.mul Z.int iS iQ),bA.mul Z.int iQ iT,?_,?_,?_,?_⟩
 ·rw[val_mul Z.rd.rl hQ hT];exact qE h0 k0
 ·rw[val_mul Z.rd.rl hQ hT,val_add ae ae,val_mul Z.rd.rl hP hT,val_mul Z.rd.rl hS hQ,KU,he,ke]
 ·rw[wS _ 1,F8];grind
 rw[wS _ 1,F8];have:=L4 (H+K);grind
theorem Ht.mul (Z:Zt h z w){x y:R}{H K:Nat}(hx:Ht h z w x H)(hy:Ht h z w y K):Ht h z w (x*y) (H+K):=by
 obtain⟨P,Q,hP,hQ,iP,iQ,h0,he,nP,nQ⟩:=hx;obtain⟨S,T,hS,hT,iS,iT,k0,ke,nS,nT⟩:=hy;have m1:=fF Z.wt Z.rd.rl hP hS;have m3:=fF Z.wt Z.rd.rl hQ hT;have b1:=gE cX nP nS;have b3:=gE cX nQ nT;refine⟨ai h z P S,ai h z Q T,ae,ae,bA.mul Z.int iP iS,bA.mul Z.int iQ iT,?_,?_,Rat.le_trans m1 b1,Rat.le_trans m3 b3⟩
 ·rw[val_mul Z.rd.rl hQ hT];exact qE h0 k0
 rw[val_mul Z.rd.rl hQ hT,val_mul Z.rd.rl hP hS,jT,he,ke]
theorem Ht.neg {x:R}{H:Nat}(hx:Ht h z w x H):Ht h z w (-x) H:=by
 obtain⟨P,Q,hP,hQ,iP,iQ,h0,he,nP,nQ⟩:=hx;exact⟨aJ P,Q,by rw[ar,hP],hQ,iP.neg,iQ,h0,by rw[neg_mul,he,val_neg hP],by rw[xK hP];exact nP,nQ⟩
theorem Ht.inv {x y:R}{H:Nat}(hx:Ht h z w x H)(h1:x*y=q 1):Ht h z w y H:=by
 obtain⟨P,Q,hP,hQ,iP,iQ,h0,he,nP,nQ⟩:=hx;refine⟨Q,P,hQ,hP,iQ,iP,?_,?_,nQ,nP⟩
 ·rw[←he];refine qE ?_ h0;intro e;rw[e,zero_mul]at h1;exact gk h1.symm
 rw[←he,←mul_assoc,mul_comm y,h1,one_mul]
theorem Ht.rat {x:Rat}{H:Nat}(h1:x.num.natAbs≤2^H)(h2:x.den≤2^H):Ht h z w (q x) H:=by
 have hd:(x.den:Rat)≠0:=fun e=>x.den_nz (Rat.natCast_inj.1 e);refine⟨aX h (x.num:Rat),aX h (x.den:Rat),aG,aG,bA.rat ⟨_,rfl⟩,bA.rat ⟨(x.den:Int),(Rat.intCast_natCast _).symm⟩,?_,?_,?_,?_⟩
 ·rw[cG];exact fun e=>hd (ku e)
 ·rw[cG,cG,←dT,DF]
 ·rw[nm];unfold ab p2
  have:((x.num.natAbs:Nat):Rat)≤((2^H:Nat):Rat):=Rat.natCast_le_natCast.2 h1
  refine Rat.le_trans ?_ this;rw[←Rat.intCast_natCast]
  split
  ·exact Rat.intCast_le_intCast.2 (by omega)
  rw[←Rat.intCast_neg];exact Rat.intCast_le_intCast.2 (by omega)
 rw[nm];unfold ab p2;rw[if_pos Rat.natCast_nonneg];exact Rat.natCast_le_natCast.2 h2
theorem Ht.up {x:R}{H:Nat}(hx:Ht h z w x H):Ht (h+1) z w x H:=by
 obtain⟨P,Q,hP,hQ,iP,iQ,h0,he,nP,nQ⟩:=hx;have e:∀A:El,A.length=2^h→du (h+1) w (A++zE (2^h))=du h w A:=fun A hA=>by rw[mX hA,pP];grind
 refine⟨P++zE (2^h),Q++zE (2^h),?_,?_,iP.app bA.zero,iQ.app bA.zero,by rw[kV hQ];exact h0,by rw[kV hQ,kV hP];exact he,by rw[e P hP];exact nP,by rw[e Q hQ];exact nQ⟩
 ·rw[X6,hP,au,Nat.pow_succ];omega
 rw[X6,hQ,au,Nat.pow_succ];omega
theorem Ht.le {k:Nat}{x:R}{H:Nat}(hx:Ht h z w x H)(hk:h≤k):Ht k z w x H:=by
 obtain⟨d,rfl⟩:=Nat.exists_eq_add_of_le hk;clear hk
 induction d with
 |zero=>exact hx
 |succ d ih=>exact ih.up
theorem Ht.root {H:Nat}(hw:w h≤2^H):Ht (h+1) z w (sqrt (val h z (z.getD h []))) H:=by
 refine⟨zE (2^h)++aX h 1,aX (h+1) 1,?_,aG,bA.zero.app (bA.rat ⟨1,rfl⟩),bA.rat ⟨1,rfl⟩,?_,?_,?_,?_⟩
 ·rw[X6,au,aG,Nat.pow_succ];omega
 ·rw[cG];exact gk
 ·rw[cG,mul_one,gn au,val_zero,cG,one_mul,zero_add]
 ·rw[mX au,pP,nm]
  have:(w h:Rat)≤p2 H:=Rat.natCast_le_natCast.2 hw
  have e:ab 1=1:=rfl;rw[e];grind
 rw[nm];exact FY H
end
end Go.Tw
namespace Go.Tw
open Go Go.R
def qT (h:Nat)(a:El):El:=a.take (2^h)++aJ (a.drop (2^h))
theorem oZ {h:Nat}{a:El}(ha:a.length=2^(h+1)):(qT h a).length=2^(h+1):=by
 unfold qT;rw[X6,ar,ah ha,ag ha,Nat.pow_succ];omega
theorem zT {h:Nat}{a:El}(ha:bA a):bA (qT h a):=(ha.take _).app (ha.drop _).neg
section
variable {h:Nat}{z:List El}{w:Nat→Nat}
theorem p6 {a:El}(ha:a.length=2^(h+1)):val (h+1) z (qT h a)=val h z (a.take (2^h))+ -val h z (a.drop (2^h))*sqrt (val h z (z.getD h [])):=by
 unfold qT;rw[gn (ah ha),val_neg (ag ha)]
theorem zx {a:El}(ha:a.length=2^(h+1)):du (h+1) w (qT h a)=du (h+1) w a:=by
 unfold qT;rw[mX (ah ha),xK (ag ha),du]
theorem qJ (W:Wt (h+1) z w)(L:Rl (h+1) z){a:El}(ha:a.length=2^(h+1)):du h w (aO h z a)≤du (h+1) w a*du (h+1) w a:=by
 have W':=W.le (Nat.le_succ h);have L':=L.le (Nat.le_succ h);obtain⟨hw1,hw2⟩:=W h (by omega);have hr:=(L h (by omega)).1;have g1:=fF W' L' (ah ha) (ah ha);have g2:=fF W' L' (ag ha) (ag ha);have g5:=fF W' L' (a:=ai h z (a.drop (2^h)) (a.drop (2^h))) ae hr;have k1:=sB (w:=w) (a:=ai h z (a.take (2^h)) (a.take (2^h))) (b:=aJ (ai h z (ai h z (a.drop (2^h)) (a.drop (2^h))) (z.getD h []))) ae (by rw[ar,ae]);rw[xK ae]at k1;unfold aO;rw[du];have n1:0≤du h w (a.take (2^h)):=cX;have n2:0≤du h w (a.drop (2^h)):=cX;have n5:0≤du h w (ai h z (a.drop (2^h)) (a.drop (2^h))):=cX;have hw:(0:Rat)≤w h:=Rat.natCast_nonneg;have m5:=BX n5 (Rat.mul_nonneg hw hw) g2 hw2;have m6:=Rat.mul_nonneg (Rat.mul_nonneg n1 n2) hw
 grind
theorem rp (T:D6 (h+1) z){a:El}(ha:bA a):bA (aO h z a):=by
 have T':=T.le (Nat.le_succ h);unfold aO;exact bA.add (bA.mul T' (ha.take _) (ha.take _)) (bA.neg (bA.mul T' (bA.mul T' (ha.drop _) (ha.drop _)) (T h (by omega))))
theorem KX {a:El}:du h w (a.take (2^h))≤du (h+1) w a:=by
 rw[du];have n2:0≤du h w (a.drop (2^h)):=cX;have hw:(0:Rat)≤w h:=Rat.natCast_nonneg
 have:=Rat.mul_nonneg n2 hw
 grind
theorem Le (W:Wt (h+1) z w){a:El}:du h w (a.drop (2^h))≤du (h+1) w a:=by
 rw[du];have n1:0≤du h w (a.take (2^h)):=cX;have n2:0≤du h w (a.drop (2^h)):=cX;have hw:(1:Rat)≤w h:=Rat.natCast_le_natCast.2 (W h (by omega)).1
 have:=Rat.mul_le_mul_of_nonneg_left hw n2
 grind
theorem jI (L:Rl (h+1) z){a:El}(ha:a.length=2^(h+1)):val (h+1) z a*val (h+1) z (qT h a)=val h z (aO h z a):=by
 rw[p6 ha,fh L ha,←px,val,sub_def,neg_mul]
theorem zq (R:Rd (h+1) z){a:El}(ha:a.length=2^(h+1))(h0:val (h+1) z a≠q 0):val h z (aO h z a)≠q 0:=by
 rw[←jI R.rl ha];refine qE h0 fun e=>h0 ?_;rw[p6 ha]at e
 have:=oR R (.of (ah ha)) (In.of (ag ha)).neg e
 have e2:=congrArg (- ·) this.2;simp only[neg_neg,iB]at e2;rw[val,this.1,e2,zero_mul,add_zero]
theorem Ht.split (Z:Zt (h+1) z w){u v:R}{H:Nat}(hu:In h z u)(hv:In h z v)(hx:Ht (h+1) z w (u+v*sqrt (val h z (z.getD h []))) H):
  Ht h z w u (2*H)∧Ht h z w v (2*H)∧Ht h z w (u*u+ -(v*v*val h z (z.getD h []))) (2*H):=by
 obtain⟨P,Q,hP,hQ,iP,iQ,h0,he,nP,nQ⟩:=hx;have L:=Z.rd.rl;have Z':=Z.le (Nat.le_succ h);have e2:2*H=H+H:=by omega
 have hN0:=zq Z.rd hQ h0;have hNn:du h w (aO h z Q)≤p2 (2*H):=by
  rw[e2];exact Rat.le_trans (qJ Z.wt L hQ) (gE cX nQ nQ)
 have hNi:=rp Z.int iQ
 -- the numerator times the conjugate of the denominator
 have hM:(ai (h+1) z P (qT h Q)).length=2^(h+1):=ae;have hMi:bA (ai (h+1) z P (qT h Q)):=bA.mul Z.int iP (zT iQ);have hMn:du (h+1) w (ai (h+1) z P (qT h Q))≤p2 (2*H):=by
  rw[e2];refine Rat.le_trans (fF Z.wt L hP (oZ hQ)) (gE cX nP ?_);rw[zx hQ];exact nQ
 have hMv:val (h+1) z (ai (h+1) z P (qT h Q))=(u+v*sqrt (val h z (z.getD h [])))*val h z (aO h z Q):=by
  rw[val_mul L hP (oZ hQ),←he,mul_assoc,jI L hQ]
 rw[add_mul,mul_assoc v,mul_comm (sqrt _),←mul_assoc v]at hMv;obtain⟨s1,s2⟩:=kt Z.rd (.of (ah hM)) (.of (ag hM)) (In.mul Z'.rd.rl hu (.of aI)) (In.mul Z'.rd.rl hv (.of aI)) hMv;refine⟨⟨_,_,ah hM,aI,hMi.take _,hNi,hN0,s1.symm,Rat.le_trans KX hMn,hNn⟩,
  ⟨_,_,ag hM,aI,hMi.drop _,hNi,hN0,s2.symm,Rat.le_trans (Le Z.wt) hMn,hNn⟩,?_⟩
 refine⟨aO h z P,aO h z Q,aI,aI,rp Z.int iP,hNi,hN0,?_,?_,hNn⟩
 ·-- conjugates of both sides
  have hr:=L.root;have hn:=px u v (sqrt (val h z (z.getD h [])));rw[hr,sub_def,←neg_mul]at hn;rw[←jI L hP,←jI L hQ,p6 hP,p6 hQ,←he,←hn];have he2:(u+v*sqrt (val h z (z.getD h [])))*(val h z (Q.take (2^h))+val h z (Q.drop (2^h))*sqrt (val h z (z.getD h [])))=val h z (P.take (2^h))+val h z (P.drop (2^h))*sqrt (val h z (z.getD h [])):=he;rw[Gi,hr]at he2;obtain⟨c1,c2⟩:=kt Z.rd ((In.mul Z'.rd.rl hu (.of (ah hQ))).add (In.mul Z'.rd.rl (In.mul Z'.rd.rl hv (.of (ag hQ))) (.of (L h (by omega)).1))) ((In.mul Z'.rd.rl hu (.of (ag hQ))).add (In.mul Z'.rd.rl hv (.of (ah hQ)))) (.of (ah hP)) (.of (ag hP)) he2;have hc:=I3 u v (val h z (Q.take (2^h))) (val h z (Q.drop (2^h))) (sqrt (val h z (z.getD h [])));rw[hr,c1,c2]at hc;rw[jT,hc]
 rw[e2];exact Rat.le_trans (qJ Z.wt L hP) (gE cX nP nP)
theorem tD.Cb {x:Rat}{n:Int}{H:Nat}(h:x=(n:Rat))(k:ab x≤p2 H):n.natAbs≤2^H:=by
 subst h;unfold ab p2 at k;rw[←Rat.intCast_natCast]at k
 split at k
 ·rename_i h0
  have h0:(0:Int)≤n:=Rat.intCast_le_intCast.1 h0
  have:=Rat.intCast_le_intCast.1 k
  omega
 rename_i h0
 have h0:¬(0:Int)≤n:=fun e=>h0 (Rat.intCast_le_intCast.2 e);rw[←Rat.intCast_neg]at k
 have:=Rat.intCast_le_intCast.1 k
 omega
theorem Ht.zero {x:Rat}{H:Nat}(hx:Ht 0 z w (q x) H):x.num.natAbs≤2^H∧x.den≤2^H:=by
 obtain⟨P,Q,hP,hQ,iP,iQ,h0,he,nP,nQ⟩:=hx;obtain⟨a,rfl⟩:=bB hP;obtain⟨b,rfl⟩:=bB hQ;obtain⟨m,hm⟩:=iP a (by simp);obtain⟨n,hn⟩:=iQ b (by simp);have k1:m.natAbs≤2^H:=tD.Cb hm nP;have k2:n.natAbs≤2^H:=tD.Cb hn nQ;have he:q x*q b=q a:=he;rw[←dT]at he;have he:=ku he;have hb:b≠0:=fun e=>h0 (by show q b=q 0;rw[e]);subst hm;subst hn;have e1:((x.num*n:Int):Rat)=((m*x.den:Int):Rat):=by
  have:=DF x
  rw[Rat.intCast_mul,Rat.intCast_mul,←he,←this,Rat.intCast_natCast];grind
 have e2:x.num*n=m*x.den:=Rat.intCast_inj.1 e1;have n0:n≠0:=fun e=>hb (by rw[e];rfl);have e3:x.num.natAbs*n.natAbs=m.natAbs*x.den:=by
  have:=congrArg Int.natAbs e2
  rwa [Int.natAbs_mul,Int.natAbs_mul,Int.natAbs_natCast]at this
 have d1:x.den∣n.natAbs:=Nat.Coprime.dvd_of_dvd_mul_left x.reduced.symm ⟨m.natAbs,by rw[e3,Nat.mul_comm]⟩;have hn0:0<n.natAbs:=Int.natAbs_pos.2 n0;have d2:=Nat.le_of_dvd hn0 d1;refine⟨?_,by omega⟩
 by_cases m0:m.natAbs=0
 ·have:x.num.natAbs*n.natAbs=0:=by rw[e3,m0,Nat.zero_mul]
  rcases Nat.mul_eq_zero.1 this with h|h
  ·omega
  omega
 have d3:x.num.natAbs∣m.natAbs:=Nat.Coprime.dvd_of_dvd_mul_right x.reduced ⟨n.natAbs,e3.symm⟩;exact Nat.le_trans (Nat.le_of_dvd (by omega) d3) k1
end
structure Lk (h:Nat) (t z:List El) (d:Nat→Nat):Prop where
 d0:∀i,i<h→0<d i
 v:∀i,i<h→val i z (z.getD i [])=q ((d i:Rat)*(d i:Rat))*val i t (t.getD i [])
theorem Lk.le {h k:Nat}{t z:List El}{d:Nat→Nat}(H:Lk h t z d)(hk:k≤h):Lk k t z d:=⟨fun i hi=>H.d0 i (by omega),fun i hi=>H.v i (by omega)⟩
theorem vX {n:Nat}(h:0<n):pos (q (n:Rat)):=ub.2 (Rat.natCast_pos.2 h)
theorem Lk.root {h:Nat}{t z:List El}{d:Nat→Nat}(H:Lk (h+1) t z d)(L:Rl (h+1) t):sqrt (val h z (z.getD h []))=q (d h:Rat)*sqrt (val h t (t.getD h [])):=by
 have hd:=vX (H.d0 h (by omega));have hs:=zo (L h (by omega)).2;rw[H.v h (by omega),dT]
 have:q ↑(d h)*q ↑(d h)*val h t (t.getD h [])=(q (d h:Rat)*sqrt (val h t (t.getD h [])))*(q (d h:Rat)*sqrt (val h t (t.getD h []))):=by
  rw[jT,L.root]
 rw[this];exact pR (bx.2 (.inr (dE hd hs)))
theorem ot {n:Nat}(h:0<n):q (n:Rat)*q ((n:Rat)⁻¹)=q 1:=by
 rw[←dT,Rat.mul_inv_cancel]
 exact fun e=>by have:=Rat.natCast_inj (a:=n) (b:=0)|>.1 e;omega
theorem Lk.js {t z:List El}{d:Nat→Nat}{h:Nat}:∀(_:Lk h t z d) (_:Rl h t) (x:R),In h t x↔In h z x:=by
 induction h with
 |zero=>intro _ _ x;exact Iff.rfl
 |succ h ih=>
  intro H L x;have ih:=ih (H.le (Nat.le_succ h)) (L.le (Nat.le_succ h));have hr:=H.root L;have hd:=ot (H.d0 h (by omega))
  constructor
  ·intro hx;obtain⟨u,v,hu,hv,rfl⟩:=hx.split
   have:u+v*sqrt (val h t (t.getD h []))=u+v*q ((d h:Rat)⁻¹)*sqrt (val h z (z.getD h [])):=by
    rw[hr,mul_assoc v,←mul_assoc (q _),mul_comm (q ((d h:Rat)⁻¹)),hd,one_mul]
   rw[this];obtain⟨a,ha,e⟩:=(ih _).1 hv;refine In.join ((ih _).1 hu) ?_;have hm:In h z (v*q ((d h:Rat)⁻¹)):=by
    rw[←e];refine⟨a.map (· *(d h:Rat)⁻¹),by rw[List.length_map,ha],?_⟩;have key:∀{k:Nat} {a:El} {c:Rat},a.length=2^k→val k z (a.map (· *c))=val k z a*q c:=by
     intro k
     induction k with
     |zero=>
      intro a c ha;obtain⟨x,rfl⟩:=bB ha;exact dT x c
     |succ k ihk=>
      intro a c ha;rw[val,←List.map_take,←List.map_drop,ihk (ah ha),ihk (ag ha),val,add_mul,mul_assoc,mul_assoc,mul_comm (q c)]
    exact key ha
   exact hm
  intro hx;obtain⟨u,v,hu,hv,rfl⟩:=hx.split;rw[hr,←mul_assoc];exact In.join ((ih _).2 hu) (In.mul (L.le (Nat.le_succ h)) ((ih _).2 hv) (In.rat _))
theorem oJ {t z:List El}{d w:Nat→Nat}{E:Nat}{h:Nat}:∀(_:Lk h t z d) (_:Rl h t) (_:Zt h z w) (_:∀i,i<h→d i≤2^E) {a:El} {H:Nat},a.length=2^h→Ht h z w (val h t a) H→
  ∀c∈a,c.num.natAbs≤2^(2^h*(H+E))∧c.den≤2^(2^h*(H+E)):=by
 induction h with
 |zero=>
  intro _ _ _ _ a H ha hx c hc;obtain⟨x,rfl⟩:=bB ha;rw[List.mem_singleton]at hc;subst hc
  have:=hx.zero
  have e:2^H≤2^(2^0*(H+E)):=Nat.pow_le_pow_right (by decide) (by omega);exact⟨Nat.le_trans this.1 e,Nat.le_trans this.2 e⟩
 |succ h ih=>
  intro K L Z hE a H ha hx c hc;have K':=K.le (Nat.le_succ h);have L':=L.le (Nat.le_succ h);have Z':=Z.le (Nat.le_succ h);have hr:=K.root L;have hd:=ot (K.d0 h (by omega));have hu:In h t (val h t (a.take (2^h))):=.of (ah ha);have hv:In h t (val h t (a.drop (2^h))*q ((d h:Rat)⁻¹)):=In.mul L' (.of (ag ha)) (In.rat _);have e:val (h+1) t a=val h t (a.take (2^h))+val h t (a.drop (2^h))*q ((d h:Rat)⁻¹)*sqrt (val h z (z.getD h [])):=by
   rw[hr,mul_assoc (val h t _),←mul_assoc (q _),mul_comm (q ((d h:Rat)⁻¹)),hd,one_mul];rfl
  rw[e]at hx;obtain⟨k1,k2,_⟩:=Ht.split Z ((K'.js L' _).1 hu) ((K'.js L' _).1 hv) hx;have hdn:Ht h z w (q (d h:Rat)) E:=by
   refine Ht.rat ?_ ?_
   ·rw[Rat.num_natCast,Int.natAbs_natCast];exact hE h (by omega)
   rw[Rat.den_natCast];exact Nat.one_le_two_pow
  have k3:=k2.mul Z' hdn;rw[mul_assoc,mul_comm (q _),hd,mul_one]at k3;have hm:2^h*(2*H+E+E)=2^(h+1)*(H+E):=by
   rw[Nat.pow_succ,Nat.mul_assoc];congr 1;omega
  rw[←List.take_append_drop (2^h) a,List.mem_append]at hc
  rcases hc with hc|hc
  ·have:=ih K' L' Z' (fun i hi=>hE i (by omega)) (ah ha) (k1.mono (Nat.le_add_right _ E)) c hc
   rwa [hm]at this
  have:=ih K' L' Z' (fun i hi=>hE i (by omega)) (ag ha) k3 c hc
  rwa [hm]at this
end Go.Tw
/-
  HEIGHTS: further floors, square roots, and heights without a tower.
-/
namespace Go.Tw
open Go Go.R
theorem val_congr {t z:List El}{h:Nat}:∀(_:∀i,i<h→t.getD i []=z.getD i []) (a:El),val h t a=val h z a:=by
 induction h with
 |zero=>intro _ a;rfl
 |succ h ih=>
  intro H a;have ih:=ih (fun i hi=>H i (by omega));rw[val,val,ih,ih,H h (by omega),ih]
theorem Rd.congr {t z:List El}{h:Nat}(e:∀i,i<h→t.getD i []=z.getD i [])(H:Rd h t):Rd h z:=by
 have ev:∀i,i≤h→∀a,val i t a=val i z a:=fun i hi a=>val_congr (fun j hj=>e j (by omega)) a;refine⟨fun i hi=>?_,fun i hi x hx=>?_⟩
 ·rw[←e i hi,←ev i (by omega)];exact H.rl i hi
 obtain⟨a,ha,rfl⟩:=hx;rw[←e i hi,←ev i (by omega),←ev i (by omega)];exact H.ns i hi _ (.of ha)
theorem vK {w v:Nat→Nat}{h:Nat}:∀(_:∀i,i<h→w i=v i) (a:El),du h w a=du h v a:=by
 induction h with
 |zero=>intro _ a;rfl
 |succ h ih=>
  intro H a;have ih:=ih (fun i hi=>H i (by omega));rw[du,du,ih,ih,H h (by omega)]
section
variable {h:Nat}{z:List El}{w:Nat→Nat}
theorem Ht.in (Z:Zt h z w){x:R}{H:Nat}(hx:Ht h z w x H):In h z x:=by
 obtain⟨P,Q,hP,hQ,iP,iQ,h0,he,nP,nQ⟩:=hx;obtain⟨y,hy,hy2⟩:=In.Po Z.rd _ (.of hQ) h0
 have:x=val h z P*y:=by rw[←he,mul_assoc,hy2,mul_one]
 rw[this];exact In.mul Z.rd.rl (.of hP) hy
theorem Od:∀{h:Nat} (_:Zt h z w) {Q:El} {K:Nat},Q.length=2^h→bA Q→val h z Q≠q 0→du h w Q≤p2 K→
  ∃(A:El) (N:Nat),A.length=2^h∧bA A∧0<N∧val h z Q*val h z A=q (N:Rat)∧du h w A≤p2 ((2^h-1)*K)∧N≤2^(2^h*K):=by
 intro h
 induction h with
 |zero=>
  intro Z Q K hQ iQ h0 nQ;obtain⟨x,rfl⟩:=bB hQ;obtain⟨n,hn⟩:=iQ x (by simp);have k1:n.natAbs≤2^K:=tD.Cb hn nQ;have n0:n≠0:=fun e=>h0 (by show q x=q 0;rw[hn,e];rfl);have e0:p2 ((2^0-1)*K)=1:=by rw[show (2^0-1)*K=0 by simp];rfl
  have e1:(2:Nat)^(2^0*K)=2^K:=by rw[Nat.pow_zero,Nat.one_mul]
  rw[e0,e1]
  by_cases hp:0≤n
  ·refine⟨[1],n.natAbs,rfl,fun y hy=>⟨1,by rw[List.mem_singleton.1 hy];rfl⟩,by omega,?_,by show ab 1≤1;decide,k1⟩;show q x*q 1=_;rw[←dT,hn,←Rat.intCast_natCast,show ((n.natAbs:Nat):Int)=n by omega,Rat.mul_one]
  refine⟨[-1],n.natAbs,rfl,fun y hy=>⟨-1,by rw[List.mem_singleton.1 hy];rfl⟩,by omega,?_,by show ab (-1)≤1;decide,k1⟩;show q x*q (-1)=_;rw[←dT,hn,←Rat.intCast_natCast,show ((n.natAbs:Nat):Int)= -n by omega,Rat.intCast_neg]
  congr 1;grind
 |succ h ih=>
  intro Z Q K hQ iQ h0 nQ;have Z':=Z.le (Nat.le_succ h);have hNn:du h w (aO h z Q)≤p2 (2*K):=by
   rw[show 2*K=K+K by omega];exact Rat.le_trans (qJ Z.wt Z.rd.rl hQ) (gE cX nQ nQ)
  obtain⟨A,N,hA,iA,hN,he,nA,hl⟩:=ih Z' (aI (a:=Q)) (rp Z.int iQ) (zq Z.rd hQ h0) hNn;have hA2:(A++zE (2^h)).length=2^(h+1):=by rw[X6,hA,au,Nat.pow_succ];omega
  refine⟨ai (h+1) z (qT h Q) (A++zE (2^h)),N,ae,bA.mul Z.int (zT iQ) (iA.app bA.zero),hN,?_,?_,?_⟩
  ·rw[val_mul Z.rd.rl (oZ hQ) hA2,kV hA,←mul_assoc,jI Z.rd.rl hQ,he]
  ·refine Rat.le_trans (fF Z.wt Z.rd.rl (oZ hQ) hA2) ?_;have e:(2^(h+1)-1)*K=K+(2^h-1)*(2*K):=by
    have:=Nat.two_pow_pos h
    rw[Nat.pow_succ,Nat.sub_mul,Nat.sub_mul,Nat.mul_assoc,Nat.one_mul,Nat.one_mul]
    have:2*K≤2^h*(2*K):=Nat.le_mul_of_pos_left _ this
    omega
   rw[e,zx hQ,mX hA,pP];refine gE cX nQ ?_
   grind
  rw[Nat.pow_succ,Nat.mul_assoc];exact hl
theorem Ht.whole (Z:Zt h z w){x:R}{K:Nat}(hx:Ht h z w x K):∃(M:El) (N:Nat),M.length=2^h∧bA M∧0<N∧x*q (N:Rat)=val h z M∧du h w M≤p2 (2^h*K)∧N≤2^(2^h*K):=by
 obtain⟨P,Q,hP,hQ,iP,iQ,h0,he,nP,nQ⟩:=hx;obtain⟨A,N,hA,iA,hN,e,nA,hl⟩:=Od Z hQ iQ h0 nQ;refine⟨ai h z P A,N,ae,bA.mul Z.int iP iA,hN,?_,?_,hl⟩
 ·rw[←e,←mul_assoc,he,val_mul Z.rd.rl hP hA]
 refine Rat.le_trans (fF Z.wt Z.rd.rl hP hA) ?_;have e:2^h*K=K+(2^h-1)*K:=by
  have:=Nat.two_pow_pos h
  rw[Nat.sub_mul,Nat.one_mul]
  have:K≤2^h*K:=Nat.le_mul_of_pos_left _ this
  omega
 rw[e];exact gE cX nP nA
theorem grow (Z:Zt h z w){t:List El}{d:Nat→Nat}(K:Lk h t z d)(R:Rd (h+1) t){H:Nat}(hx:Ht h z w (val h t (t.getD h [])) H):
  ∃(z':List El) (w' d':Nat→Nat),(∀i,i<h→z'.getD i []=z.getD i []∧w' i=w i∧d' i=d i)∧Zt (h+1) z' w'∧Lk (h+1) t z' d'∧w' h≤2^(2^h*H)∧d' h≤2^(2^h*H):=by
 obtain⟨M,N,hM,iM,hN,e,nM,hl⟩:=Ht.whole Z hx;obtain⟨B,hB⟩:∃B,B=ai h z (aX h (N:Rat)) M:=⟨_,rfl⟩;have hBl:B.length=2^h:=by rw[hB,ae]
 have hN0:tD (N:Rat):=⟨(N:Int),(Rat.intCast_natCast _).symm⟩;have hBi:bA B:=by rw[hB];exact bA.mul Z.int (bA.rat hN0) iM
 have hBv:val h z B=q ((N:Rat)*(N:Rat))*val h t (t.getD h []):=by
  rw[hB,val_mul Z.rd.rl aG hM,cG,←e,dT,mul_comm (val h t _),←mul_assoc]
 have hBn:du h w B≤p2 (2^h*H+2^h*H):=by
  rw[hB];refine Rat.le_trans (fF Z.wt Z.rd.rl aG hM) (gE cX ?_ nM);rw[nm];unfold ab p2;rw[if_pos Rat.natCast_nonneg];exact Rat.natCast_le_natCast.2 hl
 let z':List El:=(List.range h).map (fun i=>z.getD i [])++[B]
 have ez:∀i,i<h→z'.getD i []=z.getD i []:=fun i hi=>by
  show List.getD (_++_) i []=_;rw[X7,List.getElem?_append_left (by simpa using hi),List.getElem?_map,List.getElem?_range hi];rfl
 have eB:z'.getD h []=B:=by
  show List.getD (_++_) h []=_;rw[X7,List.getElem?_append_right (by simp)];simp
 let w':Nat→Nat:=fun i=>if i=h then 2^(2^h*H)else w i
 let d':Nat→Nat:=fun i=>if i=h then N else d i
 have ew:∀i,i<h→w' i=w i:=fun i hi=>if_neg (by omega);have ed:∀i,i<h→d' i=d i:=fun i hi=>if_neg (by omega);have ewh:w' h=2^(2^h*H):=if_pos rfl;have edh:d' h=N:=if_pos rfl;have ev:∀i,i≤h→∀a,val i z' a=val i z a:=fun i hi a=>val_congr (fun j hj=>ez j (by omega)) a;have en:∀i,i≤h→∀a,du i w' a=du i w a:=fun i hi a=>vK (fun j hj=>ew j (by omega)) a;have hpos:pos (val h z B):=by
  rw[hBv]
  have:=vX hN
  rw[dT];exact dE (dE this this) (R.rl h (by omega)).2
 have hns:∀x,In h z x→x*x≠val h z B:=by
  intro x hx he;have hi:=ot hN;have hx2:In h t (x*q ((N:Rat)⁻¹)):=In.mul (R.rl.le (Nat.le_succ h)) ((K.js (R.rl.le (Nat.le_succ h)) _).2 hx) (In.rat _);refine R.ns h (by omega) _ hx2 ?_;rw[jT,he,hBv,dT]
  have:q (N:Rat)*q (N:Rat)*(q ((N:Rat)⁻¹)*q ((N:Rat)⁻¹))=q 1:=by rw[jT,hi,mul_one]
  rw[mul_comm (q _*q _),mul_assoc,this,mul_one]
 refine⟨z',w',d',fun i hi=>⟨ez i hi,ew i hi,ed i hi⟩,⟨⟨fun i hi=>?_,fun i hi x hx=>?_⟩,fun i hi=>?_,fun i hi=>?_⟩,⟨fun i hi=>?_,fun i hi=>?_⟩,Nat.le_of_eq ewh,by rw[edh];exact hl⟩
 ·by_cases h1:i=h
  ·subst h1;rw[eB,ev i (Nat.le_refl i)];exact⟨hBl,hpos⟩
  rw[ez i (by omega),ev i (by omega)];exact Z.rd.rl i (by omega)
 ·obtain⟨a,ha,rfl⟩:=hx
  by_cases h1:i=h
  ·subst h1;rw[eB,ev i (Nat.le_refl i),ev i (Nat.le_refl i)];exact hns _ (.of ha)
  rw[ez i (by omega),ev i (by omega),ev i (by omega)];exact Z.rd.ns i (by omega) _ (.of ha)
 ·by_cases h1:i=h
  ·subst h1;rw[eB];exact hBi
  rw[ez i (by omega)];exact Z.int i (by omega)
 ·by_cases h1:i=h
  ·subst h1;rw[eB,en i (Nat.le_refl i),ewh];refine⟨Nat.one_le_two_pow,Rat.le_trans hBn ?_⟩;rw[wS];exact Rat.le_refl
  rw[ez i (by omega),en i (by omega),ew i (by omega)];exact Z.wt i (by omega)
 ·by_cases h1:i=h
  ·subst h1;rw[edh];exact hN
  rw[ed i (by omega)];exact K.d0 i (by omega)
 by_cases h1:i=h
 ·subst h1;rw[eB,edh,ev i (Nat.le_refl i)];exact hBv
 rw[ez i (by omega),ed i (by omega),ev i (by omega)];exact K.v i (by omega)
def rS (W:Nat):Nat→Nat→Nat
 |0,H=>(H+1)/2
 |h+1,H=>2*rS W h (2*H+rS W h (2*H)+2+2*W)+2*H+W+2
theorem gJ {W h:Nat}:∀{H K:Nat},H≤K→rS W h H≤rS W h K:=by
 induction h with
 |zero=>intro H K hk;unfold rS;omega
 |succ h ih=>
  intro H K hk;have h1:=ih (H:=2*H) (K:=2*K) (by omega);have h2:=ih (H:=2*H+rS W h (2*H)+2+2*W) (K:=2*K+rS W h (2*K)+2+2*W) (by omega);rw[rS,rS];omega
theorem Ht.pQ (Z:Zt (h+1) z w){W:Nat}(hW:w h≤2^W):Ht h z w (val h z (z.getD h [])) (2*W):=by
 refine⟨z.getD h [],aX h 1,(Z.rd.rl h (by omega)).1,aG,Z.int h (by omega),bA.rat ⟨1,rfl⟩,by rw[cG];exact gk,by rw[cG,mul_one],?_,?_⟩
 ·have hw:(w h:Rat)≤p2 W:=Rat.natCast_le_natCast.2 hW;rw[show 2*W=W+W by omega];exact Rat.le_trans (Z.wt h (by omega)).2 (gE Rat.natCast_nonneg hw hw)
 rw[nm];exact FY _
theorem Ir {t:List El}{x:R}(h:In 0 t x):∃y,x=q y:=by
 obtain⟨a,_,rfl⟩:=h;exact⟨_,rfl⟩
theorem Ht.two:Ht h z w (q 2) 1:=Ht.rat (by decide) (by decide)
theorem Ht.sqrt {W:Nat}:∀{h:Nat} (_:Zt h z w) (_:∀i,i<h→w i≤2^W) {x y:R} {H:Nat},In h z y→y*y=x→Ht h z w x H→Ht h z w y (rS W h H):=by
 intro h
 induction h with
 |zero=>
  intro Z _ x y H hy he hx;obtain⟨r,rfl⟩:=Ir hy;rw[←dT]at he;subst he;obtain⟨h1,h2⟩:=Ht.zero hx;obtain⟨e1,e2⟩:=N3 r;rw[e1,Int.natAbs_mul]at h1;rw[e2]at h2;have key:∀n:Nat,n*n≤2^H→n≤2^((H+1)/2):=by
   intro n hn;refine Nat.le_of_not_lt fun hl=>?_
   have:=Nat.mul_lt_mul'' hl hl
   rw[←Nat.pow_add]at this
   have:2^H≤2^((H+1)/2+(H+1)/2):=Nat.pow_le_pow_right (by decide) (by omega)
   omega
  exact Ht.rat (key _ h1) (key _ h2)
 |succ h ih=>
  intro Z hW x y H hy he hx;have Z':=Z.le (Nat.le_succ h);have hW':∀i,i<h→w i≤2^W:=fun i hi=>hW i (by omega);have L':=Z'.rd.rl;obtain⟨p,g,hp,hg,rfl⟩:=hy.split;have hs:Ht (h+1) z w (R.sqrt (val h z (z.getD h []))) W:=Ht.root (hW h (by omega));have hr:=Ht.pQ Z (hW h (by omega));have hrr:=Z.rd.rl.root;have hri:In h z (val h z (z.getD h [])):=.of (Z.rd.rl h (by omega)).1;have hr0:val h z (z.getD h [])≠q 0:=kY (Z.rd.rl h (by omega)).2;rw[Dt,hrr]at he;subst he;obtain⟨hu,hv,hn⟩:=Ht.split Z ((In.mul L' hp hp).add (In.mul L' (In.mul L' hg hg) hri)) ((In.mul L' hp hg).add (In.mul L' hp hg)) hx;rw[←Hu]at hn;have m1:rS W h (2*H)≤rS W h (2*H+rS W h (2*H)+2+2*W):=gJ (by omega)
  by_cases g0:g=q 0
  ·rw[g0,zero_mul,zero_mul,add_zero]at hu;rw[g0,zero_mul,add_zero];exact((ih Z' hW' hp rfl hu).up).mono (by rw[rS];omega)
  by_cases p0:p=q 0
  ·rw[p0,mul_zero,zero_add]at hu;obtain⟨ri,hri2⟩:=R.inv hr0;have h1:=hu.mul Z' (hr.inv hri2);rw[mul_assoc,hri2,mul_one]at h1;have h2:=(ih Z' hW' hg rfl h1).up.mul Z hs;rw[p0,zero_add];have m2:rS W h (2*H+2*W)≤rS W h (2*H+rS W h (2*H)+2+2*W):=gJ (by omega);exact h2.mono (by rw[rS];omega)
  have h1:=ih Z' hW' ((In.mul L' hp hp).add (In.mul L' (In.mul L' hg hg) hri).neg) rfl hn;have h2:=hu.add Z' h1;have e2:p*p+g*g*val h z (z.getD h [])+(p*p+ -(g*g*val h z (z.getD h [])))=q 2*(p*p):=by
   rw[←C6]
   generalize g*g*val h z (z.getD h [])=c
   generalize p*p=b
   rw[add_comm b (-c),←add_assoc,add_assoc b c,add_neg,add_zero]
  rw[e2]at h2;have hh:q (2:Rat)*q ((2:Rat)⁻¹)=q 1:=by rw[←dT,Rat.mul_inv_cancel _ (by decide)]
  have h3:=h2.mul Z' (Ht.two.inv hh);rw[mul_comm (q 2),mul_assoc,hh,mul_one]at h3;have h4:=(ih Z' hW' hp rfl h3).mono (gJ (K:=2*H+rS W h (2*H)+2+2*W) (by omega));have h5:=Ht.two.mul Z' h4;have h50:q 2*p≠q 0:=qE GV p0;obtain⟨i,hi⟩:=R.inv h50;have h6:=hv.mul Z' (h5.inv hi);have e6:(p*g+p*g)*i=g:=by
   rw[C6,←mul_assoc,mul_assoc,mul_comm g,←mul_assoc,hi,one_mul]
  rw[e6]at h6;have h7:=h4.up.add Z (h6.up.mul Z hs);refine h7.mono ?_;rw[rS];omega
end
inductive Sz (G:R→Nat→Prop):R→Nat→Prop
 |gen {x:R} {H:Nat}:G x H→Sz G x H
 |rat {x:Rat} {H:Nat}:x.num.natAbs≤2^H→x.den≤2^H→Sz G (q x) H
 |add {x y:R} {H K:Nat}:Sz G x H→Sz G y K→Sz G (x+y) (H+K+1)
 |mul {x y:R} {H K:Nat}:Sz G x H→Sz G y K→Sz G (x*y) (H+K)
 |neg {x:R} {H:Nat}:Sz G x H→Sz G (-x) H
 |inv {x y:R} {H:Nat}:Sz G x H→x*y=q 1→Sz G y H
 |mono {x:R} {H K:Nat}:Sz G x H→H≤K→Sz G x K
theorem Sz.ht {G:R→Nat→Prop}{h:Nat}{z:List El}{w:Nat→Nat}(Z:Zt h z w)(hG:∀x H,G x H→Ht h z w x H){x:R}{H:Nat}(hx:Sz G x H):Ht h z w x H:=by
 induction hx with
 |gen g=>exact hG _ _ g
 |rat h1 h2=>exact Ht.rat h1 h2
 |add _ _ h1 h2=>exact h1.add Z h2
 |mul _ _ h1 h2=>exact h1.mul Z h2
 |neg _ h1=>exact h1.neg
 |inv _ e h1=>exact h1.inv e
 |mono _ e h1=>exact h1.mono e
end Go.Tw
/-
  HEIGHTS: towers of at most three short radicands.
-/
namespace Go.Tw
open Go Go.R
def iC (n:Nat)(e:El):Prop:=∀c∈e,c.num.natAbs≤2^n∧c.den≤2^n
def Expr (B k:Nat)(As:List R)(x:R):Prop:=∃(m:Nat) (u:List El) (e:El),m≤k∧e.length=2^m∧iC B e∧(∀j,j<m→val j u (u.getD j [])∈As)∧x=val m u e
def fE (B c:Nat):Nat→Nat
 |0=>B
 |k+1=>2*fE B c k+c+1
theorem KG {B c m k:Nat}(h:m≤k):fE B c m≤fE B c k:=by
 induction k with
 |zero=>
      obtain rfl:m=0:=by omega
      exact Nat.le_refl _
 |succ k ih=>
  by_cases e:m=k+1
  ·rw[e];exact Nat.le_refl _
  have:=ih (by omega)
  rw[fE];omega
theorem Ht.expr {h:Nat}{z:List El}{w:Nat→Nat}(Z:Zt h z w){B c:Nat}{u:List El}:∀{m:Nat} {e:El},e.length=2^m→iC B e→(∀j,j<m→Ht h z w (R.sqrt (val j u (u.getD j []))) c)→Ht h z w (val m u e) (fE B c m):=by
 intro m
 induction m with
 |zero=>
  intro e he hb _;obtain⟨x,rfl⟩:=bB he;obtain⟨h1,h2⟩:=hb x (by simp);exact Ht.rat h1 h2
 |succ m ih=>
  intro e he hb hs;have h1:=ih (ah he) (fun c hc=>hb c (List.mem_of_mem_take hc)) (fun j hj=>hs j (by omega));have h2:=ih (ag he) (fun c hc=>hb c (List.mem_of_mem_drop hc)) (fun j hj=>hs j (by omega));exact(h1.add Z (h2.mul Z (hs m (by omega)))).mono (by rw[fE];omega)
structure Src (B:Nat) (A:List R):Prop where
 pos:∀k,k<A.length→R.pos (A.getD k (q 0))
 expr:∀k,k<A.length→Expr B k (A.take k) (A.getD k (q 0))
def JJ:List (Nat×Nat)→Nat→Option Nat
 |[],_=>none
 |p::s,k=>if p.1=k then some p.2 else JJ s k
def IQ:List (Nat×Nat)→Nat
 |[]=>0
 |p::s=>max p.2 (IQ s)
def go (B k:Nat):Nat→List (Nat×Nat)→Nat→Nat→Nat
 |0,_,_,c=>fE B c k
 |n+1,s,kk,c=>match JJ s kk with
  |some W=>go B k n s (kk+1) (max c (2*W))
  |none=>max (go B k n s (kk+1) (max c (rS (IQ s) s.length (fE B c kk)))) (2*go B k n (s++[(kk,2^s.length*fE B c kk)]) (kk+1) (max c (2*(2^s.length*fE B c kk))))
theorem uA {s:List (Nat×Nat)}{k W:Nat}(h:JJ s k=some W):∃j,j<s.length∧s.getD j (0,0)=(k,W):=by
 induction s with
 |nil=>cases h
 |cons p s ih=>
  rw[JJ]at h
  split at h
  ·rename_i e
   refine⟨0,by simp,?_⟩;obtain⟨a,b⟩:=p;simp only[Option.some.injEq]at h e;subst h;subst e;rfl
  obtain⟨j,hj,e⟩:=ih h;exact⟨j+1,by simpa using hj,e⟩
theorem AZ {s:List (Nat×Nat)}{j:Nat}(h:j<s.length):(s.getD j (0,0)).2≤IQ s:=by
 induction s generalizing j with
 |nil=>exact absurd h (Nat.not_lt_zero _)
 |cons p s ih=>
  rw[IQ]
  cases j with
  |zero=>exact Nat.le_max_left _ _
  |succ j=>
   have:=ih (j:=j) (by simpa using h)
   show(s.getD j (0,0)).2≤_
   omega
structure Env (A:List R) (h:Nat) (t z:List El) (w d:Nat→Nat) (s:List (Nat×Nat)):Prop where
 sl:s.length=h
 rd:Rd h t
 zt:Zt h z w
 lk:Lk h t z d
 at':∀j,j<h→val j t (t.getD j [])=A.getD (s.getD j (0,0)).1 (q 0)∧w j≤2^(s.getD j (0,0)).2∧d j≤2^(s.getD j (0,0)).2∧Ht j z w (val j t (t.getD j [])) (s.getD j (0,0)).2
theorem Ht.congr {h:Nat}{z z':List El}{w w':Nat→Nat}(ez:∀i,i<h→z'.getD i []=z.getD i [])(ew:∀i,i<h→w' i=w i){x:R}{H:Nat}(hx:Ht h z w x H):Ht h z' w' x H:=by
 obtain⟨P,Q,hP,hQ,iP,iQ,h0,he,nP,nQ⟩:=hx;have e1:∀a,val h z' a=val h z a:=fun a=>val_congr ez a;have e2:∀a,du h w' a=du h w a:=fun a=>vK ew a;exact⟨P,Q,hP,hQ,iP,iQ,by rw[e1];exact h0,by rw[e1,e1];exact he,by rw[e2];exact nP,by rw[e2];exact nQ⟩
theorem Ht.IB {h:Nat}{z:List El}{w:Nat→Nat}{n W:Nat}(h0:0<n)(hn:n≤2^W):Ht h z w (q ((n:Rat)⁻¹)) W:=by
 refine Ht.inv (x:=q (n:Rat)) ?_ (ot h0);refine Ht.rat ?_ ?_
 ·rw[Rat.num_natCast,Int.natAbs_natCast];exact hn
 rw[Rat.den_natCast];exact Nat.one_le_two_pow
theorem Ht.basis {A:List R}{h:Nat}{t z:List El}{w d:Nat→Nat}{s:List (Nat×Nat)}(E:Env A h t z w d s){j:Nat}(hj:j<h):Ht h z w (R.sqrt (val j t (t.getD j []))) (2*(s.getD j (0,0)).2):=by
 obtain⟨_,h2,h3,_⟩:=E.at' j hj;have h1:=(Ht.root (h:=j) (z:=z) (w:=w) h2).le (show j+1≤h by omega);have hr:=(E.lk.le (show j+1≤h by omega)).root (E.rd.rl.le (by omega));have hd:=ot (E.lk.d0 j hj);have h4:=h1.mul E.zt (Ht.IB (E.lk.d0 j hj) h3);rw[hr,mul_comm,←mul_assoc,mul_comm (q ((d j:Rat)⁻¹)),hd,one_mul]at h4;exact h4.mono (by omega)
theorem GK {A:List R}{x:R}{k:Nat}(h:x∈A.take k):∃i,i<k∧i<A.length∧x=A.getD i (q 0):=by
 obtain⟨i,hi,rfl⟩:=List.mem_iff_getElem.1 h;rw[X5]at hi;refine⟨i,by omega,by omega,?_⟩;rw[List.getElem_take,X7,X8 (by omega)];rfl
theorem Ht.src {A:List R}{B:Nat}(S:Src B A){h:Nat}{z:List El}{w:Nat→Nat}(Z:Zt h z w){k c:Nat}(hk:k<A.length)(hs:∀i,i<k→Ht h z w (R.sqrt (A.getD i (q 0))) c):Ht h z w (A.getD k (q 0)) (fE B c k):=by
 obtain⟨m,u,e,hm,he,hb,hu,hx⟩:=S.expr k hk;rw[hx]
 refine(Ht.expr Z he hb fun j hj=>?_).mono (KG hm)
 obtain⟨i,hi,_,e⟩:=GK (hu j hj);rw[e];exact hs i hi
theorem Env.grow {A:List R}{h:Nat}{t z:List El}{w d:Nat→Nat}{s:List (Nat×Nat)}(E:Env A h t z w d s){k H:Nat}(hp:pos (A.getD k (q 0)))(hx:Ht h z w (A.getD k (q 0)) H)(hn:¬In h t (R.sqrt (A.getD k (q 0)))):
  ∃(t' z':List El) (w' d':Nat→Nat),(∀i,i<h→t'.getD i []=t.getD i []∧z'.getD i []=z.getD i []∧w' i=w i)∧Env A (h+1) t' z' w' d' (s++[(k,2^h*H)]):=by
 obtain⟨a,ha,hv⟩:=(E.lk.js E.rd.rl _).2 (hx.in E.zt)
 let t':List El:=(List.range h).map (fun i=>t.getD i [])++[a]
 have et:∀i,i<h→t'.getD i []=t.getD i []:=fun i hi=>by
  show List.getD (_++_) i []=_;rw[X7,List.getElem?_append_left (by simpa using hi),List.getElem?_map,List.getElem?_range hi];rfl
 have ea:t'.getD h []=a:=by
  show List.getD (_++_) h []=_;rw[X7,List.getElem?_append_right (by simp)];simp
 have ev:∀i,i≤h→∀b,val i t' b=val i t b:=fun i hi b=>val_congr (fun j hj=>et j (by omega)) b;have hp':pos (val h t a):=by rw[hv];exact hp
 have hns:∀x,In h t x→x*x≠val h t a:=by
  intro x hx he;rw[hv,←R.dN (bx.2 (.inr hp))]at he
  rcases Du he with e|e
  ·exact hn (e▸hx)
  have:=hx.neg
  rw[e,neg_neg]at this;exact hn this
 have R':Rd (h+1) t':=by
  refine⟨fun i hi=>?_,fun i hi x hx=>?_⟩
  ·by_cases h1:i=h
   ·subst h1;rw[ea,ev i (Nat.le_refl i)];exact⟨ha,hp'⟩
   rw[et i (by omega),ev i (by omega)];exact E.rd.rl i (by omega)
  obtain⟨b,hb,rfl⟩:=hx
  by_cases h1:i=h
  ·subst h1;rw[ea,ev i (Nat.le_refl i),ev i (Nat.le_refl i)];exact hns _ (.of hb)
  rw[et i (by omega),ev i (by omega),ev i (by omega)];exact E.rd.ns i (by omega) _ (.of hb)
 have K':Lk h t' z d:=⟨E.lk.d0,fun i hi=>by rw[et i hi,ev i (by omega)];exact E.lk.v i hi⟩;obtain⟨z',w',d',hag,hZ,hL,hw,hd⟩:=Tw.grow E.zt K' R' (H:=H) (by rw[ea,ev h (Nat.le_refl h),hv];exact hx);refine⟨t',z',w',d',fun i hi=>⟨et i hi,(hag i hi).1,(hag i hi).2.1⟩,⟨by rw[X6,E.sl];rfl,R',hZ,hL,fun j hj=>?_⟩⟩
 by_cases h1:j=h
 ·have es:(s++[(k,2^h*H)]).getD j (0,0)=(k,2^h*H):=by
   rw[h1,X7,List.getElem?_append_right (by rw[E.sl];exact Nat.le_refl h),E.sl];simp
  rw[es,h1,ea,ev h (Nat.le_refl h),hv];exact⟨rfl,hw,hd,(hx.congr (fun i hi=>(hag i hi).1) (fun i hi=>(hag i hi).2.1)).mono (Nat.le_mul_of_pos_left _ (Nat.two_pow_pos h))⟩
 have hjh:j<h:=by omega
 have es:(s++[(k,2^h*H)]).getD j (0,0)=s.getD j (0,0):=by
  rw[X7,List.getElem?_append_left (by rw[E.sl];exact hjh),←X7]
 rw[es,et j hjh,ev j (by omega),(hag j hjh).2.1,(hag j hjh).2.2];obtain⟨a1,a2,a3,a4⟩:=E.at' j hjh;exact⟨a1,a2,a3,a4.congr (fun i hi=>(hag i (by omega)).1) (fun i hi=>(hag i (by omega)).2.1)⟩
theorem Iv {A:List R}{B k:Nat}(S:Src B A)(hk:k<A.length):∀(n:Nat) {kk:Nat} (_:kk+n=k) {h:Nat} {t z:List El} {w d:Nat→Nat} {s:List (Nat×Nat)} {c:Nat} (_:Env A h t z w d s)
  (_:∀i,i<kk→Ht h z w (R.sqrt (A.getD i (q 0))) c) (_:In h t (A.getD k (q 0))),Ht h z w (A.getD k (q 0)) (go B k n s kk c):=by
 intro n
 induction n with
 |zero=>
  intro kk hkk h t z w d s c E hs _;exact Ht.src S E.zt hk (fun i hi=>hs i (by omega))
 |succ n ih=>
  intro kk hkk h t z w d s c E hs hin;have hkl:kk<A.length:=by omega
  have hp:=S.pos kk hkl;rw[go]
  cases hl:JJ s kk with
  |some W=>
   obtain⟨j,hj,ej⟩:=uA hl;refine ih (by omega) E (fun i hi=>?_) hin
   by_cases h1:i=kk
   ·have hb:=Ht.basis E (j:=j) (by rw[←E.sl];exact hj);rw[(E.at' j (by rw[←E.sl];exact hj)).1,ej]at hb;rw[h1];exact hb.mono (Nat.le_max_right _ _)
   exact(hs i (by omega)).mono (Nat.le_max_left _ _)
  |none=>
   have hH:=Ht.src S E.zt hkl hs
   by_cases h0:In h t (R.sqrt (A.getD kk (q 0)))
   ·have hr:=Ht.sqrt (W:=IQ s) E.zt (fun i hi=>Nat.le_trans (E.at' i hi).2.1 (Nat.pow_le_pow_right (by decide) (AZ (by rw[E.sl];exact hi)))) ((E.lk.js E.rd.rl _).1 h0) (R.dN (bx.2 (.inr hp))) hH
    refine(ih (kk:=kk+1) (c:=max c (rS (IQ s) s.length (fE B c kk))) (by omega) E (fun i hi=>?_) hin).mono (Nat.le_max_left _ _)
    by_cases h1:i=kk
    ·rw[h1,E.sl];exact hr.mono (Nat.le_max_right _ _)
    exact(hs i (by omega)).mono (Nat.le_max_left _ _)
   obtain⟨t',z',w',d',hag,E'⟩:=E.grow hp hH h0;have ev:∀b,val h t' b=val h t b:=fun b=>val_congr (fun j hj=>(hag j hj).1) b;have hin0:In h t' (A.getD k (q 0)):=by
    obtain⟨b,hb,e⟩:=hin;exact⟨b,hb,by rw[ev];exact e⟩
   have hup:∀{x:R} {H:Nat},Ht h z w x H→Ht (h+1) z' w' x H:=fun hx=>(hx.congr (fun i hi=>(hag i hi).2.1) (fun i hi=>(hag i hi).2.2)).up;have h2:=ih (kk:=kk+1) (c:=max c (2*(2^s.length*fE B c kk))) (by omega) E' (fun i hi=>?_) hin0.up
   ·have hz:In h z' (A.getD k (q 0)):=((E'.lk.le (Nat.le_succ h)).js (E'.rd.rl.le (Nat.le_succ h)) _).1 hin0;have h3:=(Ht.split E'.zt (v:=q 0) hz (In.rat 0) (by rw[zero_mul,add_zero];exact h2)).1;have h4:=h3.congr (z':=z) (w':=w) (fun i hi=>(hag i hi).2.1.symm) (fun i hi=>(hag i hi).2.2.symm);refine h4.mono ?_;rw[E.sl];exact Nat.le_max_right _ _
   by_cases h1:i=kk
   ·have hb:=Ht.basis E' (j:=h) (by omega);have es:(s++[(kk,2^h*fE B c kk)]).getD h (0,0)=(kk,2^h*fE B c kk):=by
     rw[X7,List.getElem?_append_right (by rw[E.sl];exact Nat.le_refl h),E.sl];simp
    rw[(E'.at' h (by omega)).1,es]at hb;rw[h1,E.sl];exact hb.mono (Nat.le_max_right _ _)
   exact(hup (hs i (by omega))).mono (Nat.le_max_left _ _)
def sN (B:Nat)(σ:Nat→Nat):Nat→List (Nat×Nat)
 |0=>[]
 |h+1=>sN B σ h++[(σ h,2^(sN B σ h).length*go B (σ h) (σ h) (sN B σ h) 0 0)]
theorem env {A:List R}{B:Nat}(S:Src B A){t:List El}{σ:Nat→Nat}:∀{h:Nat} (_:Rd h t) (_:∀j,j<h→σ j<A.length∧val j t (t.getD j [])=A.getD (σ j) (q 0)),
  ∃(z:List El) (w d:Nat→Nat),Env A h t z w d (sN B σ h):=by
 intro h
 induction h with
 |zero=>
  intro R _;exact⟨[],fun _=>1,fun _=>1,rfl,R,⟨⟨fun i hi=>absurd hi (Nat.not_lt_zero _),fun i hi=>absurd hi (Nat.not_lt_zero _)⟩,fun i hi=>absurd hi (Nat.not_lt_zero _),fun i hi=>absurd hi (Nat.not_lt_zero _)⟩,
   ⟨fun i hi=>absurd hi (Nat.not_lt_zero _),fun i hi=>absurd hi (Nat.not_lt_zero _)⟩,fun j hj=>absurd hj (Nat.not_lt_zero _)⟩
 |succ h ih=>
  intro R hσ;obtain⟨z,w,d,E⟩:=ih (R.le (Nat.le_succ h)) (fun j hj=>hσ j (by omega));obtain⟨h1,h2⟩:=hσ h (by omega);have hin:In h t (A.getD (σ h) (q 0)):=by rw[←h2];exact .of (R.rl h (by omega)).1
  have hH:=Iv S h1 (σ h) (kk:=0) (by omega) (c:=0) E (fun i hi=>absurd hi (Nat.not_lt_zero _)) hin;rw[←h2]at hH;obtain⟨z',w',d',hag,hZ,hL,hw,hd⟩:=Tw.grow E.zt E.lk R hH;refine⟨z',w',d',by rw[sN,X6,E.sl];rfl,R,hZ,hL,fun j hj=>?_⟩
  by_cases e:j=h
  ·have es:(sN B σ (h+1)).getD j (0,0)=(σ h,2^h*go B (σ h) (σ h) (sN B σ h) 0 0):=by
    rw[sN,e,E.sl,X7,List.getElem?_append_right (by rw[E.sl];exact Nat.le_refl h),E.sl];simp
   rw[es,e];exact⟨h2,hw,hd,(hH.congr (fun i hi=>(hag i hi).1) (fun i hi=>(hag i hi).2.1)).mono (Nat.le_mul_of_pos_left _ (Nat.two_pow_pos h))⟩
  have hjh:j<h:=by omega
  have es:(sN B σ (h+1)).getD j (0,0)=(sN B σ h).getD j (0,0):=by
   rw[sN,X7,List.getElem?_append_left (by rw[E.sl];exact hjh),←X7]
  rw[es,(hag j hjh).2.1,(hag j hjh).2.2];obtain⟨a1,a2,a3,a4⟩:=E.at' j hjh;exact⟨a1,a2,a3,a4.congr (fun i hi=>(hag i (by omega)).1) (fun i hi=>(hag i (by omega)).2.1)⟩
def vP (B:Nat)(s:List (Nat×Nat))(k:Nat):Nat:=match JJ s k with
 |some W=>2*W
 |none=>rS (IQ s) s.length (go B k k s 0 0)
theorem IY {A:List R}{B:Nat}(S:Src B A){h:Nat}{t z:List El}{w d:Nat→Nat}{s:List (Nat×Nat)}(E:Env A h t z w d s){k:Nat}(hk:k<A.length)(hin:In h t (R.sqrt (A.getD k (q 0)))):
  Ht h z w (R.sqrt (A.getD k (q 0))) (vP B s k):=by
 have hp:=S.pos k hk;unfold vP
 cases hl:JJ s k with
 |some W=>
  obtain⟨j,hj,ej⟩:=uA hl;have hb:=Ht.basis E (j:=j) (by rw[←E.sl];exact hj);rw[(E.at' j (by rw[←E.sl];exact hj)).1,ej]at hb;exact hb
 |none=>
  have hin2:In h t (A.getD k (q 0)):=by
   rw[←R.dN (bx.2 (.inr hp))];exact In.mul E.rd.rl hin hin
  have hH:=Iv S hk k (kk:=0) (by omega) (c:=0) E (fun i hi=>absurd hi (Nat.not_lt_zero _)) hin2;have hr:=Ht.sqrt (W:=IQ s) E.zt (fun i hi=>Nat.le_trans (E.at' i hi).2.1 (Nat.pow_le_pow_right (by decide) (AZ (by rw[E.sl];exact hi)))) ((E.lk.js E.rd.rl _).1 hin) (R.dN (bx.2 (.inr hp))) hH;rw[E.sl];exact hr
end Go.Tw
namespace Go.Tw
open Go Go.R
def Aq:Nat→Nat
 |0=>2^13
 |1=>2^18
 |2=>2^23
 |_=>2^18
def cW:Nat:=131072
def Ad (s:List (Nat×Nat))(k:Nat):Nat:=match JJ s k with
 |some W=>W
 |none=>go 64 k k s 0 0
def Qc (s:List (Nat×Nat))(h:Nat):Bool:=decide (Ad s 0≤cW)&&decide (Ad s 1≤cW)&&decide (Ad s 2≤cW)&&decide (vP 64 s 0≤Aq h)&&decide (vP 64 s 1≤Aq h)&&decide (vP 64 s 2≤Aq h)&&decide (IQ s≤cW)
theorem xv {s:List (Nat×Nat)}{h k:Nat}(H:Qc s h=true)(hk:k<3):vP 64 s k≤Aq h∧IQ s≤cW∧Ad s k≤cW:=by
 simp only[Qc,Bool.and_eq_true,decide_eq_true_eq]at H;obtain⟨⟨⟨⟨⟨⟨g0,g1⟩,g2⟩,h0⟩,h1⟩,h2⟩,h3⟩:=H
 match k,hk with
 |0,_=>exact⟨h0,h3,g0⟩
 |1,_=>exact⟨h1,h3,g1⟩
 |2,_=>exact⟨h2,h3,g2⟩
def sL (l:List Nat):List (Nat×Nat):=l.foldl (fun s k=>s++[(k,2^s.length*go 64 k k s 0 0)]) []
theorem Mi (σ:Nat→Nat):∀h,sN 64 σ h=sL ((List.range h).map σ)
 |0=>rfl
 |h+1=>by
  rw[sN,Mi σ h];unfold sL;rw[List.range_succ,List.map_append,List.foldl_append];rfl
def E1:List (List Nat):=[[],[0],[1],[2],[0,1],[0,2],[1,0],[1,2],[2,0],[2,1],[0,1,2],[0,2,1],[1,0,2],[1,2,0],[2,0,1],[2,1,0]]
theorem PT:∀l∈E1,Qc (sL l) l.length=true:=by decide+kernel
theorem Jr {h:Nat}{σ:Nat→Nat}(h3:∀j,j<h→σ j<3)(hi:∀i j,i<j→j<h→σ i≠σ j):h≤3∧(List.range h).map σ∈E1:=by
 have hle:h≤3:=by
  refine Nat.le_of_not_lt fun hl=>?_;have a0:=h3 0 (by omega);have a1:=h3 1 (by omega);have a2:=h3 2 (by omega);have a3:=h3 3 (by omega);have b01:=hi 0 1 (by omega) (by omega);have b02:=hi 0 2 (by omega) (by omega);have b03:=hi 0 3 (by omega) (by omega);have b12:=hi 1 2 (by omega) (by omega);have b13:=hi 1 3 (by omega) (by omega);have b23:=hi 2 3 (by omega) (by omega);omega
 refine⟨hle,?_⟩;have three:∀{n:Nat},n<3→n=0∨n=1∨n=2:=by intro n;omega
 match h,hle with
 |0,_=>show[]∈E1;decide
 |1,_=>
  show[σ 0]∈E1
  rcases three (h3 0 (by omega))with e|e|e<;>rw [e]<;>decide
 |2,_=>
  show[σ 0,σ 1]∈E1
  have b:=hi 0 1 (by omega) (by omega)
  rcases three (h3 0 (by omega))with e|e|e<;>rcases three (h3 1 (by omega))with f|f|f<;>rw [e,f]at b⊢<;>first|exact absurd rfl b|decide
 |3,_=>
  show[σ 0,σ 1,σ 2]∈E1
  have b:=hi 0 1 (by omega) (by omega);have c:=hi 0 2 (by omega) (by omega);have d:=hi 1 2 (by omega) (by omega)
  rcases three (h3 0 (by omega))with e|e|e<;>rcases three (h3 1 (by omega))with f|f|f<;>rcases three (h3 2 (by omega))with g|g|g<;>rw [e]at b c⊢<;>rw [f]at b d⊢<;>rw [g]at c d⊢<;>first|exact absurd rfl b|exact absurd rfl c|exact absurd rfl d|decide
structure TG (A:List R) (t:List El):Prop where
 rd:Rd t.length t
 mem:∀j,j<t.length→val j t (t.getD j [])∈A
theorem KF {h:Nat}{t:List El}(D:Rd h t){i j:Nat}(hij:i<j)(hj:j<h):val i t (t.getD i [])≠val j t (t.getD j []):=by
 intro e;have h1:In j t (R.sqrt (val i t (t.getD i []))):=(In.root (h:=i) (t:=t)).le (by omega);refine D.ns j hj _ h1 ?_;rw[←e];exact R.dN (bx.2 (.inr (D.rl i (by omega)).2))
theorem TG.CL {A:List R}{t:List El}(T:TG A t):∃σ:Nat→Nat,(∀j,j<t.length→σ j<A.length∧val j t (t.getD j [])=A.getD (σ j) (q 0))∧∀i j,i<j→j<t.length→σ i≠σ j:=by
 obtain⟨σ,hσ⟩:=Classical.axiomOfChoice (r:=fun(j k:Nat)=>j<t.length→k<A.length∧val j t (t.getD j [])=A.getD k (q 0)) (fun j=>by
  by_cases hj:j<t.length
  ·obtain⟨k,hk,e⟩:=List.mem_iff_getElem.1 (T.mem j hj);exact⟨k,fun _=>⟨hk,by rw[←e,X7,X8 hk];rfl⟩⟩
  exact⟨0,fun h=>absurd h hj⟩)
 refine⟨σ,hσ,fun i j hij hj e=>KF T.rd hij hj ?_⟩;rw[(hσ i (by omega)).2,(hσ j hj).2,e]
theorem TG.env {A:List R}(S:Src 64 A)(hA:A.length≤3){t:List El}(T:TG A t):
  t.length≤3∧∃(z:List El) (w d:Nat→Nat),Zt t.length z w∧Lk t.length t z d∧(∀i,i<t.length→w i≤2^cW∧d i≤2^cW∧Ht i z w (val i t (t.getD i [])) cW)∧
   (∀a∈A,In t.length t (R.sqrt a)→Ht t.length z w (R.sqrt a) (Aq t.length))∧∀a∈A,In t.length t a→Ht t.length z w a cW:=by
 obtain⟨σ,hσ,hi⟩:=T.CL;obtain⟨h3,hm⟩:=Jr (fun j hj=>by have:=(hσ j hj).1;omega) hi;have ha:=PT _ hm;rw[List.length_map,List.length_range,←Mi]at ha;obtain⟨z,w,d,E⟩:=Tw.env S T.rd hσ;refine⟨h3,z,w,d,E.zt,E.lk,fun i hi=>?_,fun a haA hin=>?_,fun a haA hin=>?_⟩
 ·obtain⟨_,h1,h2,h4⟩:=E.at' i hi
  have:=AZ (s:=sN 64 σ t.length) (j:=i) (by rw[E.sl];exact hi)
  have hm:=Nat.le_trans this (xv ha (k:=0) (by decide)).2.1;have hl:2^((sN 64 σ t.length).getD i (0,0)).2≤2^cW:=Nat.pow_le_pow_right (by decide) hm;exact⟨Nat.le_trans h1 hl,Nat.le_trans h2 hl,h4.mono hm⟩
 ·obtain⟨k,hk,rfl⟩:=List.mem_iff_getElem.1 haA;have ek:A.getD k (q 0)=A[k]:=by rw[X7,X8 hk];rfl
  rw[←ek]at hin⊢;exact(IY S E hk hin).mono (xv ha (by omega)).1
 obtain⟨k,hk,rfl⟩:=List.mem_iff_getElem.1 haA;have ek:A.getD k (q 0)=A[k]:=by rw[X7,X8 hk];rfl
 rw[←ek]at hin⊢;refine Ht.mono ?_ (xv ha (show k<3 by omega)).2.2;unfold Ad
 cases hl:JJ (sN 64 σ t.length) k with
 |some W=>
  obtain⟨j,hj,ej⟩:=uA hl;rw[E.sl]at hj;obtain⟨a1,_,_,a4⟩:=E.at' j hj;rw[ej]at a1 a4;rw[a1]at a4;exact a4.le (Nat.le_of_lt hj)
 |none=>exact Iv S hk k (kk:=0) (by omega) (c:=0) E (fun i hi=>absurd hi (Nat.not_lt_zero _)) hin
end Go.Tw
/-
  NUMBERS: a tower, an element, its value, and how long its coefficients are.
-/
namespace Go.Tw
open Go Go.R Go.Eng
def QB (B:Nat)(a:El):Prop:=∀c∈a,qm c≤B
theorem QB.mono {B C:Nat}{a:El}(h:QB B a)(k:B≤C):QB C a:=fun c hc=>Nat.le_trans (h c hc) k
theorem QB.take {B:Nat}{a:El}(h:QB B a)(n:Nat):QB B (a.take n):=fun c hc=>h c (List.mem_of_mem_take hc)
theorem QB.drop {B:Nat}{a:El}(h:QB B a)(n:Nat):QB B (a.drop n):=fun c hc=>h c (List.mem_of_mem_drop hc)
theorem QB.app {B:Nat}{a b:El}(h:QB B a)(k:QB B b):QB B (a++b):=fun c hc=>by
 rcases List.mem_append.1 hc with hc|hc
 ·exact h c hc
 exact k c hc
theorem CX:qm 0≤1:=by decide+kernel
theorem QB.zero {n:Nat}:QB 1 (zE n):=fun c hc=>by rw[List.eq_of_mem_replicate hc];exact CX
theorem B6 (x:Rat):qm (-x)=qm x:=by unfold qm;rw[Rat.neg_num,Rat.neg_den,HM]
theorem QB.neg {B:Nat}{a:El}(h:QB B a):QB B (aJ a):=fun c hc=>by
 obtain⟨x,hx,rfl⟩:=List.mem_map.1 hc;rw[B6];exact h x hx
theorem QB.add:∀{a b:El} {B C:Nat},QB B a→QB C b→QB (B+C+1) (aC a b)
 |[],b,_,_,_,_=>by intro x hx;cases b<;>cases hx
 |x::a,[],_,_,_,_=>by intro y hy;cases hy
 |x::a,y::b,B,C,h,k=>by
  intro u hu;have hu:u=x+y∨u∈aC a b:=List.mem_cons.1 hu
  rcases hu with rfl|hu
  ·have:=NK x y
   have:=h x (by simp)
   have:=k y (by simp)
   omega
  exact QB.add (fun v hv=>h v (by simp[hv])) (fun v hv=>k v (by simp[hv])) u hu
theorem QB.getD {B:Nat}{a:El}(h:QB B a)(h1:1≤B)(i:Nat):qm (a.getD i 0)≤B:=by
 rw[X7]
 cases e:a[i]? with
 |none=>exact Nat.le_trans CX h1
 |some x=>exact h x (List.mem_of_getElem? e)
def mS:Nat→Nat→Nat→Nat
 |0,S,_=>S
 |h+1,S,C=>mS h S C+mS h (mS h S C+C) C+1
theorem gV {h S C:Nat}:S≤mS h S C:=by
 induction h generalizing S with
 |zero=>exact Nat.le_refl _
 |succ h ih=>have:=ih (S:=S);rw[mS];omega
theorem JH {h S T C:Nat}(k:S≤T):mS h S C≤mS h T C:=by
 induction h generalizing S T with
 |zero=>exact k
 |succ h ih=>
  have h1:=ih k;have h2:=ih (S:=mS h S C+C) (T:=mS h T C+C) (by omega);rw[mS,mS];omega
theorem QB.mul {h:Nat}{t:List El}{C:Nat}(hC:1≤C):∀{a b:El} {A B:Nat} (_:∀i,i<h→QB C (t.getD i [])),1≤A→1≤B→QB A a→QB B b→QB (mS h (A+B) C) (ai h t a b):=by
 induction h with
 |zero=>
  intro a b A B _ h1 h2 ha hb c hc;rw[ai,List.mem_singleton]at hc;subst hc
  have:=MP (a.getD 0 0) (b.getD 0 0)
  have:=ha.getD h1 0
  have:=hb.getD h2 0
  show _≤A+B;omega
 |succ h ih=>
  intro a b A B ht h1 h2 ha hb;have ih':=fun{a b:El} {A B:Nat}=>ih (a:=a) (b:=b) (A:=A) (B:=B) (fun i hi=>ht i (by omega));have g1:=ih' h1 h2 (ha.take (2^h)) (hb.take (2^h));have g2:=ih' h1 h2 (ha.drop (2^h)) (hb.drop (2^h));have g3:=ih' h1 h2 (ha.take (2^h)) (hb.drop (2^h));have g4:=ih' h1 h2 (ha.drop (2^h)) (hb.take (2^h));have hge:=gV (h:=h) (S:=A+B) (C:=C);have g5:=ih' (by omega) hC g2 (ht h (by omega));have k5:=gV (h:=h) (S:=mS h (A+B) C+C) (C:=C);rw[ai,mS];refine QB.app (g1.add g5) ((g3.add g4).mono ?_);omega
theorem bF {h:Nat}{t:List El}{b:El}:ai h t (zE (2^h)) b=zE (2^h):=by
 have zz:∀n,aC (zE n) (zE n)=zE n:=by
  intro n;unfold aC zE;rw[List.zipWith_replicate,Nat.min_self,Rat.add_zero]
 induction h generalizing b with
 |zero=>rw[ai];show[(0:Rat)*_]=_;rw[Rat.zero_mul];rfl
 |succ h ih=>rw[ai,pD,py,ih,ih,ih,zz,AT]
theorem fT {h:Nat}{t:List El}{a:El}:ai h t a (zE (2^h))=zE (2^h):=by
 have zz:∀n,aC (zE n) (zE n)=zE n:=by
  intro n;unfold aC zE;rw[List.zipWith_replicate,Nat.min_self,Rat.add_zero]
 induction h generalizing a with
 |zero=>rw[ai];show[_*(0:Rat)]=_;rw[Rat.mul_zero];rfl
 |succ h ih=>rw[ai,pD,py,ih,ih,bF,zz,AT]
end Go.Tw
namespace Go.Tw
open Go Go.R Go.Eng
theorem Sz.imp {G G':R→Nat→Prop}(h:∀x H,G x H→G' x H){x:R}{H:Nat}(hx:Sz G x H):Sz G' x H:=by
 induction hx with
 |gen g=>exact .gen (h _ _ g)
 |rat h1 h2=>exact .rat h1 h2
 |add _ _ h1 h2=>exact .add h1 h2
 |mul _ _ h1 h2=>exact .mul h1 h2
 |neg _ h1=>exact .neg h1
 |inv _ e h1=>exact .inv h1 e
 |mono _ e h1=>exact .mono h1 e
def mW (A:List R)(t:List El)(x:R)(β μ:Nat):Prop:=∀c,Sz (fun y H=>(∃a,a∈A∧y=R.sqrt a)∧In t.length t y∧H=c) x (β+μ*c)
section
variable {A:List R}{t:List El}
theorem mW.mono {x:R}{β μ β' μ':Nat}(h:mW A t x β μ)(h1:β≤β')(h2:μ≤μ'):mW A t x β' μ':=fun c=>(h c).mono (by
 have:=Nat.mul_le_mul_right c h2;omega)
theorem mW.add {x y:R}{β μ β' μ':Nat}(h:mW A t x β μ)(k:mW A t y β' μ'):mW A t (x+y) (β+β'+1) (μ+μ'):=fun c=>((h c).add (k c)).mono (by rw[Nat.add_mul];omega)
theorem mW.mul {x y:R}{β μ β' μ':Nat}(h:mW A t x β μ)(k:mW A t y β' μ'):mW A t (x*y) (β+β') (μ+μ'):=fun c=>((h c).mul (k c)).mono (by rw[Nat.add_mul];omega)
theorem mW.neg {x:R}{β μ:Nat}(h:mW A t x β μ):mW A t (-x) β μ:=fun c=>(h c).neg
theorem mW.inv {x y:R}{β μ:Nat}(h:mW A t x β μ)(e:x*y=q 1):mW A t y β μ:=fun c=>(h c).inv e
theorem mW.rat {x:Rat}{β:Nat}(h1:x.num.natAbs≤2^β)(h2:x.den≤2^β):mW A t (q x) β 0:=fun c=>(Sz.rat h1 h2).mono (by omega)
theorem mW.root {a:R}(h:a∈A)(k:In t.length t (R.sqrt a)):mW A t (R.sqrt a) 0 1:=fun c=>(Sz.gen ⟨⟨a,h,rfl⟩,k,rfl⟩).mono (by omega)
theorem mW.trans {A':List R}{T:List El}(hA:∀a,a∈A→a∈A')(hT:∀x,In t.length t x→In T.length T x){x:R}{β μ:Nat}(h:mW A t x β μ):mW A' T x β μ:=
 fun c=>(h c).imp fun _ _ ⟨⟨a,ha,e⟩,hi,hc⟩=>⟨⟨a,hA a ha,e⟩,hT _ hi,hc⟩
end
structure ax (A:List R) (t:List El) (a:El) (x:R) (β μ:Nat):Prop where
 tg:TG A t
 len:a.length=2^t.length
 val:val t.length t a=x
 sz:mW A t x β μ
theorem ax.mono {A:List R}{t:List El}{a:El}{x:R}{β μ β' μ':Nat}(h:ax A t a x β μ)(h1:β≤β')(h2:μ≤μ'):ax A t a x β' μ':=⟨h.tg,h.len,h.val,h.sz.mono h1 h2⟩
theorem TG.sub {A A':List R}{t:List El}(hA:∀a,a∈A→a∈A')(T:TG A t):TG A' t:=⟨T.rd,fun j hj=>hA _ (T.mem j hj)⟩
theorem ax.sub {A A':List R}{t:List El}{a:El}{x:R}{β μ:Nat}(hA:∀a,a∈A→a∈A')(h:ax A t a x β μ):ax A' t a x β μ:=⟨h.tg.sub hA,h.len,h.val,h.sz.trans hA fun _ h=>h⟩
theorem C1 {n b:Nat}(h:n≤2^b):nl n≤b/32+1:=by
 refine aD (Nat.lt_of_le_of_lt h ?_);show 2^b<(2^32)^(b/32+1);rw[←Nat.pow_mul];exact Nat.pow_lt_pow_right (by decide) (by omega)
theorem pF {c:Rat}{b:Nat}(h1:c.num.natAbs≤2^b)(h2:c.den≤2^b):qm c≤b/32+1:=by
 have:=C1 h1
 have:=C1 h2
 unfold qm zn;omega
def qN (h β μ:Nat):Nat:=2^h*(β+μ*Aq h+cW)/32+1
theorem ax.qb {A:List R}(S:Src 64 A)(hA:A.length≤3){t:List El}{a:El}{x:R}{β μ:Nat}(h:ax A t a x β μ):QB (qN t.length β μ) a:=by
 obtain⟨h3,z,w,d,Z,L,hwd,hG,_⟩:=h.tg.env S hA;have hx:=(h.sz (Aq t.length)).ht Z (fun y H ⟨⟨a,ha,e⟩,hi,hc⟩=>by rw[e]at hi⊢;rw[hc];exact hG a ha hi);intro c hc
 have:=oJ (E:=cW) L h.tg.rd.rl Z (fun i hi=>(hwd i hi).2.1) h.len (by rw[h.val];exact hx) c hc
 exact pF this.1 this.2
def tB:Nat:=32769
theorem TG.qb {A:List R}(S:Src 64 A)(hA:A.length≤3){t:List El}(T:TG A t){i:Nat}(hi:i<t.length):QB tB (t.getD i []):=by
 obtain⟨h3,z,w,d,Z,L,hwd,_,_⟩:=T.env S hA;have h4:=(hwd i hi).2.2;intro c hc
 have:=oJ (E:=cW) (L.le (Nat.le_of_lt hi)) (T.rd.rl.le (Nat.le_of_lt hi)) (Z.le (Nat.le_of_lt hi)) (fun j hj=>(hwd j (by omega)).2.1) (T.rd.rl i hi).1 h4 c hc
 have hb:=pF this.1 this.2;refine Nat.le_trans hb ?_
 have:2^i≤2^2:=Nat.pow_le_pow_right (by decide) (by omega)
 have:2^i*(cW+cW)≤2^2*(cW+cW):=Nat.mul_le_mul_right _ this
 unfold cW at*
 unfold tB;omega
theorem xL {B c:Nat}:∀k,fE B c k+c+1=(B+1)*2^k+2^k*c
 |0=>by rw[fE];omega
 |k+1=>by
  have:=xL (B:=B) (c:=c) k
  rw[fE,Nat.pow_succ];have e1:(B+1)*(2^k*2)=2*((B+1)*2^k):=by rw[←Nat.mul_assoc,Nat.mul_comm]
  have e2:2^k*2*c=2*(2^k*c):=by rw[Nat.mul_right_comm,Nat.mul_comm]
  rw[e1,e2];omega
theorem Sz.expr {G:R→Nat→Prop}{B c:Nat}{u:List El}:∀{m:Nat} {e:El},e.length=2^m→iC B e→(∀j,j<m→Sz G (R.sqrt (Tw.val j u (u.getD j []))) c)→Sz G (Tw.val m u e) (fE B c m):=by
 intro m
 induction m with
 |zero=>
  intro e he hb _;obtain⟨x,rfl⟩:=bB he;obtain⟨h1,h2⟩:=hb x (by simp);exact Sz.rat h1 h2
 |succ m ih=>
  intro e he hb hs;have h1:=ih (ah he) (fun c hc=>hb c (List.mem_of_mem_take hc)) (fun j hj=>hs j (by omega));have h2:=ih (ag he) (fun c hc=>hb c (List.mem_of_mem_drop hc)) (fun j hj=>hs j (by omega));exact(h1.add (h2.mul (hs m (by omega)))).mono (by rw[fE];omega)
theorem ax.short {A:List R}{t:List El}{a:El}{B:Nat}(T:TG A t)(ha:a.length=2^t.length)(hb:iC B a):ax A t a (Tw.val t.length t a) ((B+1)*2^t.length) (2^t.length):=
 ⟨T,ha,rfl,fun c=>(Sz.expr (c:=c) ha hb (fun j hj=>.gen ⟨⟨_,T.mem j hj,rfl⟩,(In.root (h:=j) (t:=t)).le (by omega),rfl⟩)).mono (by have:=xL (B:=B) (c:=c) t.length;omega)⟩
theorem TG.IG {A:List R}{t:List El}(T:TG A t)(hA:A.length≤3):t.length≤A.length:=by
 obtain⟨σ,hσ,hi⟩:=T.CL;refine Nat.le_of_not_lt fun hl=>?_;have h:∀j,j<t.length→σ j<A.length:=fun j hj=>(hσ j hj).1;have k0:=fun hj=>h 0 hj;have k1:=fun hj=>h 1 hj;have k2:=fun hj=>h 2 hj;have k3:=fun hj=>h 3 hj;have b01:=fun hj=>hi 0 1 (by omega) hj;have b02:=fun hj=>hi 0 2 (by omega) hj;have b03:=fun hj=>hi 0 3 (by omega) hj;have b12:=fun hj=>hi 1 2 (by omega) hj;have b13:=fun hj=>hi 1 3 (by omega) hj;have b23:=fun hj=>hi 2 3 (by omega) hj;omega
theorem Src.snoc {A:List R}(S:Src 64 A)(hA:A.length≤3){t:List El}{a:El}(T:TG A t)(ha:a.length=2^t.length)(hb:iC 64 a)(hp:R.pos (Tw.val t.length t a)):Src 64 (A++[Tw.val t.length t a]):=by
 have e1:∀k,k<A.length→(A++[Tw.val t.length t a]).getD k (q 0)=A.getD k (q 0):=fun k hk=>by
  rw[X7,List.getElem?_append_left hk,←X7]
 have e2:(A++[Tw.val t.length t a]).getD A.length (q 0)=Tw.val t.length t a:=by
  rw[X7,List.getElem?_append_right (Nat.le_refl _)];simp
 refine⟨fun k hk=>?_,fun k hk=>?_⟩
 ·by_cases h:k<A.length
  ·rw[e1 k h];exact S.pos k h
  obtain rfl:k=A.length:=by simp at hk;omega
  rw[e2];exact hp
 by_cases h:k<A.length
 ·rw[e1 k h,List.take_append_of_le_length (Nat.le_of_lt h)];exact S.expr k h
 obtain rfl:k=A.length:=by simp at hk;omega
 rw[e2,List.take_append_of_le_length (Nat.le_refl _),List.take_length];exact⟨_,_,_,T.IG hA,ha,hb,T.mem,rfl⟩
end Go.Tw
/-
  What signs, inverses and square roots need to be short.
-/
namespace Go.Tw
open Go Go.R Go.Eng
theorem qB:∀(a b:El),aC a b=aC b a
 |[],[]=>rfl
 |[],_::_=>rfl
 |_::_,[]=>rfl
 |x::a,y::b=>by
  show(x+y)::aC a b=(y+x)::aC b a
  rw[Rat.add_comm,qB]
theorem vU {h:Nat}{t:List El}:∀(a b:El),ai h t a b=ai h t b a:=by
 induction h with
 |zero=>intro a b;rw[ai,ai,Rat.mul_comm]
 |succ h ih=>
  intro a b;rw[ai,ai,ih (a.take _) (b.take _),ih (a.drop _) (b.drop _),ih (a.take _) (b.drop _),ih (a.drop _) (b.take _),qB (ai h t (b.drop _) (a.take _))]
structure Ev (h:Nat) (t z:List El) (w d:Nat→Nat):Prop where
 rd:Rd h t
 zt:Zt h z w
 lk:Lk h t z d
 wb:∀i,i<h→w i≤2^cW
 db:∀i,i<h→d i≤2^cW
 rb:∀i,i<h→Ht i z w (val i t (t.getD i [])) cW
theorem Ev.le {h k:Nat}{t z:List El}{w d:Nat→Nat}(E:Ev h t z w d)(hk:k≤h):Ev k t z w d:=⟨E.rd.le hk,E.zt.le hk,E.lk.le hk,fun i hi=>E.wb i (by omega),fun i hi=>E.db i (by omega),fun i hi=>E.rb i (by omega)⟩
def bW (h H:Nat):Nat:=2^h*(H+cW)/32+1
theorem oi {h k H K:Nat}(e:2^h*(H+cW)≤2^k*(K+cW)):bW h H≤bW k K:=by unfold bW;omega
section
variable {t z:List El}{w d:Nat→Nat}
theorem Ev.qb {h:Nat}(E:Ev h t z w d){a:El}{H:Nat}(ha:a.length=2^h)(hx:Ht h z w (val h t a) H):QB (bW h H) a:=fun c hc=>by
 have:=oJ (E:=cW) E.lk E.rd.rl E.zt E.db ha hx c hc
 exact pF this.1 this.2
theorem Ev.parts {h:Nat}(E:Ev (h+1) t z w d){a:El}{H:Nat}(ha:a.length=2^(h+1))(hx:Ht (h+1) z w (val (h+1) t a) H):
  Ht h z w (val h t (a.take (2^h))) (2*H)∧Ht h z w (val h t (a.drop (2^h))) (2*H+cW)∧Ht h z w (val h t (aO h t a)) (2*H):=by
 have E':=E.le (Nat.le_succ h);have hr:=E.lk.root E.rd.rl;have hd:=ot (E.lk.d0 h (by omega));have hu:In h t (val h t (a.take (2^h))):=.of (ah ha);have hv:In h t (val h t (a.drop (2^h))*q ((d h:Rat)⁻¹)):=In.mul E'.rd.rl (.of (ag ha)) (In.rat _);have e:val (h+1) t a=val h t (a.take (2^h))+val h t (a.drop (2^h))*q ((d h:Rat)⁻¹)*R.sqrt (val h z (z.getD h [])):=by
  rw[hr,mul_assoc (val h t _),←mul_assoc (q _),mul_comm (q ((d h:Rat)⁻¹)),hd,one_mul];rfl
 rw[e]at hx;obtain⟨k1,k2,k3⟩:=Ht.split E.zt ((E'.lk.js E'.rd.rl _).1 hu) ((E'.lk.js E'.rd.rl _).1 hv) hx;have hdn:Ht h z w (q (d h:Rat)) cW:=by
  refine Ht.rat ?_ ?_
  ·rw[Rat.num_natCast,Int.natAbs_natCast];exact E.db h (by omega)
  rw[Rat.den_natCast];exact Nat.one_le_two_pow
 have k4:=k2.mul E'.zt hdn;rw[mul_assoc,mul_comm (q _),hd,mul_one]at k4;refine⟨k1,k4,?_⟩;rw[fh E.rd.rl ha,E.rd.rl.root];have e3:val h t (a.drop (2^h))*q ((d h:Rat)⁻¹)*(val h t (a.drop (2^h))*q ((d h:Rat)⁻¹))*val h z (z.getD h [])=val h t (a.drop (2^h))*val h t (a.drop (2^h))*val h t (t.getD h []):=by
  rw[jT,E.lk.v h (by omega),dT,mul_assoc (_*_) (_*_),←mul_assoc (q _*q _) (q _*q _),jT (q _) (q _),mul_comm (q (d h:Rat)⁻¹),hd,one_mul,one_mul]
 rw[e3]at k3;exact k3
def gT (X:Nat):Nat→List El→El→Prop
 |0,_,a=>QB X a
 |h+1,t,a=>QB X a∧gT X h t (a.take (2^h))∧gT X h t (a.drop (2^h))∧gT X h t (aO h t a)
theorem gT.mono {X Y:Nat}(hXY:X≤Y){h:Nat}:∀{t:List El} {a:El},gT X h t a→gT Y h t a:=by
 induction h with
 |zero=>intro t a H;exact QB.mono H hXY
 |succ h ih=>intro t a H;exact⟨H.1.mono hXY,ih H.2.1,ih H.2.2.1,ih H.2.2.2⟩
theorem gT.qb {X h:Nat}{t:List El}{a:El}(H:gT X h t a):QB X a:=by
 cases h with
 |zero=>exact H
 |succ h=>exact H.1
theorem mi {h H K:Nat}(e:H≤2*K):2^h*H≤2^(h+1)*K:=by
 rw[Nat.pow_succ,Nat.mul_assoc];exact Nat.mul_le_mul_left _ e
theorem gT.of {h:Nat}:∀(_:Ev h t z w d) {a:El} {H:Nat},a.length=2^h→Ht h z w (val h t a) H→gT (bW h H) h t a:=by
 induction h with
 |zero=>intro E a H ha hx;exact E.qb ha hx
 |succ h ih=>
  intro E a H ha hx;obtain⟨h1,h2,h3⟩:=E.parts ha hx;have ih:=fun{a:El} {H:Nat}=>ih (E.le (Nat.le_succ h)) (a:=a) (H:=H);exact⟨E.qb ha hx,(ih (ah ha) h1).mono (oi (mi (by omega))),(ih (ag ha) h2).mono (oi (mi (by omega))),(ih aI h3).mono (oi (mi (by omega)))⟩
def lS (X:Nat):Nat→List El→El→Prop
 |0,_,a=>QB X a
 |h+1,t,a=>QB X a∧lS X h t (a.take (2^h))∧lS X h t (aO h t a)∧(∀n,cA h t (a.take (2^h))=some n→QB X n)∧(∀n,cA h t (aO h t a)=some n→QB X n)
theorem lS.mono {X Y:Nat}(hXY:X≤Y){h:Nat}:∀{t:List El} {a:El},lS X h t a→lS Y h t a:=by
 induction h with
 |zero=>intro t a H;exact QB.mono H hXY
 |succ h ih=>intro t a H;exact⟨H.1.mono hXY,ih H.2.1,ih H.2.2.1,fun n hn=>(H.2.2.2.1 n hn).mono hXY,fun n hn=>(H.2.2.2.2 n hn).mono hXY⟩
theorem lS.qb {X h:Nat}{t:List El}{a:El}(H:lS X h t a):QB X a:=by
 cases h with
 |zero=>exact H
 |succ h=>exact H.1
theorem Ev.Dj {h:Nat}(E:Ev h t z w d){a n:El}{H:Nat}(ha:a.length=2^h)(hx:Ht h z w (val h t a) H)(hn:cA h t a=some n):QB (bW h H) n:=by
 obtain⟨hl,hv⟩:=dc E.rd.rl ha hn;exact E.qb hl (hx.inv hv)
theorem lS.of {h:Nat}:∀(_:Ev h t z w d) {a:El} {H:Nat},a.length=2^h→Ht h z w (val h t a) H→lS (bW h H) h t a:=by
 induction h with
 |zero=>intro E a H ha hx;exact E.qb ha hx
 |succ h ih=>
  intro E a H ha hx;obtain⟨h1,h2,h3⟩:=E.parts ha hx;have E':=E.le (Nat.le_succ h);have ih:=fun{a:El} {H:Nat}=>ih E' (a:=a) (H:=H);have hb:bW h (2*H)≤bW (h+1) H:=oi (mi (by omega));exact⟨E.qb ha hx,(ih (ah ha) h1).mono hb,(ih aI h3).mono hb,fun n hn=>(E'.Dj (ah ha) h1 hn).mono hb,fun n hn=>(E'.Dj aI h3 hn).mono hb⟩
def wE (h:Nat):El:=aX h ((2:Rat)⁻¹)
def kM (X:Nat):Nat→List El→El→Prop
 |0,_,a=>QB X a
 |h+1,t,a=>gT X (h+1) t a∧
  (a.drop (2^h)=zE (2^h)→kM X h t (a.take (2^h))∧lS X h t (t.getD h [])∧∀i,cA h t (t.getD h [])=some i→QB X i∧kM X h t (ai h t (a.take (2^h)) i))∧
  (a.drop (2^h)≠zE (2^h)→kM X h t (aO h t a)∧∀n,n.length=2^h→val h t n*val h t n=val h t (aO h t a)→
   QB X n∧QB X (aC (a.take (2^h)) n)∧kM X h t (ai h t (aC (a.take (2^h)) n) (wE h))∧
   ∀p,p.length=2^h→val h t p*val h t p=val h t (ai h t (aC (a.take (2^h)) n) (wE h))→
    QB X p∧lS X h t p∧lS X h t (aC p p)∧(∀i,cA h t p=some i→QB X i∧QB X (ai h t (a.drop (2^h)) i))∧(∀i,cA h t (aC p p)=some i→QB X i))
theorem kM.mono {X Y:Nat}(hXY:X≤Y){h:Nat}:∀{t:List El} {a:El},kM X h t a→kM Y h t a:=by
 induction h with
 |zero=>intro t a H;exact QB.mono H hXY
 |succ h ih=>
  intro t a H;obtain⟨h1,h2,h3⟩:=H;refine⟨h1.mono hXY,fun e=>?_,fun e=>?_⟩
  ·obtain⟨g1,g2,g3⟩:=h2 e;exact⟨ih g1,g2.mono hXY,fun i hi=>⟨(g3 i hi).1.mono hXY,ih (g3 i hi).2⟩⟩
  obtain⟨g1,g2⟩:=h3 e;refine⟨ih g1,fun n hn he=>?_⟩;obtain⟨k1,k2,k3,k4⟩:=g2 n hn he;refine⟨k1.mono hXY,k2.mono hXY,ih k3,fun p hp hpe=>?_⟩;obtain⟨m1,m2,m3,m4,m5⟩:=k4 p hp hpe;exact⟨m1.mono hXY,m2.mono hXY,m3.mono hXY,fun i hi=>⟨(m4 i hi).1.mono hXY,(m4 i hi).2.mono hXY⟩,fun i hi=>(m5 i hi).mono hXY⟩
theorem kM.qb {X h:Nat}{t:List El}{a:El}(H:kM X h t a):QB X a:=by
 cases h with
 |zero=>exact H
 |succ h=>exact H.1.qb
theorem Ht.half {h:Nat}{z:List El}{w:Nat→Nat}:Ht h z w (q ((2:Rat)⁻¹)) 1:=Ht.rat (by decide+kernel) (by decide+kernel)
theorem Ev.pQ {h:Nat}(E:Ev (h+1) t z w d):Ht h z w (val h t (t.getD h [])) cW:=E.rb h (by omega)
theorem HT {W h H:Nat}:H≤2*rS W h H:=by
 cases h with
 |zero=>unfold rS;omega
 |succ h=>rw[rS];omega
theorem kM.low {h:Nat}(E:Ev (h+1) t z w d){X:Nat}{a:El}(ha:a.length=2^(h+1))(h0:a.drop (2^h)=zE (2^h))(hs:gT X (h+1) t a)
  (h1:kM X h t (a.take (2^h))) (h2:lS X h t (t.getD h [])) (h3:∀i,cA h t (t.getD h [])=some i→QB X i∧kM X h t (ai h t (a.take (2^h)) i)):kM X (h+1) t a:=
 ⟨hs,fun _=>⟨h1,h2,h3⟩,fun e=>absurd h0 e⟩
theorem kM.of {h:Nat}:∀(_:Ev h t z w d) {a:El} {H:Nat},a.length=2^h→Ht h z w (val h t a) H→kM (bW h (2*rS cW h H+4*cW+4)) h t a:=by
 induction h with
 |zero=>intro E a H ha hx;exact(E.qb ha hx).mono (oi (Nat.mul_le_mul_left _ (by have:=HT (W:=cW) (h:=0) (H:=H);omega)))
 |succ h ih=>
  intro E a H ha hx;have E':=E.le (Nat.le_succ h);have Z':=E'.zt;have L':=E'.rd.rl;obtain⟨h1,h2,h3⟩:=E.parts ha hx;have ih:=fun{a:El} {H:Nat}=>ih E' (a:=a) (H:=H);have hge:=HT (W:=cW) (h:=h) (H:=2*H);have hm1:rS cW h (2*H)≤rS cW h (2*H+rS cW h (2*H)+2+2*cW):=gJ (by omega);have hm2:rS cW h (2*H+2*cW)≤rS cW h (2*H+rS cW h (2*H)+2+2*cW):=gJ (by omega);have hm3:rS cW h (2*H+rS cW h (2*H)+2)≤rS cW h (2*H+rS cW h (2*H)+2+2*cW):=gJ (by omega);have hge2:=HT (W:=cW) (h:=h) (H:=2*H+rS cW h (2*H)+2+2*cW);have hdef:rS cW (h+1) H=2*rS cW h (2*H+rS cW h (2*H)+2+2*cW)+2*H+cW+2:=by rw[rS]
  have key:∀{K:Nat},K+cW≤2*(2*rS cW (h+1) H+4*cW+4+cW)→bW h K≤bW (h+1) (2*rS cW (h+1) H+4*cW+4):=fun hK=>oi (mi hK);refine⟨(gT.of E ha hx).mono (oi (Nat.mul_le_mul_left _ (by omega))),fun e=>?_,fun e=>?_⟩
  ·have hr:=E.pQ;have hrl:=(E.rd.rl h (by omega)).1;refine⟨(ih (ah ha) h1).mono (key (by omega)),(lS.of E' hrl hr).mono (key (by omega)),fun i hi=>?_⟩;obtain⟨hl,hv⟩:=dc L' hrl hi;have hri:=hr.inv hv;refine⟨(E'.qb hl hri).mono (key (by omega)),?_⟩;have hx2:Ht h z w (val h t (ai h t (a.take (2^h)) i)) (2*H+cW):=by
    rw[val_mul L' (ah ha) hl];exact h1.mul Z' hri
   have hm4:rS cW h (2*H+cW)≤rS cW h (2*H+rS cW h (2*H)+2+2*cW):=gJ (by omega);exact(ih (ae (a:=a.take (2^h)) (b:=i)) hx2).mono (key (by omega))
  refine⟨(ih aI h3).mono (key (by omega)),fun n hn he=>?_⟩;have k1:=Ht.sqrt Z' E'.wb ((E'.lk.js L' _).1 (.of hn)) he h3;have k2:=h1.add Z' k1;rw[←val_add (ah ha) hn]at k2;have k3:=k2.mul Z' Ht.half;have hhl:(wE h).length=2^h:=aG;rw[show q ((2:Rat)⁻¹)=val h t (wE h)from cG.symm,←val_mul L' (ao (ah ha) hn) hhl]at k3;have k3:=k3.mono (K:=2*H+rS cW h (2*H)+2) (by omega);refine⟨(E'.qb hn k1).mono (key (by omega)),(E'.qb (ao (ah ha) hn) k2).mono (key (by omega)),(ih ae k3).mono (key (by omega)),fun p hp hpe=>?_⟩;have k4:=Ht.sqrt Z' E'.wb ((E'.lk.js L' _).1 (.of hp)) hpe k3;have k5:=Ht.two.mul Z' k4;rw[←C6,←val_add hp hp]at k5;refine⟨(E'.qb hp k4).mono (key (by omega)),(lS.of E' hp k4).mono (key (by omega)),(lS.of E' (ao hp hp) k5).mono (key (by omega)),fun i hi=>?_,fun i hi=>(E'.Dj (ao hp hp) k5 hi).mono (key (by omega))⟩;obtain⟨hl,hv⟩:=dc L' hp hi;have k6:=k4.inv hv;have k7:=h2.mul Z' k6;rw[←val_mul L' (ag ha) hl]at k7;exact⟨(E'.qb hl k6).mono (key (by omega)),(E'.qb ae k7).mono (key (by omega))⟩
end
end Go.Tw
/-
  What the square roots of radicands and of short numbers need.
-/
namespace Go.Tw
open Go Go.R Go.Eng
section
variable {A:List R}
theorem TG.ev (S:Src 64 A)(hA:A.length≤3){t:List El}(T:TG A t):∃(z:List El) (w d:Nat→Nat),Ev t.length t z w d∧(∀a,a∈A→In t.length t (R.sqrt a)→Ht t.length z w (R.sqrt a) (Aq t.length))∧∀a,a∈A→In t.length t a→Ht t.length z w a cW:=by
 obtain⟨h3,z,w,d,Z,L,hwd,h1,h2⟩:=T.env S hA;exact⟨z,w,d,⟨T.rd,Z,L,fun i hi=>(hwd i hi).1,fun i hi=>(hwd i hi).2.1,fun i hi=>(hwd i hi).2.2⟩,h1,h2⟩
theorem TG.j6 (S:Src 64 A)(hA:A.length≤3){t:List El}(T:TG A t):t.length≤3:=(T.env S hA).1
theorem ax.ev (S:Src 64 A)(hA:A.length≤3){t:List El}{a:El}{x:R}{β μ:Nat}(h:ax A t a x β μ):∃(z:List El) (w d:Nat→Nat),Ev t.length t z w d∧Ht t.length z w (Tw.val t.length t a) (β+μ*Aq t.length):=by
 obtain⟨z,w,d,E,h1,_⟩:=h.tg.ev S hA;refine⟨z,w,d,E,?_⟩;rw[h.val];exact(h.sz (Aq t.length)).ht E.zt (fun y H ⟨⟨a,ha,e⟩,hi,hc⟩=>by rw[e]at hi⊢;rw[hc];exact h1 a ha hi)
theorem ax.OT (S:Src 64 A)(hA:A.length≤3){t:List El}{a:El}{x:R}{β μ:Nat}(h:ax A t a x β μ):gT (qN t.length β μ) t.length t a:=by
 obtain⟨z,w,d,E,hx⟩:=h.ev S hA;exact gT.of E h.len hx
theorem ax.Ql (S:Src 64 A)(hA:A.length≤3){t:List El}{a:El}{x:R}{β μ:Nat}(h:ax A t a x β μ):lS (qN t.length β μ) t.length t a:=by
 obtain⟨z,w,d,E,hx⟩:=h.ev S hA;exact lS.of E h.len hx
theorem Ev.basis {h:Nat}{t z:List El}{w d:Nat→Nat}(E:Ev h t z w d){j:Nat}(hj:j<h):Ht h z w (R.sqrt (val j t (t.getD j []))) (2*cW):=by
 have h1:=(Ht.root (h:=j) (z:=z) (w:=w) (E.wb j hj)).le (show j+1≤h by omega);have hr:=(E.lk.le (show j+1≤h by omega)).root (E.rd.rl.le (by omega));have hd:=ot (E.lk.d0 j hj);have h4:=h1.mul E.zt (Ht.IB (E.lk.d0 j hj) (E.db j hj));rw[hr,mul_comm,←mul_assoc,mul_comm (q ((d j:Rat)⁻¹)),hd,one_mul]at h4;exact h4.mono (by omega)
theorem Ev.short {h:Nat}{t z:List El}{w d:Nat→Nat}(E:Ev h t z w d){a:El}{B:Nat}(ha:a.length=2^h)(hb:iC B a):Ht h z w (val h t a) (fE B (2*cW) h):=
 Ht.expr E.zt ha hb fun _ hj=>E.basis hj
def jK:Nat:=2^26
theorem o8:∀h,h≤2→bW h (2*rS cW h (2*cW)+4*cW+4)≤jK∧bW h (2*rS cW h (fE 64 (2*cW) h)+4*cW+4)≤jK:=by
 intro h hh
 match h,hh with
 |0,_=>decide+kernel
 |1,_=>decide+kernel
 |2,_=>decide+kernel
theorem xB:bW 3 cW≤jK∧bW 2 cW≤jK∧bW 2 (2*cW)≤jK:=by decide+kernel
theorem TG.full {t:List El}(T:TG A t)(hA:A.length≤3)(h3:t.length=3){a:R}(ha:a∈A):∃j,j<3∧val j t (t.getD j [])=a:=by
 obtain⟨σ,hσ,hi⟩:=T.CL;obtain⟨k,hk,rfl⟩:=List.mem_iff_getElem.1 ha;have ek:A.getD k (q 0)=A[k]:=by rw[X7,X8 hk];rfl
 have s0:=hσ 0 (by omega);have s1:=hσ 1 (by omega);have s2:=hσ 2 (by omega);have b01:=hi 0 1 (by omega) (by omega);have b02:=hi 0 2 (by omega) (by omega);have b12:=hi 1 2 (by omega) (by omega)
 have:σ 0=k∨σ 1=k∨σ 2=k:=by omega
 rcases this with e|e|e
 ·exact⟨0,by omega,by rw[s0.2,e,ek]⟩
 ·exact⟨1,by omega,by rw[s1.2,e,ek]⟩
 exact⟨2,by omega,by rw[s2.2,e,ek]⟩
theorem TG.QN (S:Src 64 A)(hA:A.length≤3){t:List El}(T:TG A t){e:El}(he:e.length=2^t.length)(hv:val t.length t e∈A):kM jK t.length t e:=by
 obtain⟨z,w,d,E,_,h2⟩:=T.ev S hA;have hx:=h2 _ hv (.of he);have h3:=T.j6 S hA
 by_cases h2':t.length≤2
 ·exact(kM.of E he hx).mono (Nat.le_trans (oi (Nat.mul_le_mul_left _ (by have:=gJ (W:=cW) (h:=t.length) (show cW≤2*cW by omega);omega))) (o8 _ h2').1)
 have h3:t.length=3:=by omega
 obtain⟨j,hj,ej⟩:=T.full hA h3 hv;rw[h3]at E he hx ej⊢;have E2:=E.le (show 2≤3 by omega);have hin:In 2 t (val 3 t e):=by
  rw[←ej];exact(In.of (E.rd.rl j hj).1).le (by omega)
 obtain⟨p,hp,ep⟩:=hin;have e1:val 3 t (p++zE (2^2))=val 3 t e:=by rw[kV (h:=2) hp,ep]
 have e2:e=p++zE (2^2):=(val_inj E.rd (by rw[X6,hp,au]) he e1).symm;have et:e.take (2^2)=p:=by rw[e2,List.take_append_of_le_length (by omega),List.take_of_length_le (by omega)]
 have ed:e.drop (2^2)=zE (2^2):=by rw[e2,List.drop_append_of_le_length (by omega),List.drop_of_length_le (by omega),List.nil_append]
 have hpx:Ht 2 z w (val 2 t p) cW:=by
  rw[ep,←ej];exact(E.rb j hj).le (by omega)
 have hr:Ht 2 z w (val 2 t (t.getD 2 [])) cW:=E.pQ;have hrl:=(E.rd.rl 2 (by omega)).1;refine kM.low E he ed ((gT.of E he hx).mono xB.1) ?_ ((lS.of E2 hrl hr).mono xB.2.1) fun i hi=>?_
 ·rw[et];exact(kM.of E2 hp hpx).mono (Nat.le_trans (oi (Nat.mul_le_mul_left _ (by have:=gJ (W:=cW) (h:=2) (show cW≤2*cW by omega);omega))) (o8 2 (by omega)).1)
 obtain⟨hl,hvi⟩:=dc E2.rd.rl hrl hi;refine⟨(E2.Dj hrl hr hi).mono xB.2.1,?_⟩;rw[et];have hx2:Ht 2 z w (val 2 t (ai 2 t p i)) (2*cW):=by
  rw[val_mul E2.rd.rl hp hl];exact(hpx.mul E2.zt (hr.inv hvi)).mono (by omega)
 exact(kM.of E2 ae hx2).mono (o8 2 (by omega)).1
theorem TG.PW (S:Src 64 A)(hA:A.length≤3){t:List El}(T:TG A t)(h2:t.length≤2){e:El}(he:e.length=2^t.length)(hb:iC 64 e):kM jK t.length t e:=by
 obtain⟨z,w,d,E,_,_⟩:=T.ev S hA;exact(kM.of E he (E.short he hb)).mono (o8 _ h2).2
theorem TG.OT (S:Src 64 A)(hA:A.length≤3){t:List El}(T:TG A t){i:Nat}(hi:i<t.length):kM jK i t (t.getD i []):=by
 obtain⟨z,w,d,E,_,h2⟩:=T.ev S hA;have h3:=T.j6 S hA;have Ei:=E.le (Nat.le_of_lt hi);exact(kM.of Ei (E.rd.rl i hi).1 (E.rb i hi)).mono (Nat.le_trans (oi (Nat.mul_le_mul_left _ (by have:=gJ (W:=cW) (h:=i) (show cW≤2*cW by omega);omega))) (o8 _ (by omega)).1)
end
end Go.Tw
namespace Go.Proofs.YtgcmkdgpaibpeaaGreat
open Go.Proofs.Tryz
open Go Go.Eng
open Go.Tw (El)
def fQ (l:List Rat)(i:Nat):Nat→C:=qC (l.getD i default)
theorem HR (l:List Rat):aa l= .rows 4 l.length (fQ l):=rfl
def Qk (l:List Rat):Prop:=∀x∈l,qm x<2^38
theorem Qk.of {l:List Rat}{B:Nat}(h:Tw.QB B l)(hB:B<2^38):Qk l:=fun x hx=>Nat.lt_of_le_of_lt (h x hx) hB
theorem Qk.get {l:List Rat}(h:Qk l)(i:Nat):qm (l.getD i default)<2^38:=by
 rw[X7]
 cases e:l[i]? with
 |none=>exact Nat.lt_of_le_of_lt (show qm (default:Rat)≤1 by decide+kernel) (by decide)
 |some x=>exact h x (List.mem_of_getElem? e)
theorem vT (q:Rat)(hq:qm q<2^40):Pr prog 183 [QV q] (.one (.bool true)):=by
 have h:=xr (zs q.num) (zs (q.den:Int)) (zm q.num) (zm (q.den:Int)) (ql _) (ql _) (by unfold qm at hq;rw[aU];omega) (by unfold qm at hq;rw[aU,aE];omega);rw[LS]at h;exact h
theorem En (q:Rat)(hq:qm q<2^40):Pr prog 182 [QV q] (.one (.bool false)):=by
 refine pw func182 ⟨[0,1,2],[]⟩ ?_;simp only[Tryz.f182,ntmps182,iz,seval];simp only[vx,T,seval,QV,QC];refine Cg (vT q hq) ?_;simp only[vx,T,seval];exact Ve rfl
theorem vq {z:Int}:bJ z=0↔z=0:=by unfold bJ;(repeat' split)<;>omega
theorem BW (q:Rat)(hq:qm q<2^40):Pr prog 199 [QV q] (.one (.bool (decide (q≠0)))):=by
 refine pw func199 ⟨[0,1,2],[]⟩ ?_;simp only[Tryz.f199,ntmps199,iz,seval];simp only[vx,T,seval,QV,QC];refine Cg (j0 q hq) ?_;simp only[vx,T,seval];refine vb ?_
 have:bJ q.num≠0↔q≠0:=by rw[Ne,vq,Rat.num_eq_zero]
 exact decide_eq_decide.2 this
def MI (p:Rat→Bool)(xs:List Rat):Int:=if xs.findIdx p<xs.length then(xs.findIdx p:Int)else-1
theorem Jq (p:Rat→Bool)(xs:List Rat):decide (0≤MI p xs)=xs.any p:=by
 unfold MI;rw[Bool.eq_iff_iff,decide_eq_true_eq,List.any_eq_true,←List.findIdx_lt_length]
 split<;>rename_i h
 ·exact⟨fun _=>h,fun _=>by omega⟩
 exact⟨fun k=>by omega,fun k=>absurd k h⟩
theorem eK {xs:List Rat}{i:Nat}(h:i<xs.length):xs.getD i default=xs[i]:=by
 rw[X7,X8 h];rfl
theorem Hk (f:FuncId)(p:Rat→Bool)(xs:List Rat)(hl:xs.length<2^38)(hf:∀i,i<xs.length→Pr prog f [QV (xs.getD i default)] (.one (.bool (p (xs.getD i default))))):
  Pr prog 207 [eV xs,.one (.fn f 0 (fun _=>.any))] (.one (.int .i64 (MI p xs))):=by
 refine pw func207 ⟨[0,1,4,5,7,8,9,16],[]⟩ ?_;simp only[Tryz.f207,ntmps207,iz,seval];simp only[vx,T,seval,eV,aa];refine Lk (fun y:{i:Nat//i≤xs.length∧∀k,k<i→p (xs.getD k default)=false}=>⟨[(0,eV xs),(1,.one (.fn f 0 (fun _=>.any))),(7,.one (.int .i64 xs.length)),(8,.one (.int .i64 y.1))],[],1,19⟩) (fun y=>xs.length-y.1) ⟨0,Nat.zero_le _,fun k h=>absurd h (Nat.not_lt_zero _)⟩ ?_ (fun⟨i,hi,hz⟩=>?_)
 ·refine Sa ?_;simp only[ry,seval,rz,eV,aa]
 have i1:=wI i (by omega);simp only[vx,T,seval,eV,aa];refine⟨fun h1=>Lg ?_,fun h1=>Lg ?_⟩
 ·have hfi:=hf i (by omega);obtain⟨a,ha⟩:∃a,a=xs.getD i default:=⟨_,rfl⟩;rw[←ha]at hfi;simp only[vx,T,seval,eV,aa,←ha,qC];refine⟨by omega,Cg hfi ?_⟩;simp only[vx,T,seval];refine⟨fun h2=>Lg ?_,fun h2=>Lg ?_⟩
  ·have e1:xs.findIdx p=i:=by
    rw[List.findIdx_eq (by omega)];refine⟨by rw[←eK (by omega),←ha];simpa using h2,fun j hj=>?_⟩;rw[←eK (by omega)];exact hz j hj
   have e2:MI p xs=i:=by unfold MI;rw[e1,if_pos (by omega)]
   simp only[vx,T,seval,e2];exact Ve rfl
  simp only[vx,T,seval];simp only[i1];refine Lq ⟨i+1,by omega,fun k hk=>?_⟩ ?_ ?_
  ·by_cases h3:k<i
   ·exact hz k h3
   rw[show k=i by omega,←ha];simpa using h2
  ·refine Sa ?_;simp only[ry,seval,rz,eV,aa]
  simp only;omega
 have e1:xs.findIdx p=xs.length:=by
  rw[List.findIdx_eq_length];intro x hx;obtain⟨k,hk,rfl⟩:=List.mem_iff_getElem.1 hx;rw[←eK hk];exact hz k (by omega)
 have e2:MI p xs= -1:=by unfold MI;rw[if_neg (by omega)]
 simp only[vx,T,seval,e2];exact Ve rfl
theorem vQ (f:FuncId)(p:Rat→Bool)(xs:List Rat)(hl:xs.length<2^38)(hf:∀i,i<xs.length→Pr prog f [QV (xs.getD i default)] (.one (.bool (p (xs.getD i default))))):
  Pr prog 181 [eV xs,.one (.fn f 0 (fun _=>.any))] (.one (.bool (xs.any p))):=by
 refine pw func181 ⟨[0,1,4],[]⟩ ?_;simp only[Tryz.f181,ntmps181,iz,seval];simp only[vx,T,seval,eV,aa];refine Cg (Hk f p xs hl hf) ?_;simp only[vx,T,seval];exact vb (Jq p xs)
theorem lK (a:El)(n:Nat)(hl:a.length=n)(hn:n<2^38)(hq:Qk a):Pr prog 146 [eV a,.one (.int .i64 n)] (.one (.bool true)):=by
 have hc:=vQ 182 (fun _=>false) a (by omega) (fun i hi=>En _ (Nat.lt_trans (hq.get i) (by decide)));rw[show a.any (fun _=>false)=false from List.any_eq_false.2 (fun _ _=>by simp)]at hc;subst hl;refine pw func146 ⟨[0,1,4],[]⟩ ?_;simp only[Tryz.f146,ntmps146,iz,seval];simp only[vx,T,seval,eV,aa];refine Cg hc ?_;simp only[vx,T,seval];exact Ve rfl
structure Tk (h:Nat) (t:List El):Prop where
 le8:h≤8
 len:∀i,i<h→(t.getD i []).length=2^i
 q:∀i,i<h→Qk (t.getD i [])
theorem Tk.le {h k:Nat}{t:List El}(T:Tk h t)(hk:k≤h):Tk k t:=⟨by have:=T.le8;omega,fun i hi=>T.len i (by omega),fun i hi=>T.q i (by omega)⟩
theorem dL {h:Nat}(hh:h≤8):IntKind.i64.wrap (1*2^(if h≤64 then h else 64))=((2^h:Nat):Int):=by
 rw[if_pos (by omega),Int.one_mul,IntWalk.i64_in]
 ·rw[Int.natCast_pow];rfl
 have:2^h≤2^8:=Nat.pow_le_pow_right (by decide) hh
 have e:((2:Int)^h)=((2^h:Nat):Int):=by rw[Int.natCast_pow];rfl
 rw[e];generalize 2^h=q at this⊢;constructor<;>omega
theorem aN {h:Nat}(hh:h≤8):2^h<2^38:=Nat.lt_of_le_of_lt (Nat.pow_le_pow_right (by decide) hh) (by decide)
theorem jt {h:Nat}{t:List El}(tk:Tk h t):Pr prog 145 [tV h t] (.one (.bool true)):=by
 have hh:=tk.le8;refine pw func145 ⟨[0,2,3,4,5,6,7,8,16],[]⟩ ?_;simp only[Tryz.f145,ntmps145,iz,seval];simp only[vx,T,seval,tV,tC];refine Lk (fun y:{i:Nat//i≤h}=>⟨[(5,tV h t),(6,.one (.int .i64 h)),(7,.one (.int .i64 y.1))],[],1,18⟩) (fun y=>h-y.1) ⟨0,Nat.zero_le _⟩ ?_ (fun⟨i,hi⟩=>?_)
 ·refine Sa ?_;simp only[ry,seval,rz,tV,tC]
 have i1:=wI i (by omega);simp only[vx,T,seval,tV,tC];refine⟨fun h1=>Lg ?_,fun h1=>Lg ?_⟩
 ·have hih:i<h:=by omega
  have hs:=dL (h:=i) (by omega);have hp:=aN (h:=i) (by omega);simp only[vx,T,seval,tV,tC,aa,hs];refine⟨by omega,by omega,Cg (lK (t.getD i []) (2^i) (tk.len i hih) hp (tk.q i hih)) ?_⟩;simp only[vx,T,seval];simp only[i1];refine Lq ⟨i+1,by omega⟩ ?_ ?_
  ·refine Sa ?_;simp only[ry,seval,rz,tV,tC]
  simp only;omega
 simp only[vx,T,seval];exact Ve rfl
open Go Go.Eng
open Go.Tw (El aC aJ zE ai au ar ao ae)
def wQ (l:List Rat)(i k j:Nat):C:=if k<i then fQ l k j else[C.bool false,C.nil,C.bool false,C.nil].getD j .any
theorem sI (l:List Rat)(k j:Nat):[C.bool false,C.nil,C.bool false,C.nil].getD j C.any=wQ l 0 k j:=by
 unfold wQ;rw[if_neg (Nat.not_lt_zero _)]
theorem Fx {l:List Rat}{n k:Nat}(h:k<n)(j:Nat):wQ l n k j=fQ l k j:=if_pos h
theorem dA (q:Rat){l:List Rat}{k:Nat}(e:l.getD k default=q)(j:Nat):[C.bool (zs q.num),C.ints .u32 (zm q.num),C.bool (zs (q.den:Int)),C.ints .u32 (zm (q.den:Int))].getD j C.any=fQ l k j:=by
 subst e
 match j with
 |0|1|2|3=>rfl
 |_+4=>rfl
theorem xj (q:Rat){l:List Rat}{i:Nat}(e:l.getD i default=q)(k j:Nat)(hj:j<4):
  bt (wQ l i) i 0 [C.bool (zs q.num),C.ints .u32 (zm q.num),C.bool (zs (q.den:Int)),C.ints .u32 (zm (q.den:Int))] k j=wQ l (i+1) k j:=by
 unfold bt
 by_cases h:k=i
 ·subst h;rw[if_pos rfl,if_pos (Nat.zero_le _),if_pos (by simpa using hj),Nat.sub_zero,dA q e,Fx (Nat.lt_succ_self _)]
 rw[if_neg h];unfold wQ
 by_cases h2:k<i
 ·rw[if_pos h2,if_pos (by omega)]
 rw[if_neg h2,if_neg (by omega)]
theorem wV {l:List Rat}{n:Nat}(h:l.length=n):Y5 [] 0 (Bk.rows 62 4 n (wQ l n)) (Bk.rows 62 4 l.length (fQ l)):=
 ⟨rfl,h.symm,fun _ j hi _=>Fx hi j⟩
theorem oN (n:Nat)(hn:n<2^38):Fr prog 198 [.one (.int .i64 n)] (.rows 62 4 (zE n).length (fQ (zE n))):=by
 refine fw func198 ⟨[0,2,3,4,8,9,10],[]⟩ ?_;simp only[Tryz.f198,ntmps198,iz,seval];simp only[vx,T,seval];refine⟨by omega,Lk (fun y:{i:Nat//i≤n}=>⟨[(3,.one (.own 1 4 0 n)),(8,.one (.int .i64 n)),(9,.one (.int .i64 y.1))],[(1,⟨.rows 62 4 n (wQ (zE n) y.1),true⟩)],2,18⟩) (fun y=>n-y.1) ⟨0,Nat.zero_le _⟩ ?_ (fun⟨i,hi⟩=>?_)⟩
 ·refine Sa ?_;simp only[ry,seval,rz];exact fun i j _ _=>sI _ i j
 have i1:=wI i (by omega);simp only[vx,T,seval];refine⟨fun h1=>Lg ?_,fun h1=>Lg ?_⟩
 ·have hil:i<n:=by omega
  simp only[vx,T,seval];refine Cg (cP 0 (by decide) (by decide)) ?_;simp only[vx,T,seval,QV,QC];simp only[i1];refine⟨by omega,Lq ⟨i+1,by omega⟩ ?_ ?_⟩
  ·refine Sa ?_;simp only[ry,seval,rz];exact fun k j _ hj=>xj _ (by simp[zE,X7,hil];rfl) k j hj
  simp only;omega
 have hil:i=n:=by omega
 subst hil;simp only[vx,T,seval];exact⟨au.symm,wV au⟩
theorem AP (q:Rat)(hq:qm q<2^40):Pr prog 147 [QV q] (QV (-q)):=by
 refine pw func147 ⟨[0,1,2],[]⟩ ?_;simp only[Tryz.f147,ntmps147,iz,seval];simp only[vx,T,seval,QV,QC];refine Cg (vo q.num (by unfold qm at hq;omega)) ?_;simp only[vx,T,seval,ZV];exact Ve rfl
theorem nF (a:El)(hl:a.length<2^38)(hq:Qk a):Fr prog 105 [eV a] (.rows 62 4 (aJ a).length (fQ (aJ a))):=by
 refine fw func105 ⟨[0,2,3,4,5,9,10,11,12],[]⟩ ?_;simp only[Tryz.f105,ntmps105,iz,seval];simp only[vx,T,seval,eV,aa];refine⟨by omega,Lk (fun y:{i:Nat//i≤a.length}=>⟨[(0,eV a),(3,.one (.own 1 4 0 a.length)),(9,eV a),(10,.one (.int .i64 a.length)),(11,.one (.int .i64 y.1))],[(1,⟨.rows 62 4 a.length (wQ (aJ a) y.1),true⟩)],2,23⟩) (fun y=>a.length-y.1) ⟨0,Nat.zero_le _⟩ ?_ (fun⟨i,hi⟩=>?_)⟩
 ·refine Sa ?_;simp only[ry,seval,rz,eV,aa];exact fun i j _ _=>sI _ i j
 have i1:=wI i (by omega);simp only[vx,T,seval,eV,aa];refine⟨fun h1=>Lg ?_,fun h1=>Lg ?_⟩
 ·have hil:i<a.length:=by omega
  have hxq:=hq.get i;have en:(aJ a).getD i default= -(a.getD i default):=by
   unfold aJ;rw[X7,List.getElem?_map,X8 hil,X7,X8 hil];rfl
  obtain⟨x,hx⟩:∃x,x=a.getD i default:=⟨_,rfl⟩;rw[←hx]at hxq en;simp only[vx,T,seval,eV,aa,←hx,qC];refine⟨by omega,Cg (AP x (by omega)) ?_⟩;simp only[vx,T,seval,QV,QC];simp only[i1];refine⟨by omega,Lq ⟨i+1,by omega⟩ ?_ ?_⟩
  ·refine Sa ?_;simp only[ry,seval,rz,eV,aa];exact fun k j _ hj=>xj _ en k j hj
  simp only;omega
 have hil:i=a.length:=by omega
 subst hil;simp only[vx,T,seval];exact⟨ar.symm,wV ar⟩
theorem kB (a b:El)(hl:a.length<2^38)(hab:b.length=a.length)(hqa:Qk a)(hqb:Qk b):Fr prog 185 [eV a,eV b] (.rows 62 4 (aC a b).length (fQ (aC a b))):=by
 refine fw func185 ⟨[0,1,4,5,6,11,12,13],[]⟩ ?_;simp only[Tryz.f185,ntmps185,iz,seval];simp only[vx,T,seval,eV,aa];refine⟨by omega,Lk (fun y:{i:Nat//i≤a.length}=>⟨[(0,eV a),(1,eV b),(5,.one (.own 1 4 0 a.length)),(11,.one (.int .i64 a.length)),(12,.one (.int .i64 y.1))],[(1,⟨.rows 62 4 a.length (wQ (aC a b) y.1),true⟩)],2,29⟩) (fun y=>a.length-y.1) ⟨0,Nat.zero_le _⟩ ?_ (fun⟨i,hi⟩=>?_)⟩
 ·refine Sa ?_;simp only[ry,seval,rz,eV,aa];exact fun i j _ _=>sI _ i j
 have i1:=wI i (by omega);simp only[vx,T,seval,eV,aa];refine⟨fun h1=>Lg ?_,fun h1=>Lg ?_⟩
 ·have hil:i<a.length:=by omega
  have hxq:=hqa.get i;have hyq:=hqb.get i;have en:(aC a b).getD i default=a.getD i default+b.getD i default:=by
   unfold aC;rw[X7,List.getElem?_zipWith,X8 hil,X7,X8 hil,X8 (by omega:i<b.length),X7,X8 (by omega:i<b.length)];rfl
  obtain⟨x,hx⟩:∃x,x=a.getD i default:=⟨_,rfl⟩;obtain⟨y,hy⟩:∃y,y=b.getD i default:=⟨_,rfl⟩;rw[←hx]at hxq en;rw[←hy]at hyq en;simp only[vx,T,seval,eV,aa,←hx,←hy,qC];refine⟨by omega,by omega,Cg (Be x y hxq hyq) ?_⟩;simp only[vx,T,seval,QV,QC];simp only[i1];refine⟨by omega,Lq ⟨i+1,by omega⟩ ?_ ?_⟩
  ·refine Sa ?_;simp only[ry,seval,rz,eV,aa];exact fun k j _ hj=>xj _ en k j hj
  simp only;omega
 have hil:i=a.length:=by omega
 subst hil;simp only[vx,T,seval];exact⟨(ao rfl hab).symm,wV (ao rfl hab)⟩
open Go Go.Eng
open Go.Tw (El aC aJ zE ai au ar ao ae QB mS ah ag)
theorem dj (a:El)(hl:a.length<2^38)(hq:Qk a):Pr prog 171 [eV a] (.one (.bool (decide (a=zE a.length)))):=by
 have hc:=vQ 199 (fun q=>decide (q≠0)) a hl (fun i hi=>BW _ (Nat.lt_trans (hq.get i) (by decide)));refine pw func171 ⟨[0,2],[]⟩ ?_;simp only[Tryz.f171,ntmps171,iz,seval];simp only[vx,T,seval,eV,aa];refine Cg hc ?_;simp only[vx,T,seval];refine vb ?_;rw[Bool.eq_iff_iff,Bool.not_eq_true',List.any_eq_false,decide_eq_true_eq]
 constructor
 ·intro h;refine List.eq_replicate_iff.2 ⟨rfl,fun b hb=>?_⟩
  have:=h b hb
  simpa using this
 intro h b hb;rw[h]at hb
 have:=List.eq_of_mem_replicate hb
 simp[this]
theorem dD {h:Nat}{t:List El}(tk:Tk h t)(a:El)(ha:a.length=2^h)(hq:Qk a):Pr prog 104 [tV h t,eV a] (.one (.bool true)):=by
 have hs:=dL tk.le8;have hn:=lK a (2^h) ha (aN tk.le8) hq;have hr:=jt tk;refine pw func104 ⟨[0,1,4],[]⟩ ?_;simp only[Tryz.f104,ntmps104,iz,seval];simp only[vx,T,seval,tV,tC,eV,aa];refine Cg hr ?_;simp only[vx,T,seval,hs];refine⟨Int.natCast_nonneg _,Cg hn ?_⟩;simp only[vx,T,seval];exact Ve rfl
theorem lD {h:Nat}{t:List El}(tk:Tk h t)(a b:El)(ha:a.length=2^h)(hb:b.length=2^h)(hq:Qk a)(hqb:Qk b):Pr prog 178 [tV h t,eV a,eV b] (.one (.bool true)):=by
 have hs:=dL tk.le8;have hn:=lK b (2^h) hb (aN tk.le8) hqb;have hr:=dD tk a ha hq;refine pw func178 ⟨[0,1,2,6],[]⟩ ?_;simp only[Tryz.f178,ntmps178,iz,seval];simp only[vx,T,seval,tV,tC,eV,aa];refine Cg hr ?_;simp only[vx,T,seval,hs];refine⟨Int.natCast_nonneg _,Cg hn ?_⟩;simp only[vx,T,seval];exact Ve rfl
theorem l6 {h:Nat}{t:List El}(hh:h<2^38):Pr prog 203 [tV (h+1) t] (.aA [tV h t,eV (t.getD h [])]):=by
 have w1:IntKind.i64.wrap (((h+1:Nat):Int)-1)=(h:Int):=by rw[IntWalk.i64_in _ (by omega)];omega
 refine pw func203 ⟨[0,2,3],[(1,.nil)]⟩ ?_;simp only[Tryz.f203,ntmps203,iz,seval];simp only[vx,T,seval,tV,tC,aa,w1];exact⟨by omega,by omega,Ve rfl⟩
theorem DD {a:El}{n i:Nat}(h:i<n)(j:Nat):fQ a i j=fQ (a.take n) i j:=by
 unfold fQ;rw[X7,X7,List.getElem?_take_of_lt h]
theorem De {a:El}{n:Nat}(i j:Nat):fQ a (n+i) j=fQ (a.drop n) i j:=by
 unfold fQ;rw[X7,X7,List.getElem?_drop]
theorem iU {h:Nat}(hh:h<38){a:El}(ha:a.length=2^(h+1)):Pr prog 204 [eV a] (.aA [eV (a.take (2^h)),eV (a.drop (2^h))]):=by
 have hp:2^h<2^38:=Nat.pow_lt_pow_right (by decide) hh;obtain⟨n,hn⟩:∃n,n=2^h:=⟨_,rfl⟩;have ha2:a.length=2*n:=by rw[ha,Nat.pow_succ,hn];omega
 rw[←hn]at hp⊢;have w1:IntKind.i64.wrap (((a.length:Nat):Int).tdiv 2)=(n:Int):=by
  rw[ha2,Int.tdiv_eq_ediv_of_nonneg (by omega),IntWalk.i64_in _ (by omega)];omega
 refine pw func204 ⟨[0,2,3],[(1,.nil)]⟩ ?_;simp only[Tryz.f204,ntmps204,iz,seval];simp only[vx,T,seval,eV,aa,w1];refine⟨by omega,by omega,Va ⟨⟨rfl,by rw[X5];omega,fun i j hi _=>DD hi j⟩,⟨rfl,by rw[List.length_drop];omega,fun i j hi _=>De i j⟩,trivial⟩⟩
open Go Go.Eng
open Go.Tw (El aC aJ zE ai au ar ao ae QB mS ah ag)
theorem kS (a b:El)(i j:Nat):(if i<a.length then fQ a i j else fQ b (i-a.length) j)=fQ (a++b) i j:=by
 unfold fQ
 by_cases h:i<a.length
 ·rw[if_pos h,X7,X7,List.getElem?_append_left h]
 rw[if_neg h,X7,X7,List.getElem?_append_right (by omega)]
theorem B5 {a b:El}{t:List El}(ha:a.length=2^0)(hb:b.length=2^0)(qa:Qk a)(qb:Qk b):
  Fr prog 179 [tV 0 t,eV a,eV b] (.rows 62 4 (ai 0 t a b).length (fQ (ai 0 t a b))):=by
 have hxq:=qa.get 0;have hyq:=qb.get 0;have em:ai 0 t a b=[a.getD 0 default*b.getD 0 default]:=rfl;obtain⟨x,hx⟩:∃x,x=a.getD 0 default:=⟨_,rfl⟩;obtain⟨y,hy⟩:∃y,y=b.getD 0 default:=⟨_,rfl⟩;rw[←hx,←hy]at em;rw[←hx]at hxq;rw[←hy]at hyq;refine fw func179 ⟨[0,1,2,6,7,8,9,10,11,12,13,14,26],[]⟩ ?_;simp only[Tryz.f179,ntmps179,iz,seval];simp only[vx,T,seval,tV,tC,eV,aa,←hx,←hy,qC];refine⟨by omega,by omega,Cg (BF x y hxq hyq) ?_⟩;simp only[vx,T,seval,QV,QC];rw[em];refine⟨rfl,rfl,rfl,fun i j hi hj=>?_⟩;obtain rfl:i=0:=by omega
 show List.getD _ (0*4+j) _=_;rw[Nat.zero_mul,Nat.zero_add];exact dA (x*y) rfl j
theorem tR {a b:El}{h:Nat}{t:List El}(hh:h+1<38)(ha:a.length=2^(h+1))(hb:b.length=2^(h+1))(qa:Qk a)(qb:Qk b)(hz:a=zE (2^(h+1))∨b=zE (2^(h+1))):
  Fr prog 179 [tV (h+1) t,eV a,eV b] (.rows 62 4 (ai (h+1) t a b).length (fQ (ai (h+1) t a b))):=by
 have hp:2^(h+1)<2^38:=Nat.pow_lt_pow_right (by decide) hh;have em:ai (h+1) t a b=zE a.length:=by
  rw[ha]
  rcases hz with rfl|rfl
  ·exact Go.Tw.bF
  exact Go.Tw.fT
 rw[em];have ca:=dj a (by omega) qa;have cb:=dj b (by omega) qb;have cz:=oN a.length (by omega);obtain⟨za,hza⟩:∃za,za=decide (a=zE a.length):=⟨_,rfl⟩;rw[←hza]at ca;refine fw func179 ⟨[0,1,2,6,7,8,9,10,11,12,13,14,26],[]⟩ ?_;simp only[Tryz.f179,ntmps179,iz,seval];simp only[vx,T,seval,tV,tC,eV,aa];refine⟨fun h=>absurd h (by omega),fun _=>Lg ?_⟩;simp only[vx,T,seval,tV,tC,eV,aa];refine Cg ca ?_
 cases za with
 |true=>
  simp only[vx,T,seval];refine cF.fresh cz ?_;simp only[vx,T,seval];exact⟨rfl,rfl,fun _ _ _ _=>rfl⟩
 |false=>
  have hzb:b=zE b.length:=by
   rcases hz with rfl|rfl
   ·exact absurd hza (by rw[au,decide_eq_true rfl];decide)
   rw[au]
  rw[decide_eq_true hzb]at cb;simp only[vx,T,seval];refine Cg cb ?_;simp only[vx,T,seval];refine cF.fresh cz ?_;simp only[vx,T,seval];exact⟨rfl,rfl,fun _ _ _ _=>rfl⟩
theorem AE {t:List El}{C:Nat}(hC:1≤C){h:Nat}(ih:∀{a b:El} {A B:Nat},1≤A→1≤B→a.length=2^h→b.length=2^h→QB A a→QB B b→mS h (A+B) C<2^38→
  Fr prog 179 [tV h t,eV a,eV b] (.rows 62 4 (ai h t a b).length (fQ (ai h t a b)))) {a b:El} {A B:Nat} (tk:Tk (h+1) t) (ht:∀i,i<h+1→QB C (t.getD i [])) (h1:1≤A) (h2:1≤B) (ha:a.length=2^(h+1)) (hb:b.length=2^(h+1)) (qa:QB A a) (qb:QB B b) (hs:mS (h+1) (A+B) C<2^38) (nza:a≠zE (2^(h+1))) (nzb:b≠zE (2^(h+1))):
  Fr prog 179 [tV (h+1) t,eV a,eV b] (.rows 62 4 (ai (h+1) t a b).length (fQ (ai (h+1) t a b))):=by
 have hh:=tk.le8;have hp:2^(h+1)<2^38:=Nat.pow_lt_pow_right (by decide) (by omega);have hge:=Go.Tw.gV (h:=h) (S:=A+B) (C:=C);have hge2:=Go.Tw.gV (h:=h) (S:=mS h (A+B) C+C) (C:=C);rw[mS]at hs;have qka:Qk a:=.of qa (by omega);have qkb:Qk b:=.of qb (by omega);have ca:=dj a (by omega) qka;have cb:=dj b (by omega) qkb;rw[ha,decide_eq_false nza]at ca;rw[hb,decide_eq_false nzb]at cb;have cs:=l6 (h:=h) (t:=t) (by omega);have cx:=iU (h:=h) (by omega) ha;have cy:=iU (h:=h) (by omega) hb;have la1:=ah ha;have la2:=ag ha;have lb1:=ah hb;have lb2:=ag hb;have ht':∀i,i<h→QB C (t.getD i []):=fun i hi=>ht i (by omega);have m1:=ih h1 h2 la1 lb1 (qa.take _) (qb.take _) (by omega);have m2:=ih h1 h2 la2 lb2 (qa.drop _) (qb.drop _) (by omega);have g1:=QB.mul hC ht' h1 h2 (qa.take (2^h)) (qb.take (2^h));have g2:=QB.mul hC ht' h1 h2 (qa.drop (2^h)) (qb.drop (2^h));have g3:=QB.mul hC ht' h1 h2 (qa.take (2^h)) (qb.drop (2^h));have g4:=QB.mul hC ht' h1 h2 (qa.drop (2^h)) (qb.take (2^h));have m5:=ih (by omega) hC ae (tk.len h (by omega)) g2 (ht h (by omega)) (by omega);have g5:=QB.mul hC ht' (by omega) hC g2 (ht h (by omega));have m3:=ih h1 h2 la1 lb2 (qa.take _) (qb.drop _) (by omega);have m4:=ih h1 h2 la2 lb1 (qa.drop _) (qb.take _) (by omega);have hph:2^h<2^38:=Nat.pow_lt_pow_right (by decide) (by omega);have a1:=kB _ _ (by rw[ae];omega) (by rw[ae,ae]) (Qk.of g1 (by omega)) (Qk.of g5 (by omega));have a2:=kB _ _ (by rw[ae];omega) (by rw[ae,ae]) (Qk.of g3 (by omega)) (Qk.of g4 (by omega));clear g1 g2 g3 g4 g5 ih;obtain⟨x,hx⟩:∃x,x=a.take (2^h):=⟨_,rfl⟩;obtain⟨y,hy⟩:∃y,y=a.drop (2^h):=⟨_,rfl⟩;obtain⟨u,hu⟩:∃u,u=b.take (2^h):=⟨_,rfl⟩;obtain⟨v,hv⟩:∃v,v=b.drop (2^h):=⟨_,rfl⟩;obtain⟨r,hr⟩:∃r,r=t.getD h []:=⟨_,rfl⟩;rw[←hr]at cs m5 a1;rw[←hx,←hy]at cx;rw[←hu,←hv]at cy;rw[←hx,←hu]at m1;rw[←hy,←hv]at m2 m5;rw[←hx,←hv]at m3;rw[←hy,←hu]at m4;rw[←hx,←hu,←hy,←hv]at a1;rw[←hx,←hv,←hy,←hu]at a2;have em:ai (h+1) t a b=aC (ai h t x u) (ai h t (ai h t y v) r)++aC (ai h t x v) (ai h t y u):=by rw[hx,hy,hu,hv,hr,Go.Tw.ai]
 rw[em];obtain⟨p1,hp1⟩:∃p,p=ai h t x u:=⟨_,rfl⟩;obtain⟨p2,hp2⟩:∃p,p=ai h t y v:=⟨_,rfl⟩;rw[←hp2]at m2 m5 a1⊢;obtain⟨p5,hp5⟩:∃p,p=ai h t p2 r:=⟨_,rfl⟩;obtain⟨p3,hp3⟩:∃p,p=ai h t x v:=⟨_,rfl⟩;obtain⟨p4,hp4⟩:∃p,p=ai h t y u:=⟨_,rfl⟩;rw[←hp1]at m1 a1⊢;rw[←hp5]at m5 a1⊢;rw[←hp3]at m3 a2⊢;rw[←hp4]at m4 a2⊢;obtain⟨s1,hs1⟩:∃p,p=aC p1 p5:=⟨_,rfl⟩;obtain⟨s2,hs2⟩:∃p,p=aC p3 p4:=⟨_,rfl⟩;have l1:s1.length=2^h:=by rw[hs1];exact ao (by rw[hp1,ae]) (by rw[hp5,ae])
 have l2:s2.length=2^h:=by rw[hs2];exact ao (by rw[hp3,ae]) (by rw[hp4,ae])
 rw[←hs1]at a1⊢;rw[←hs2]at a2⊢;refine fw func179 ⟨[0,1,2,6,7,8,9,10,11,12,13,14,26],[]⟩ ?_;simp only[Tryz.f179,ntmps179,iz,seval];simp only[vx,T,seval,tV,tC,eV,aa];refine⟨fun h=>absurd h (by omega),fun _=>Lg ?_⟩;simp only[vx,T,seval,tV,tC,eV,aa];refine Cg ca ?_;simp only[vx,T,seval];refine Cg cb ?_;simp only[vx,T,seval];refine Cg cs ?_;simp only[vx,T,seval,tV,tC,eV,aa];refine Cg cx ?_;simp only[vx,T,seval,tV,tC,eV,aa];refine Cg cy ?_;simp only[vx,T,seval,tV,tC,eV,aa];refine Cg m1.rows ?_;simp only[vx,T,seval,tV,tC,eV,aa];refine Cg m2.rows ?_;simp only[vx,T,seval,tV,tC,eV,aa];refine Cg m5.rows ?_;simp only[vx,T,seval,tV,tC,eV,aa];refine cF.fresh a1 ?_;simp only[vx,T,seval,tV,tC,eV,aa];refine Cg m3.rows ?_;simp only[vx,T,seval,tV,tC,eV,aa];refine Cg m4.rows ?_;simp only[vx,T,seval,tV,tC,eV,aa];refine Cg a2.rows ?_;simp only[vx,T,seval,tV,tC,eV,aa];exact⟨⟨by omega,by omega⟩,List.length_append.symm,rfl,List.length_append.symm,fun i j _ _=>kS s1 s2 i j⟩
theorem ko {t:List El}{C:Nat}(hC:1≤C):∀{h:Nat} {a b:El} {A B:Nat},Tk h t→(∀i,i<h→QB C (t.getD i []))→1≤A→1≤B→a.length=2^h→b.length=2^h→QB A a→QB B b→mS h (A+B) C<2^38→
  Fr prog 179 [tV h t,eV a,eV b] (.rows 62 4 (ai h t a b).length (fQ (ai h t a b))):=by
 intro h
 induction h with
 |zero=>
  intro a b A B _ _ h1 h2 ha hb qa qb hs
  have:A+B<2^38:=hs
  exact B5 ha hb (.of qa (by omega)) (.of qb (by omega))
 |succ h ih=>
  intro a b A B tk ht h1 h2 ha hb qa qb hs;have hh:=tk.le8;have hge:=Go.Tw.gV (h:=h+1) (S:=A+B) (C:=C)
  by_cases za:a=zE (2^(h+1))
  ·exact tR (by omega) ha hb (.of qa (by omega)) (.of qb (by omega)) (.inl za)
  by_cases zb:b=zE (2^(h+1))
  ·exact tR (by omega) ha hb (.of qa (by omega)) (.of qb (by omega)) (.inr zb)
  exact AE hC (fun{a b A B} g1 g2 g3 g4 g5 g6 g7=>ih (tk.le (Nat.le_succ h)) (fun i hi=>ht i (by omega)) g1 g2 g3 g4 g5 g6 g7) tk ht h1 h2 ha hb qa qb hs za zb
open Go Go.Eng
open Go.Tw (El aC aJ zE ai au ar ao ae QB mS ah ag)
theorem fP.cell {c c':C}(h:dr c c'):fP (.one c) (.one c'):=fun ok w v hr=>aB.ba (h ok w v (aP.dX hr))
theorem fP.Oq {a a' b b':C}(h1:dr a a')(h2:dr b b'):fP (.agg [a,b]) (.agg [a',b']):=by
 intro ok w v hr;obtain⟨vs,e,hl⟩:=hr;refine⟨vs,e,?_⟩
 generalize vs.toList=l at hl⊢
 match l,hl with
 |[x,y],⟨k1,k2,_⟩=>exact⟨aB.ba (h1 ok w x (aP.dX k1)),aB.ba (h2 ok w y (aP.dX k2)),trivial⟩
theorem Cz {a b:Int}:eH a b=0↔a=b:=by unfold eH;split;omega;split<;>omega
theorem Ge {a b:Int}(h:¬bJ a=bJ b):eH (bJ a) (bJ b)=eH a b:=by
 unfold bJ eH at*;(repeat' split)<;>(repeat' split at h)<;>first|omega|rfl
theorem MG {a b:Int}(h:bJ a=bJ b):IntKind.i64.wrap (bJ a*eH (a.natAbs:Int) (b.natAbs:Int))=eH a b:=by
 have e:bJ a*eH (a.natAbs:Int) (b.natAbs:Int)=eH a b:=by
  rcases Int.lt_trichotomy a 0 with h0|h0|h0
  ·have e1:bJ a= -1:=by unfold bJ;rw[if_neg (by omega),if_pos h0]
   have e2:b<0:=by rw[e1]at h;unfold bJ at h;(repeat' split at h)<;>omega
   rw[e1];unfold eH;(repeat' split)<;>omega
  ·have e1:bJ a=0:=by unfold bJ;rw[if_pos h0]
   have e2:b=0:=by rw[e1]at h;unfold bJ at h;(repeat' split at h)<;>omega
   rw[e1];unfold eH;(repeat' split)<;>omega
  have e1:bJ a=1:=by unfold bJ;rw[if_neg (by omega),if_neg (by omega)]
  have e2:0<b:=by rw[e1]at h;unfold bJ at h;(repeat' split at h)<;>omega
  rw[e1];unfold eH;(repeat' split)<;>omega
 rw[e];refine IntWalk.i64_in _ ?_
 unfold eH;(repeat' split)<;>omega
theorem qp (a b:Int)(ha:zn a<2^42)(hb:zn b<2^42):Pr prog 214 [ZV a,ZV b] (.one (.int .i64 (eH a b))):=by
 have ca:=fJ a ha;have cb:=fJ b hb;have ta:=fK a (by omega);have tb:=fK b (by omega);refine pw func214 ⟨[0,1,2,3,4,5,6,13],[]⟩ ?_;simp only[Tryz.f214,ntmps214,iz,seval];simp only[vx,T,seval,ZV];refine Cg ca ?_;simp only[vx,T,seval,ZV];refine Cg cb ?_;simp only[vx,T,seval,ZV];refine⟨fun g=>Lg ?_,fun g=>Lg ?_⟩
 ·simp only[vx,T,seval,ZV];refine Cg (kE _ _) ?_;simp only[vx,T,seval,ZV];exact Ve (by rw[Ge g])
 simp only[vx,T,seval,ZV];refine Cg ta ?_;simp only[vx,T,seval,ZV];refine Cg tb ?_;simp only[vx,T,seval,ZV];refine Cg (gK a.natAbs b.natAbs (by unfold zn at ha;omega) (by unfold zn at hb;omega)) ?_;simp only[vx,T,seval,ZV];exact Ve (by rw[MG g])
theorem pL (q:Rat)(hq:qm q<2^40):Pr prog 134 [QV q] (QV q):=by
 have c1:=jR (zm q.num) (by unfold qm at hq;rw[aU];omega);have c2:=jR (zm (q.den:Int)) (by unfold qm at hq;rw[aU,aE];omega);refine pw func134 ⟨[0,1,2],[]⟩ ?_;simp only[Tryz.f134,ntmps134,iz,seval];simp only[vx,T,seval,QV,QC];refine Cg c1 ?_;simp only[vx,T,seval];refine Cg c2 ?_;simp only[vx,T,seval];exact Ve rfl
theorem nY (a:El)(hl:a.length<2^38)(hq:Qk a):Fr prog 103 [eV a] (.rows 62 4 a.length (fQ a)):=by
 refine fw func103 ⟨[0,2,3,4,5,9,10,11,12],[]⟩ ?_;simp only[Tryz.f103,ntmps103,iz,seval];simp only[vx,T,seval,eV,aa];refine⟨by omega,Lk (fun y:{i:Nat//i≤a.length}=>⟨[(0,eV a),(3,.one (.own 1 4 0 a.length)),(9,eV a),(10,.one (.int .i64 a.length)),(11,.one (.int .i64 y.1))],[(1,⟨.rows 62 4 a.length (wQ a y.1),true⟩)],2,23⟩) (fun y=>a.length-y.1) ⟨0,Nat.zero_le _⟩ ?_ (fun⟨i,hi⟩=>?_)⟩
 ·refine Sa ?_;simp only[ry,seval,rz,eV,aa];exact fun i j _ _=>sI _ i j
 have i1:=wI i (by omega);simp only[vx,T,seval,eV,aa];refine⟨fun h1=>Lg ?_,fun h1=>Lg ?_⟩
 ·have hil:i<a.length:=by omega
  have hxq:=hq.get i;obtain⟨x,hx⟩:∃x,x=a.getD i default:=⟨_,rfl⟩;rw[←hx]at hxq;simp only[vx,T,seval,eV,aa,←hx,qC];refine⟨by omega,Cg (pL x (by omega)) ?_⟩;simp only[vx,T,seval,QV,QC];simp only[i1];refine⟨by omega,Lq ⟨i+1,by omega⟩ ?_ ?_⟩
  ·refine Sa ?_;simp only[ry,seval,rz,eV,aa];exact fun k j _ hj=>xj _ hx.symm k j hj
  simp only;omega
 have hil:i=a.length:=by omega
 subst hil;simp only[vx,T,seval];exact wV rfl
theorem ru (a:El)(hl:a.length<2^38):Pr prog 168 [eV a] (eV a):=by
 refine pw func168 ⟨[0,2,4],[]⟩ ?_;simp only[Tryz.f168,ntmps168,iz,seval];simp only[vx,T,seval,eV,aa];intro b hb;refine Lg ?_;simp only[vx,T,seval];refine⟨fun g=>Lg ?_,fun g=>Lg ?_⟩
 ·simp only[vx,T,seval];have h0:a=[]:=by
   cases a with
   |nil=>rfl
   |cons x xs=>have:=hb (by simp);rw[this]at g;cases g
  subst h0;exact fP.cell (.pc _ _)
 simp only[vx,T,seval];exact⟨⟨by omega,by omega⟩,fP.refl _⟩
def nV (h:Nat)(t:List El)(a:El):V:=.agg [tC h t,aa a]
theorem uS (q:Rat)(hq:qm q<2^40)(t:List El):Pr prog 94 [QV q] (nV 0 t [q]):=by
 have c:=pL q hq;refine pw func94 ⟨[0,1,2],[]⟩ ?_;simp only[Tryz.f94,ntmps94,iz,seval];simp only[vx,T,seval,QV,QC];refine Cg c ?_;simp only[vx,T,seval,QV,QC];refine fP.Oq (.pc _ _) (.rows rfl fun i j hi hj=>.of_eq ?_);obtain rfl:i=0:=by omega
 show List.getD _ (0*4+j) _=_;rw[Nat.zero_mul,Nat.zero_add];exact dA q rfl j
open Go Go.Eng
open Go.Tw (El aC aJ zE ai au ar ao ae QB mS ah ag)
def Li (a b:Rat):Int:=eH (a.num*b.den) (b.num*a.den)
theorem kQ {a:Int}{n:Nat}(h:0<n):bJ (a*n)=bJ a:=by
 rcases Int.lt_trichotomy a 0 with h0|h0|h0
 ·have:a*n<0:=Int.mul_neg_of_neg_of_pos h0 (by omega)
  unfold bJ;rw[if_neg (by omega),if_pos this,if_neg (by omega),if_pos h0]
 ·subst h0;rw[Int.zero_mul]
 have:0<a*n:=Int.mul_pos h0 (by omega)
 unfold bJ;rw[if_neg (by omega),if_neg (by omega),if_neg (by omega),if_neg (by omega)]
theorem C8 {a b:Rat}(h:¬bJ a.num=bJ b.num):eH (bJ a.num) (bJ b.num)=Li a b:=by
 unfold Li;rw[←kQ (a:=a.num) b.den_pos,←kQ (a:=b.num) a.den_pos];rw[←kQ (a:=a.num) b.den_pos,←kQ (a:=b.num) a.den_pos]at h;exact Ge h
theorem Bh (a b:Rat)(ha:qm a<2^38)(hb:qm b<2^38):Pr prog 193 [QV a,QV b] (.one (.int .i64 (Li a b))):=by
 have ca:=j0 a (by omega);have cb:=j0 b (by omega);have na:zn a.num<2^38∧nl a.den<2^38:=by unfold qm at ha;omega
 have nb:zn b.num<2^38∧nl b.den<2^38:=by unfold qm at hb;omega
 have ma:=bO a.num (b.den:Int) (by omega) (by rw[aE];omega);have mb:=bO b.num (a.den:Int) (by omega) (by rw[aE];omega);have e1:=cQ a.num (b.den:Int);have e2:=cQ b.num (a.den:Int);rw[aE]at e1 e2;have cc:=qp (a.num*b.den) (b.num*a.den) (by omega) (by omega);refine pw func193 ⟨[0,1,2,3,4,5,6,13,16],[]⟩ ?_;simp only[Tryz.f193,ntmps193,iz,seval];simp only[vx,T,seval,QV,QC];refine Cg ca ?_;simp only[vx,T,seval,QV,QC];refine Cg cb ?_;simp only[vx,T,seval,QV,QC];refine⟨fun g=>Lg ?_,fun g=>Lg ?_⟩
 ·simp only[vx,T,seval,QV,QC];refine⟨fun g2=>Lg ?_,fun g2=>Lg ?_⟩
  ·simp only[vx,T,seval,QV,QC];exact Ve (by rw[←C8 g,gQ g2])
  simp only[vx,T,seval,QV,QC];exact Ve (by rw[←C8 g,iW (by omega)])
 simp only[vx,T,seval,QV,QC];refine Cg ma ?_;simp only[vx,T,seval,ZV];refine Cg mb ?_;simp only[vx,T,seval,ZV];refine Cg cc ?_;simp only[vx,T,seval,ZV];exact Ve rfl
end Go.Proofs.YtgcmkdgpaibpeaaGreat
/-
  The order of lists of variables.
-/
namespace Go.Eng
open Go
end Go.Eng
/-
  Polynomials as lists of monomials.
-/
namespace Go.Eng
open Go
theorem HI {z:Int}(h:z.natAbs<18446744073709551616):qm (Rat.ofInt z)≤2:=by
 have h1:zn z≤2:=aD (by unfold BB;omega);have h2:nl 1≤1:=aD (by decide);unfold qm;rw[Rat.ofInt_num,Rat.ofInt_den];omega
end Go.Eng
/-
  Monomials of any words: what the two Valid accept.
-/
namespace Go.Eng
open Go
theorem nc {n:Nat}{f:Nat→Bool}:(List.range n).all f=true↔∀i,i<n→f i=true:=by
 simp[List.all_eq_true]
theorem rP {n:Nat}{f:Nat→Bool}{i:Nat}(h:i<n)(hf:f i=false):(List.range n).all f=false:=by
 cases hr:(List.range n).all f with
 |false=>rfl
 |true=>have:=nc.1 hr i h;rw[hf]at this;cases this
end Go.Eng
