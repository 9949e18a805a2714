/-
  MatrixDeterminant: for every input the law returns true, and each argument reads afterwards as it read before. No condition beyond the given row's own cells.
  (Text 5 of 9; made by a program out of smaller texts.)
-/
import Derived.Test.YtchkplkghknabaaGreatP4
set_option linter.unusedSimpArgs false
set_option linter.unusedVariables false
set_option maxHeartbeats 16000000
set_option maxRecDepth 10000
open Nat renaming reduceAdd→J1,reduceMul→J2,reduceSub→J3,reduceEqDiff→J4,reduceLT→J5,reduceLeDiff→J6,reduceBEq→J7,reduceDiv→J8,reduceMod→J9,reducePow→J0
open Int renaming reduceToNat→K1,reduceLE→K2,reduceLT→K3,reduceEq→K4,reducePow→K5,reduceSub→K6,reduceNeg→K7,natCast_add→X2,natCast_one→X3,natCast_zero→X4
open List renaming getD_cons_zero→X0,getD_cons_succ→X1,length_take→X5,length_append→X6,getD_eq_getElem?_getD→X7,getElem?_eq_getElem→X8
namespace Go.Eng
def qm (q:Rat):Nat:=max (zn q.num) (nl q.den)
theorem xK {n:Int}{d:Nat}(hd:0<d):0<Int.gcd n d:=by
 unfold Int.gcd;exact Nat.gcd_pos_of_pos_right _ (by simpa using hd)
theorem yz {n:Int}{d:Nat}(hd:0<d):n.fdiv (Int.gcd n d)=(mkRat n d).num:=by
 rw[Rat.num_mkRat,if_neg (by omega),Int.fdiv_eq_ediv_of_nonneg _ (by omega)];unfold Int.gcd;rw[Nat.gcd_comm];rfl
theorem yr {n:Int}{d:Nat}(hd:0<d):(d:Int).fdiv (Int.gcd n d)=((mkRat n d).den:Int):=by
 rw[Rat.den_mkRat,if_neg (by omega),Int.fdiv_eq_ediv_of_nonneg _ (by omega)];unfold Int.gcd;rw[Nat.gcd_comm];rfl
theorem fdiv_one (n:Int):n.fdiv 1=n:=by rw[Int.fdiv_eq_ediv_of_nonneg _ (by omega)];exact Int.ediv_one n
theorem Ej (n:Int)(d:Nat):zn (mkRat n d).num≤zn n:=by
 rw[Rat.num_mkRat]
 split
 ·unfold zn;rw[Int.natAbs_zero,iD];omega
 refine rL ?_;exact Int.natAbs_ediv_le_natAbs _ _
theorem EY {n:Int}{d:Nat}(h:0<d):nl (mkRat n d).den≤nl d:=by
 rw[Rat.den_mkRat,if_neg (by omega)];exact bf (Nat.div_le_self _ _)
theorem Mh {n:Int}{d:Nat}(h:0<d):qm (mkRat n d)≤max (zn n) (nl d):=by
 have h1:=Ej n d;have h2:=EY (n:=n) h;unfold qm;omega
theorem aF (n:Nat):zn (n:Int)=nl n:=rfl
theorem ON (a b:Rat):qm (a+b)≤qm a+qm b+1:=by
 rw[Rat.add_def'];have h:=Mh (n:=a.num*b.den+b.num*a.den) (Nat.mul_pos a.den_pos b.den_pos);have h1:=cY a.num b.den;have h2:=cY b.num a.den;have h3:=oI (a.num*b.den) (b.num*a.den);have h4:=jy a.den b.den;rw[aF]at h1 h2;unfold qm at*;omega
theorem add_one {a b:Rat}(ha:a.den=1)(hb:b.den=1):(a+b).num=a.num+b.num∧(a+b).den=1:=by
 rw[Rat.add_def',ha,hb]
 constructor
 ·rw[Rat.num_mkRat];simp
 rw[Rat.den_mkRat];simp
theorem yC {a b:Rat}(ha:a.den=1)(hb:b.den=1):(a*b).num=a.num*b.num∧(a*b).den=1:=by
 rw[Rat.mul_def',ha,hb]
 constructor
 ·rw[Rat.num_mkRat];simp
 rw[Rat.den_mkRat];simp
theorem DU {a b:Rat}(h:a.den.gcd b.den=1):(a+b).num=a.num*b.den+b.num*a.den∧(a+b).den=a.den*b.den:=by
 show(Rat.add a b).num=_∧(Rat.add a b).den=_
 delta Rat.add
 dsimp only
 rw[dif_pos h];exact⟨rfl,rfl⟩
theorem Kr {a b:Rat}{g:Nat}(hg:g=a.den.gcd b.den){num:Int}(hn:num=a.num*((b.den/g:Nat):Int)+b.num*((a.den/g:Nat):Int)){h:Nat}(hh:h=num.natAbs.gcd g):
  num.fdiv h=(a+b).num∧(((a.den/g)*(b.den/h):Nat):Int)=((a+b).den:Int):=by
 have W6:0<g:=by rw[hg];exact Nat.gcd_pos_of_pos_left _ a.den_pos
 have Zh:g∣a.den:=by rw[hg];exact Nat.gcd_dvd_left _ _
 have hgb:g∣b.den:=by rw[hg];exact Nat.gcd_dvd_right _ _
 have hdp:0<a.den/g:=Nat.div_pos (Nat.le_of_dvd a.den_pos Zh) W6;have e1:a+b=mkRat num (a.den/g*b.den):=by
  rw[Rat.add_def',←Rat.mkRat_mul_right (a:=g) (n:=num) (by omega)]
  congr 1
  ·rw[hn,Int.add_mul,Int.mul_assoc,Int.mul_assoc,←Int.natCast_mul,←Int.natCast_mul,Nat.div_mul_cancel hgb,Nat.div_mul_cancel Zh]
  rw[Nat.mul_right_comm,Nat.div_mul_cancel Zh]
 have e2:num.natAbs.gcd g=num.natAbs.gcd (a.den/g*b.den):=by
  have:=Rat.add.aux a b (g:=g) hg rfl rfl
  simp only[←hn]at this;exact this
 have hp:0<a.den/g*b.den:=Nat.mul_pos hdp b.den_pos;have e3:h=Int.gcd num ((a.den/g*b.den:Nat):Int):=by rw[hh,e2];rfl
 have hhb:h∣b.den:=Nat.dvd_trans (by rw[hh];exact Nat.gcd_dvd_right _ _) hgb;rw[e1]
 constructor
 ·rw[←yz hp,←e3]
 rw[←yr hp,←e3,Int.fdiv_eq_ediv_of_nonneg _ (by omega),←Nat.mul_div_assoc _ hhb,Int.natCast_ediv]
theorem I6 (a b:Rat){g h:Nat}(hg:g=a.num.natAbs.gcd b.den)(hh:h=b.num.natAbs.gcd a.den):
  a.num.fdiv g*b.num.fdiv h=(a*b).num∧(((a.den/h)*(b.den/g):Nat):Int)=((a*b).den:Int):=by
 have Zh:(g:Int)∣a.num:=Int.ofNat_dvd_left.2 (by rw[hg];exact Nat.gcd_dvd_left _ _);have hhb:(h:Int)∣b.num:=Int.ofNat_dvd_left.2 (by rw[hh];exact Nat.gcd_dvd_left _ _);rw[Int.fdiv_eq_ediv_of_nonneg _ (by omega),Int.fdiv_eq_ediv_of_nonneg _ (by omega)];have e:a*b=Rat.mul a b:=rfl;rw[e]
 delta Rat.mul
 dsimp only
 simp only[Int.divExact_eq_tdiv,Nat.divExact_eq_div];subst hg hh;refine⟨?_,rfl⟩;rw[Int.tdiv_eq_ediv_of_dvd Zh,Int.tdiv_eq_ediv_of_dvd hhb]
end Go.Eng
namespace Go.Proofs.YtchkplkghknabaaGreat
open Go.Proofs.Tryz
open Go Go.Eng
def QC (q:Rat):List C:=[.bool (zs q.num),.ints .u32 (zm q.num),.bool (zs (q.den:Int)),.ints .u32 (zm (q.den:Int))]
def QV (q:Rat):V:=.agg (QC q)
theorem Dc {z:Int}:z=1↔zs z=false∧zn z=1∧z.natAbs%BB=1:=by
 constructor
 ·rintro rfl;refine⟨rfl,?_,by decide⟩;have h1:zn 1≤1:=aD (by decide);have h2:zn 1≠0:=fun e=>by have:=ey.1 e;omega
  omega
 rintro⟨h1,h2,h3⟩;have h4:=dF.1 h1;have h5:z.natAbs<BB:=by have:=cF.1 (show nl z.natAbs≤1 by unfold zn at h2;omega);simpa using this
 rw[Nat.mod_eq_of_lt h5]at h3;omega
theorem vb {p q:Bool}(h:p=q):fB (.one (.bool p)) (.one (.bool q)):=Ve (by rw[h])
theorem DQ (z:Int):(zm z).getD 0 0=((z.natAbs%BB:Nat):Int):=by
 unfold zm;rw[lG,Nat.pow_zero,Nat.div_one]
def FI (s:Bool)(xs:List Int)(t:Bool)(ys:List Int):Bool:=
 AQ s xs&&(AQ t ys&&(decide (0<fK t (val ys))&&decide (((Int.gcd (fK s (val xs)) (fK t (val ys)):Nat):Int)=1)))
theorem Md (q:Rat):FI (zs q.num) (zm q.num) (zs (q.den:Int)) (zm (q.den:Int))=true:=by
 unfold FI;rw[lf,b5,lf,b5,MH,MH];have h1:=q.den_pos;have h2:Int.gcd q.num (q.den:Int)=1:=q.reduced;rw[h2]
 simp;omega
theorem iY (z:Int)(hz:zn z<2^60):Pr prog 214 [ZV z] (.one (.bool (decide (z=1)))):=by
 have Uz:=Dc (z:=z);refine pw func214 ⟨[0,1,2],[]⟩ ?_;simp only[Tryz.f214,ntmps214,iz,seval];simp only[vx,T,seval,ZV];refine⟨fun h1=>Lg ?_,fun h1=>Lg ?_⟩
 ·have h1:zs z=false:=by simpa using h1
  simp only[vx,T,seval];refine⟨fun h2=>Lg ?_,fun h2=>Lg ?_⟩
  ·rw[aV]at h2;simp only[vx,T,seval,aV,DQ];refine⟨by omega,vb (decide_eq_decide.2 ?_)⟩;rw[Uz];refine⟨fun h=>⟨h1,by omega,by omega⟩,fun h=>by omega⟩
  rw[aV]at h2;simp only[vx,T,seval];refine vb (decide_eq_false ?_).symm;rw[Uz];omega
 simp only[vx,T,seval];refine vb (decide_eq_false ?_).symm;rw[Uz];rintro⟨h2,_⟩;rw[h2]at h1;cases h1
theorem gz (z:Int)(hz:zn z<2^60):Pr prog 114 [ZV z] (.one (.bool (decide (z=1)))):=by
 have Uz:=Dc (z:=z);refine pw func114 ⟨[0,1,2],[]⟩ ?_;simp only[Tryz.f114,ntmps114,iz,seval];simp only[vx,T,seval,ZV];refine⟨fun h1=>Lg ?_,fun h1=>Lg ?_⟩
 ·rw[aV]at h1;simp only[vx,T,seval,aV,DQ];refine⟨by omega,?_⟩;refine⟨fun h2=>Lg ?_,fun h2=>Lg ?_⟩
  ·simp only[vx,T,seval];refine vb ?_
   cases SK:zs z
   ·refine(decide_eq_true ?_).symm
    rw[Uz];exact⟨SK,by omega,by omega⟩
   refine(decide_eq_false ?_).symm
   rw[Uz,SK];rintro⟨h,_⟩
   cases h
  simp only[vx,T,seval];refine vb (decide_eq_false ?_).symm;rw[Uz];omega
 rw[aV]at h1;simp only[vx,T,seval];refine vb (decide_eq_false ?_).symm;rw[Uz];omega
theorem x7 (s t:Bool)(xs ys:List Int)(hx:bI xs)(hy:bI ys)(U8:xs.length<2^40)(Zi:ys.length<2^40):Pr prog 190 [.agg [.bool s,.ints .u32 xs,.bool t,.ints .u32 ys]] (.one (.bool (FI s xs t ys))):=by
 refine pw func190 ⟨[0,1,2],[]⟩ ?_;simp only[Tryz.f190,ntmps190,iz,seval];simp only[vx,T,seval];refine Cg (rI s xs hx (by omega)) ?_;simp only[vx,T,seval];refine⟨fun h1=>Lg ?_,fun h1=>Lg ?_⟩
 ·simp only[vx,T,seval];refine Cg (rI t ys hy (by omega)) ?_;simp only[vx,T,seval];refine⟨fun h2=>Lg ?_,fun h2=>Lg ?_⟩
  ·obtain⟨z,rfl,rfl⟩:=xa h1;obtain⟨d,rfl,rfl⟩:=xa h2;rw[aV]at U8 Zi;have R6:FI (zs z) (zm z) (zs d) (zm d)=(decide (0<d)&&decide (((Int.gcd z d:Nat):Int)=1)):=by
    unfold FI;rw[h1,h2,lf,b5,lf,b5];rfl
   rw[R6];simp only[vx,T,seval];refine Cg (fP d (by omega)) ?_;simp only[vx,T,seval]
   have hs:(0<b9 d)↔0<d:=by unfold b9;(repeat' split)<;>omega
   refine⟨fun h3=>Lg ?_,fun h3=>Lg ?_⟩
   ·rw[hs]at h3;simp only[vx,T,seval];refine Cg (qt z d (by omega) (by omega)) ?_;have Yl:zn (Int.gcd z d)≤zn d:=rL (by
     have:=Nat.gcd_le_right z.natAbs (show 0<d.natAbs by omega)
     exact this)
    simp only[vx,T,seval,ZV];refine Cg (iY (Int.gcd z d) (by omega)) ?_;simp only[vx,T,seval];refine vb ?_;rw[decide_eq_true h3];rfl
   rw[hs]at h3;simp only[vx,T,seval];refine vb ?_;rw[decide_eq_false h3];rfl
  simp only[vx,T,seval];refine vb ?_;unfold FI;rw[h1,h2];rfl
 simp only[vx,T,seval];refine vb ?_;unfold FI;rw[h1];rfl
theorem yn (s t:Bool)(xs ys:List Int)(hx:bI xs)(hy:bI ys)(U8:xs.length<2^40)(Zi:ys.length<2^40):Pr prog 160 [.agg [.bool s,.ints .u32 xs,.bool t,.ints .u32 ys]] (.one (.bool (FI s xs t ys))):=by
 refine pw func160 ⟨[0,1,2],[]⟩ ?_;simp only[Tryz.f160,ntmps160,iz,seval];simp only[vx,T,seval];refine Cg (rp s xs hx (by omega)) ?_;simp only[vx,T,seval];refine⟨fun h1=>Lg ?_,fun h1=>Lg ?_⟩
 ·simp only[vx,T,seval];refine Cg (rp t ys hy (by omega)) ?_;simp only[vx,T,seval];refine⟨fun h2=>Lg ?_,fun h2=>Lg ?_⟩
  ·obtain⟨z,rfl,rfl⟩:=xa h1;obtain⟨d,rfl,rfl⟩:=xa h2;rw[aV]at U8 Zi;have R6:FI (zs z) (zm z) (zs d) (zm d)=(decide (0<d)&&decide (((Int.gcd z d:Nat):Int)=1)):=by
    unfold FI;rw[h1,h2,lf,b5,lf,b5];rfl
   rw[R6];simp only[vx,T,seval];refine Cg (gE d (by omega)) ?_;simp only[vx,T,seval]
   have hs:(0<b9 d)↔0<d:=by unfold b9;(repeat' split)<;>omega
   refine⟨fun h3=>Lg ?_,fun h3=>Lg ?_⟩
   ·rw[hs]at h3;simp only[vx,T,seval];refine Cg (eG z d (by omega) (by omega)) ?_;have Yl:zn (Int.gcd z d)≤zn d:=rL (by
     have:=Nat.gcd_le_right z.natAbs (show 0<d.natAbs by omega)
     exact this)
    simp only[vx,T,seval,ZV];refine Cg (gz (Int.gcd z d) (by omega)) ?_;simp only[vx,T,seval];refine vb ?_;rw[decide_eq_true h3];rfl
   rw[hs]at h3;simp only[vx,T,seval];refine vb ?_;rw[decide_eq_false h3];rfl
  simp only[vx,T,seval];refine vb ?_;unfold FI;rw[h1,h2];rfl
 simp only[vx,T,seval];refine vb ?_;unfold FI;rw[h1];rfl
theorem oE:Pr prog 107 [] (ZV 1):=by
 refine pw func107 ⟨[0],[]⟩ ?_;simp only[Tryz.f107,ntmps107,iz,seval];simp only[vx,T,seval,ZV];refine Cg (gR 1 (by omega) (by omega)) ?_;simp only[vx,T,seval,ZV];refine Va ?_;simp only[cU,aY,ry,seval,ZV]
theorem ny (a b:Int)(ha:zn a<2^40)(hb:zn b<2^40)(h0:b≠0):Pr prog 233 [ZV a,ZV b] (ZV (a.fdiv b)):=by
 refine pw func233 ⟨[0,1,2,3,4,5,9],[]⟩ ?_;simp only[Tryz.f233,ntmps233,iz,seval];simp only[vx,T,seval,ZV];refine Cg (iY b (by omega)) ?_;simp only[vx,T,seval,ZV];refine⟨fun h1=>Lg ?_,fun h1=>Lg ?_⟩
 ·subst h1;simp only[vx,T,seval,ZV];rw[fdiv_one];refine Va ?_;simp only[cU,aY,ry,seval,ZV]
 simp only[vx,T,seval,ZV];refine Cg (wK a b (by omega) (by omega) h0) ?_;simp only[vx,T,seval,ZV];refine Va ?_;simp only[cU,aY,ry,seval,ZV]
theorem bC (a b:Int)(ha:zn a<2^40)(hb:zn b<2^40)(h0:b≠0):Pr prog 90 [ZV a,ZV b] (ZV (a.fdiv b)):=by
 refine pw func90 ⟨[0,1,2,3,4,5],[]⟩ ?_;simp only[Tryz.f90,ntmps90,iz,seval];simp only[vx,T,seval,ZV];refine Cg (yg a b (by omega) (by omega) h0) ?_;simp only[vx,T,seval,ZV];refine Va ?_;simp only[cU,aY,ry,seval,ZV]
theorem fj (n:Int)(d:Nat)(hn:zn n<2^40)(hd:nl d<2^40)(h0:0<d):Pr prog 221 [ZV n,ZV (d:Int)] (QV (mkRat n d)):=by
 have hg:(0:Int)<(Int.gcd n d:Nat):=by have:=xK (n:=n) h0;omega
 have Yl:zn (Int.gcd n d)≤nl d:=rL (b:=(d:Int)) (by
  have:=Nat.gcd_le_right n.natAbs (show 0<(d:Int).natAbs by omega)
  exact this)
 have WK:zs (d:Int)=false:=dF.2 (by omega);refine pw func221 ⟨[0,1,2,3,4,5,10],[]⟩ ?_;simp only[Tryz.f221,ntmps221,iz,seval];simp only[vx,T,seval,ZV];refine Cg (qt n d (by omega) (by rw[aF];omega)) ?_;simp only[vx,T,seval,ZV];refine⟨fun h=>(by rw[WK]at h;cases h),fun _=>Lg ?_⟩;simp only[vx,T,seval,ZV];refine Cg (ny n (Int.gcd n d) (by omega) (by omega) (by omega)) ?_;rw[yz h0];simp only[vx,T,seval,ZV];refine Cg (ny d (Int.gcd n d) (by rw[aF];omega) (by omega) (by omega)) ?_;rw[yr h0];simp only[vx,T,seval,ZV];refine Va ?_;simp only[cU,aY,ry,seval,QV,QC]
theorem cO (z:Int)(h1: -9223372036854775808≤z)(h2:z≤9223372036854775807):Pr prog 72 [.one (.int .i64 z)] (QV (Rat.ofInt z)):=by
 refine pw func72 ⟨[0,2],[]⟩ ?_;simp only[Tryz.f72,ntmps72,iz,seval];simp only[vx,T,seval,QV,QC];refine Cg (gR z h1 h2) ?_;simp only[vx,T,seval,ZV];refine Cg oE ?_;simp only[vx,T,seval,ZV];refine Va ?_;simp only[cU,aY,ry,seval,Rat.ofInt_num,Rat.ofInt_den,X3]
theorem ba (z:Int)(h1: -9223372036854775808≤z)(h2:z≤9223372036854775807):Pr prog 49 [.one (.int .i64 z)] (QV (Rat.ofInt z)):=by
 refine pw func49 ⟨[0,2],[]⟩ ?_;simp only[Tryz.f49,ntmps49,iz,seval];simp only[vx,T,seval,QV,QC];refine Cg (fD z h1 h2) ?_;simp only[vx,T,seval,ZV];refine Cg (fD 1 (by omega) (by omega)) ?_;simp only[vx,T,seval,ZV];refine Va ?_;simp only[cU,aY,ry,seval,Rat.ofInt_num,Rat.ofInt_den,X3]
theorem jI (q:Rat)(hq:qm q<2^40):Pr prog 180 [QV q] (.one (.int .i64 (b9 q.num))):=by
 unfold qm at hq;refine pw func180 ⟨[0,1,2],[]⟩ ?_;simp only[Tryz.f180,ntmps180,iz,seval];simp only[vx,T,seval,QV,QC];refine Cg (fP q.num (by omega)) ?_;simp only[vx,T,seval,ZV];exact Ve rfl
theorem rJ (q:Rat)(hq:qm q<2^40):Pr prog 135 [QV q] (.one (.int .i64 (b9 q.num))):=by
 unfold qm at hq;refine pw func135 ⟨[0,1,2],[]⟩ ?_;simp only[Tryz.f135,ntmps135,iz,seval];simp only[vx,T,seval,QV,QC];refine Cg (gE q.num (by omega)) ?_;simp only[vx,T,seval,ZV];exact Ve rfl
open Go Go.Eng
theorem F9 {n:Int}{d:Int}{q:Rat}(h1:q.num=n)(h2:(q.den:Int)=d):QC q=[.bool (zs n),.ints .u32 (zm n),.bool (zs d),.ints .u32 (zm d)]:=by
 unfold QC;rw[h1,h2]
theorem fI (a g:Nat):(a:Int).fdiv (g:Int)=((a/g:Nat):Int):=by
 rw[Int.fdiv_eq_ediv_of_nonneg _ (by omega)];rfl
theorem pY (n:Int)(g:Nat):zn (n.fdiv g)≤zn n:=by
 rw[Int.fdiv_eq_ediv_of_nonneg _ (by omega)];exact rL (Int.natAbs_ediv_le_natAbs _ _)
theorem sr {z:Int}(h:((zm z).length:Int)=0):z=0:=ey.1 (by rw[aV]at h;omega)
theorem Hl:Rat.ofInt 0=0:=rfl
theorem CD (a b:Rat)(ha:qm a<2^38)(hb:qm b<2^38):Pr prog 206 [QV a,QV b] (QV (a*b)):=by
 have m1:=cY a.num b.num;have m2:=jy a.den b.den;have m3:=cY a.num b.den;have m4:=cY b.num a.den;have m5:=oI (a.num*b.den) (b.num*a.den);have n1:=aF a.den;have n2:=aF b.den;have p1:=a.den_pos;have p2:=b.den_pos;have p3:=Nat.mul_pos p1 p2;unfold qm at ha hb;refine pw func206 ⟨[0,1,2,3,4,12],[]⟩ ?_;simp only[Tryz.f206,ntmps206,iz,seval];simp only[vx,T,seval,QV,QC];refine Cg (iY a.den (by omega)) ?_;simp only[vx,T,seval,ZV];refine⟨fun h1=>Lg ?_,fun h1=>Lg ?_⟩
 ·simp only[vx,T,seval,ZV];refine Cg (iY b.den (by omega)) ?_;simp only[vx,T,seval,ZV];refine⟨fun h2=>Lg ?_,fun h2=>Lg ?_⟩
  ·obtain⟨k1,k2⟩:=yC (a:=a) (b:=b) (by omega) (by omega);simp only[vx,T,seval,ZV];refine Cg (bK a.num b.num (by omega) (by omega)) ?_;simp only[vx,T,seval,ZV];refine Cg oE ?_;simp only[vx,T,seval,ZV];rw[k1,k2];refine Va ?_;simp only[cU,aY,ry,seval,X3]
  simp only[vx,T,seval,ZV];refine Cg (bK a.num b.num (by omega) (by omega)) ?_;simp only[vx,T,seval,ZV];refine Cg (bK a.den b.den (by omega) (by omega)) ?_;rw[←Int.natCast_mul];simp only[vx,T,seval,ZV];refine Cg (fj (a.num*b.num) (a.den*b.den) (by omega) (by omega) p3) ?_;rw[←Rat.mul_def'];simp only[vx,T,seval,QV,QC];refine Va ?_;simp only[cU,aY,ry,seval]
 simp only[vx,T,seval,ZV];refine Cg (bK a.num b.num (by omega) (by omega)) ?_;simp only[vx,T,seval,ZV];refine Cg (bK a.den b.den (by omega) (by omega)) ?_;rw[←Int.natCast_mul];simp only[vx,T,seval,ZV];refine Cg (fj (a.num*b.num) (a.den*b.den) (by omega) (by omega) p3) ?_;rw[←Rat.mul_def'];simp only[vx,T,seval,QV,QC];refine Va ?_;simp only[cU,aY,ry,seval]
theorem BQ (a b:Rat)(ha:qm a<2^38)(hb:qm b<2^38):Pr prog 220 [QV a,QV b] (QV (a+b)):=by
 have m1:=cY a.num b.num;have m2:=jy a.den b.den;have m3:=cY a.num b.den;have m4:=cY b.num a.den;have m5:=oI (a.num*b.den) (b.num*a.den);have n1:=aF a.den;have n2:=aF b.den;have p1:=a.den_pos;have p2:=b.den_pos;have p3:=Nat.mul_pos p1 p2;unfold qm at ha hb;refine pw func220 ⟨[0,1,2,3,4,5,13],[]⟩ ?_;simp only[Tryz.f220,ntmps220,iz,seval];simp only[vx,T,seval,QV,QC];refine Cg (iY a.den (by omega)) ?_;simp only[vx,T,seval,ZV];refine⟨fun h1=>Lg ?_,fun h1=>Lg ?_⟩
 ·simp only[vx,T,seval,ZV];refine Cg (iY b.den (by omega)) ?_;simp only[vx,T,seval,ZV];refine⟨fun h2=>Lg ?_,fun h2=>Lg ?_⟩
  ·obtain⟨k1,k2⟩:=add_one (a:=a) (b:=b) (by omega) (by omega);simp only[vx,T,seval,ZV];refine Cg (qF a.num b.num (by omega) (by omega)) ?_;simp only[vx,T,seval,ZV];refine Cg oE ?_;simp only[vx,T,seval,ZV];rw[k1,k2];refine Va ?_;simp only[cU,aY,ry,seval,X3]
  simp only[vx,T,seval,ZV];refine Cg (bK a.num b.den (by omega) (by omega)) ?_;simp only[vx,T,seval,ZV];refine Cg (bK b.num a.den (by omega) (by omega)) ?_;simp only[vx,T,seval,ZV];refine Cg (qF (a.num*b.den) (b.num*a.den) (by omega) (by omega)) ?_;simp only[vx,T,seval,ZV];refine Cg (bK a.den b.den (by omega) (by omega)) ?_;rw[←Int.natCast_mul];simp only[vx,T,seval,ZV];refine Cg (fj (a.num*b.den+b.num*a.den) (a.den*b.den) (by omega) (by omega) p3) ?_;rw[←Rat.add_def'];simp only[vx,T,seval,QV,QC];refine Va ?_;simp only[cU,aY,ry,seval]
 simp only[vx,T,seval,ZV];refine Cg (bK a.num b.den (by omega) (by omega)) ?_;simp only[vx,T,seval,ZV];refine Cg (bK b.num a.den (by omega) (by omega)) ?_;simp only[vx,T,seval,ZV];refine Cg (qF (a.num*b.den) (b.num*a.den) (by omega) (by omega)) ?_;simp only[vx,T,seval,ZV];refine Cg (bK a.den b.den (by omega) (by omega)) ?_;rw[←Int.natCast_mul];simp only[vx,T,seval,ZV];refine Cg (fj (a.num*b.den+b.num*a.den) (a.den*b.den) (by omega) (by omega) p3) ?_;rw[←Rat.add_def'];simp only[vx,T,seval,QV,QC];refine Va ?_;simp only[cU,aY,ry,seval]
theorem Ca (a b:Rat)(ha:qm a<2^38)(hb:qm b<2^38):Pr prog 75 [QV a,QV b] (QV (a*b)):=by
 have m1:=cY a.num b.num;have m2:=jy a.den b.den;have m3:=cY a.num b.den;have m4:=cY b.num a.den;have m5:=oI (a.num*b.den) (b.num*a.den);have n1:=aF a.den;have n2:=aF b.den;have p1:=a.den_pos;have p2:=b.den_pos;have p3:=Nat.mul_pos p1 p2;unfold qm at ha hb;obtain⟨g,hg⟩:∃g,g=a.num.natAbs.gcd b.den:=⟨_,rfl⟩;obtain⟨h,hh⟩:∃h,h=b.num.natAbs.gcd a.den:=⟨_,rfl⟩;have eg:Int.gcd a.num b.den=g:=by rw[hg];rfl
 have eh:Int.gcd b.num a.den=h:=by rw[hh];rfl
 have g0:0<g:=by rw[hg];exact Nat.gcd_pos_of_pos_right _ p2
 have h0:0<h:=by rw[hh];exact Nat.gcd_pos_of_pos_right _ p1
 have gl:nl g≤nl b.den:=by rw[hg];exact bf (Nat.gcd_le_right _ p2)
 have hl:nl h≤nl a.den:=by rw[hh];exact bf (Nat.gcd_le_right _ p1)
 have dl:nl (a.den/h)≤nl a.den:=bf (Nat.div_le_self _ _);have dl2:nl (b.den/g)≤nl b.den:=bf (Nat.div_le_self _ _);obtain⟨k1,k2⟩:=I6 a b hg hh;refine pw func75 ⟨[0,1,2,3,4,5,6,18,27],[]⟩ ?_;simp only[Tryz.f75,ntmps75,iz,seval];simp only[vx,T,seval,QV,QC];refine⟨fun h1=>Lg ?_,fun h1=>Lg ?_⟩
 ·have ez:a*b=0:=by rw[Rat.num_eq_zero.1 (sr h1),Rat.zero_mul]
  simp only[vx,T,seval,ZV];refine Cg (ba 0 (by omega) (by omega)) ?_;rw[ez,←Hl];simp only[vx,T,seval,QV,QC];refine Va ?_;simp only[cU,aY,ry,seval]
 simp only[vx,T,seval,ZV];refine⟨fun h2=>Lg ?_,fun h2=>Lg ?_⟩
 ·have ez:a*b=0:=by rw[Rat.num_eq_zero.1 (sr h2),Rat.mul_zero]
  simp only[vx,T,seval,ZV];refine Cg (ba 0 (by omega) (by omega)) ?_;rw[ez,←Hl];simp only[vx,T,seval,QV,QC];refine Va ?_;simp only[cU,aY,ry,seval]
 simp only[vx,T,seval,ZV];refine Cg (gz a.den (by omega)) ?_;simp only[vx,T,seval,ZV];refine⟨fun h3=>Lg ?_,fun h3=>Lg ?_⟩
 ·simp only[vx,T,seval,ZV];refine Cg (gz b.den (by omega)) ?_;simp only[vx,T,seval,ZV];refine⟨fun h4=>Lg ?_,fun h4=>Lg ?_⟩
  ·obtain⟨k1,k2⟩:=yC (a:=a) (b:=b) (by omega) (by omega);simp only[vx,T,seval,ZV];refine Cg (bo a.num b.num (by omega) (by omega)) ?_;simp only[vx,T,seval,ZV];rw[k1,k2,h3];refine Va ?_;simp only[cU,aY,ry,seval,X3]
  simp only[vx,T,seval,ZV];have Xx:zn (a.num.fdiv g)≤zn a.num:=pY _ _;have W1:zn (b.num.fdiv h)≤zn b.num:=pY _ _;refine Cg (eG a.num b.den (by omega) (by omega)) ?_;rw[eg];simp only[vx,T,seval,ZV];refine Cg (eG b.num a.den (by omega) (by omega)) ?_;rw[eh];simp only[vx,T,seval,ZV];refine Cg (bC a.num g (by omega) (by rw[aF];omega) (by omega)) ?_;simp only[vx,T,seval,ZV];refine Cg (bC b.num h (by omega) (by rw[aF];omega) (by omega)) ?_;simp only[vx,T,seval,ZV];refine Cg (bo (a.num.fdiv g) (b.num.fdiv h) (by omega) (by omega)) ?_;rw[k1];simp only[vx,T,seval,ZV];refine Cg (bC a.den h (by omega) (by rw[aF];omega) (by omega)) ?_;rw[fI];simp only[vx,T,seval,ZV];refine Cg (bC b.den g (by omega) (by rw[aF];omega) (by omega)) ?_;rw[fI];simp only[vx,T,seval,ZV];refine Cg (bo ((a.den/h:Nat):Int) ((b.den/g:Nat):Int) (by rw[aF];omega) (by rw[aF];omega)) ?_;rw[←Int.natCast_mul,k2];simp only[vx,T,seval,ZV];refine Va ?_;simp only[cU,aY,ry,seval]
 simp only[vx,T,seval,ZV];have Xx:zn (a.num.fdiv g)≤zn a.num:=pY _ _;have W1:zn (b.num.fdiv h)≤zn b.num:=pY _ _;refine Cg (eG a.num b.den (by omega) (by omega)) ?_;rw[eg];simp only[vx,T,seval,ZV];refine Cg (eG b.num a.den (by omega) (by omega)) ?_;rw[eh];simp only[vx,T,seval,ZV];refine Cg (bC a.num g (by omega) (by rw[aF];omega) (by omega)) ?_;simp only[vx,T,seval,ZV];refine Cg (bC b.num h (by omega) (by rw[aF];omega) (by omega)) ?_;simp only[vx,T,seval,ZV];refine Cg (bo (a.num.fdiv g) (b.num.fdiv h) (by omega) (by omega)) ?_;rw[k1];simp only[vx,T,seval,ZV];refine Cg (bC a.den h (by omega) (by rw[aF];omega) (by omega)) ?_;rw[fI];simp only[vx,T,seval,ZV];refine Cg (bC b.den g (by omega) (by rw[aF];omega) (by omega)) ?_;rw[fI];simp only[vx,T,seval,ZV];refine Cg (bo ((a.den/h:Nat):Int) ((b.den/g:Nat):Int) (by rw[aF];omega) (by rw[aF];omega)) ?_;rw[←Int.natCast_mul,k2];simp only[vx,T,seval,ZV];refine Va ?_;simp only[cU,aY,ry,seval]
theorem BH (a b:Rat)(ha:qm a<2^38)(hb:qm b<2^38):Pr prog 116 [QV a,QV b] (QV (a+b)):=by
 have m1:=cY a.num b.num;have m2:=jy a.den b.den;have m3:=cY a.num b.den;have m4:=cY b.num a.den;have m5:=oI (a.num*b.den) (b.num*a.den);have n1:=aF a.den;have n2:=aF b.den;have p1:=a.den_pos;have p2:=b.den_pos;have p3:=Nat.mul_pos p1 p2;unfold qm at ha hb;obtain⟨g,hg⟩:∃g,g=a.den.gcd b.den:=⟨_,rfl⟩;have eg:Int.gcd (a.den:Int) b.den=g:=by rw[hg];rfl
 have g0:0<g:=by rw[hg];exact Nat.gcd_pos_of_pos_right _ p2
 have gl:nl g≤nl b.den:=by rw[hg];exact bf (Nat.gcd_le_right _ p2)
 obtain⟨num,hn⟩:∃num,num=a.num*((b.den/g:Nat):Int)+b.num*((a.den/g:Nat):Int):=⟨_,rfl⟩;obtain⟨h,hh⟩:∃h,h=num.natAbs.gcd g:=⟨_,rfl⟩;have eh:Int.gcd num g=h:=by rw[hh];rfl
 have h0:0<h:=by rw[hh];exact Nat.gcd_pos_of_pos_right _ g0
 have hl:nl h≤nl g:=by rw[hh];exact bf (Nat.gcd_le_right _ g0)
 have dl:nl (a.den/g)≤nl a.den:=bf (Nat.div_le_self _ _);have dl2:nl (b.den/g)≤nl b.den:=bf (Nat.div_le_self _ _);have dl3:nl (b.den/h)≤nl b.den:=bf (Nat.div_le_self _ _);have w1:=cY a.num ((b.den/g:Nat):Int);have w2:=cY b.num ((a.den/g:Nat):Int);have w3:=oI (a.num*((b.den/g:Nat):Int)) (b.num*((a.den/g:Nat):Int));rw[aF]at w1 w2;rw[←hn]at w3;have w4:zn (num.fdiv h)≤zn num:=pY _ _;obtain⟨k1,k2⟩:=Kr hg hn hh;refine pw func116 ⟨[0,1,2,3,4,5,6,7,8,9,10,15,21,30,45],[]⟩ ?_;simp only[Tryz.f116,ntmps116,iz,seval];simp only[vx,T,seval,QV,QC];refine⟨fun h1=>Lg ?_,fun h1=>Lg ?_⟩
 ·have ez:a+b=b:=by rw[Rat.num_eq_zero.1 (sr h1),Rat.zero_add]
  simp only[vx,T,seval,ZV];rw[ez];refine Va ?_;simp only[cU,aY,ry,seval]
 simp only[vx,T,seval,ZV];refine⟨fun h2=>Lg ?_,fun h2=>Lg ?_⟩
 ·have ez:a+b=a:=by rw[Rat.num_eq_zero.1 (sr h2),Rat.add_zero]
  simp only[vx,T,seval,ZV];rw[ez];refine Va ?_;simp only[cU,aY,ry,seval]
 simp only[vx,T,seval,ZV];refine Cg (gz a.den (by omega)) ?_;simp only[vx,T,seval,ZV];refine⟨fun h3=>Lg ?_,fun h3=>Lg ?_⟩
 ·simp only[vx,T,seval,ZV];refine Cg (gz b.den (by omega)) ?_;simp only[vx,T,seval,ZV];refine⟨fun h4=>Lg ?_,fun h4=>Lg ?_⟩
  ·obtain⟨k1,k2⟩:=add_one (a:=a) (b:=b) (by omega) (by omega);simp only[vx,T,seval,ZV];refine Cg (gD a.num b.num (by omega) (by omega)) ?_;simp only[vx,T,seval,ZV];rw[k1,k2,h3];refine Va ?_;simp only[cU,aY,ry,seval,X3]
  simp only[vx,T,seval,ZV];refine Cg (eG a.den b.den (by omega) (by omega)) ?_;rw[eg];simp only[vx,T,seval,ZV];refine Cg (gz g (by rw[aF];omega)) ?_;simp only[vx,T,seval,ZV];refine⟨fun h5=>Lg ?_,fun h5=>Lg ?_⟩
  ·obtain⟨k3,k4⟩:=DU (a:=a) (b:=b) (by rw[←hg];omega);simp only[vx,T,seval,ZV];refine Cg (bo a.num b.den (by omega) (by omega)) ?_;simp only[vx,T,seval,ZV];refine Cg (bo b.num a.den (by omega) (by omega)) ?_;simp only[vx,T,seval,ZV];refine Cg (gD (a.num*b.den) (b.num*a.den) (by omega) (by omega)) ?_;simp only[vx,T,seval,ZV];refine Cg (bo a.den b.den (by omega) (by omega)) ?_;simp only[vx,T,seval,ZV];rw[k3,k4,Int.natCast_mul];refine Va ?_;simp only[cU,aY,ry,seval]
  simp only[vx,T,seval,ZV];refine Cg (bC a.den g (by omega) (by rw[aF];omega) (by omega)) ?_;rw[fI];simp only[vx,T,seval,ZV];refine Cg (bC b.den g (by omega) (by rw[aF];omega) (by omega)) ?_;rw[fI];simp only[vx,T,seval,ZV];refine Cg (bo a.num ((b.den/g:Nat):Int) (by omega) (by rw[aF];omega)) ?_;simp only[vx,T,seval,ZV];refine Cg (bo b.num ((a.den/g:Nat):Int) (by omega) (by rw[aF];omega)) ?_;simp only[vx,T,seval,ZV];refine Cg (gD _ _ (Nat.lt_of_le_of_lt w1 (by omega)) (Nat.lt_of_le_of_lt w2 (by omega))) ?_;rw[←hn];simp only[vx,T,seval,ZV];refine Cg (eG num g (by omega) (by rw[aF];omega)) ?_;rw[eh];simp only[vx,T,seval,ZV];refine Cg (bC num h (by omega) (by rw[aF];omega) (by omega)) ?_;rw[k1];simp only[vx,T,seval,ZV];refine Cg (bC b.den h (by omega) (by rw[aF];omega) (by omega)) ?_;rw[fI];simp only[vx,T,seval,ZV];refine Cg (bo ((a.den/g:Nat):Int) ((b.den/h:Nat):Int) (by rw[aF];omega) (by rw[aF];omega)) ?_;rw[←Int.natCast_mul,k2];simp only[vx,T,seval,ZV];refine Va ?_;simp only[cU,aY,ry,seval]
 simp only[vx,T,seval,ZV];refine Cg (eG a.den b.den (by omega) (by omega)) ?_;rw[eg];simp only[vx,T,seval,ZV];refine Cg (gz g (by rw[aF];omega)) ?_;simp only[vx,T,seval,ZV];refine⟨fun h5=>Lg ?_,fun h5=>Lg ?_⟩
 ·obtain⟨k3,k4⟩:=DU (a:=a) (b:=b) (by rw[←hg];omega);simp only[vx,T,seval,ZV];refine Cg (bo a.num b.den (by omega) (by omega)) ?_;simp only[vx,T,seval,ZV];refine Cg (bo b.num a.den (by omega) (by omega)) ?_;simp only[vx,T,seval,ZV];refine Cg (gD (a.num*b.den) (b.num*a.den) (by omega) (by omega)) ?_;simp only[vx,T,seval,ZV];refine Cg (bo a.den b.den (by omega) (by omega)) ?_;simp only[vx,T,seval,ZV];rw[k3,k4,Int.natCast_mul];refine Va ?_;simp only[cU,aY,ry,seval]
 simp only[vx,T,seval,ZV];refine Cg (bC a.den g (by omega) (by rw[aF];omega) (by omega)) ?_;rw[fI];simp only[vx,T,seval,ZV];refine Cg (bC b.den g (by omega) (by rw[aF];omega) (by omega)) ?_;rw[fI];simp only[vx,T,seval,ZV];refine Cg (bo a.num ((b.den/g:Nat):Int) (by omega) (by rw[aF];omega)) ?_;simp only[vx,T,seval,ZV];refine Cg (bo b.num ((a.den/g:Nat):Int) (by omega) (by rw[aF];omega)) ?_;simp only[vx,T,seval,ZV];refine Cg (gD _ _ (Nat.lt_of_le_of_lt w1 (by omega)) (Nat.lt_of_le_of_lt w2 (by omega))) ?_;rw[←hn];simp only[vx,T,seval,ZV];refine Cg (eG num g (by omega) (by rw[aF];omega)) ?_;rw[eh];simp only[vx,T,seval,ZV];refine Cg (bC num h (by omega) (by rw[aF];omega) (by omega)) ?_;rw[k1];simp only[vx,T,seval,ZV];refine Cg (bC b.den h (by omega) (by rw[aF];omega) (by omega)) ?_;rw[fI];simp only[vx,T,seval,ZV];refine Cg (bo ((a.den/g:Nat):Int) ((b.den/h:Nat):Int) (by rw[aF];omega) (by rw[aF];omega)) ?_;rw[←Int.natCast_mul,k2];simp only[vx,T,seval,ZV];refine Va ?_;simp only[cU,aY,ry,seval]
open Go Go.Eng
def qC (q:Rat):Nat→C
 |0=>.bool (zs q.num)
 |1=>.ints .u32 (zm q.num)
 |2=>.bool (zs (q.den:Int))
 |3=>.ints .u32 (zm (q.den:Int))
 |_=>.any
def ae (l:List Rat):C:=.rows 4 l.length (fun i=>qC (l.getD i default))
def tC (h:Nat)(t:List (List Rat)):C:=.rows 1 h (fun i _=>ae (t.getD i []))
def tV (h:Nat)(t:List (List Rat)):V:=.one (tC h t)
def eV (a:List Rat):V:=.one (ae a)
end Go.Proofs.YtchkplkghknabaaGreat
namespace Go.Re
def Nr (x e:Rat):Prop:= -e<x∧x<e
theorem Nr.mono {x e f:Rat}(h:Nr x e)(hf:e≤f):Nr x f:=by unfold Nr at*;grind
theorem Nr.add {x y e f:Rat}(h:Nr x e)(k:Nr y f):Nr (x+y) (e+f):=by unfold Nr at*;grind
theorem Nr.neg {x e:Rat}(h:Nr x e):Nr (-x) e:=by unfold Nr at*;grind
theorem Nr.sub {x y e f:Rat}(h:Nr x e)(k:Nr y f):Nr (x-y) (e+f):=by unfold Nr at*;grind
theorem Nr.symm {x y e:Rat}(h:Nr (x-y) e):Nr (y-x) e:=by unfold Nr at*;grind
theorem Nr.mul {x y e f:Rat}(h:Nr x e)(k:Nr y f):Nr (x*y) (e*f):=by
 unfold Nr at*
 have a:=Rat.mul_pos (a:=e-x) (b:=f-y) (by grind) (by grind);have b:=Rat.mul_pos (a:=e+x) (b:=f+y) (by grind) (by grind);have c:=Rat.mul_pos (a:=e-x) (b:=f+y) (by grind) (by grind);have d:=Rat.mul_pos (a:=e+x) (b:=f-y) (by grind) (by grind)
 constructor<;>grind
theorem bL {e:Rat}(h:0<e):0<e/2:=by grind
theorem div_pos {a b:Rat}(h:0<a)(k:0<b):0<a/b:=by
 rw[Rat.div_def];exact Rat.mul_pos h (Rat.inv_pos.2 k)
theorem div_mul {a b:Rat}(k:0<b):a/b*b=a:=by
 have:b≠0:=by grind
 grind
structure Sq where
 s:Nat→Rat
 h:∀e,0<e→∃N,∀m n,N≤m→N≤n→Nr (s m-s n) e
def eqv (a b:Sq):Prop:=∀e,0<e→∃N,∀n,N≤n→Nr (a.s n-b.s n) e
theorem eqv.refl (a:Sq):eqv a a:=fun e he=>⟨0,fun n _=>by unfold Nr;grind⟩
theorem eqv.symm {a b:Sq}(h:eqv a b):eqv b a:=fun e he=>by
 obtain⟨N,hN⟩:=h e he;exact⟨N,fun n hn=>(hN n hn).symm⟩
theorem eqv.trans {a b c:Sq}(h:eqv a b)(k:eqv b c):eqv a c:=fun e he=>by
 obtain⟨N,hN⟩:=h (e/2) (bL he);obtain⟨M,hM⟩:=k (e/2) (bL he);refine⟨max N M,fun n hn=>?_⟩;have h1:=hN n (by omega);have h2:=hM n (by omega);unfold Nr at*;grind
instance st:Setoid Sq:=⟨eqv,eqv.refl,eqv.symm,eqv.trans⟩
theorem Sq.sk (a:Sq):∃B,0<B∧∀n,Nr (a.s n) B:=by
 obtain⟨N,hN⟩:=a.h 1 (by decide);have key:∀k,∃B,0<B∧∀n,n<k→Nr (a.s n) B:=by
  intro k
  induction k with
  |zero=>exact⟨1,by decide,fun n h=>absurd h (Nat.not_lt_zero _)⟩
  |succ k ih=>
   obtain⟨B,h0,hB⟩:=ih
   by_cases hp:0≤a.s k
   ·refine⟨B+a.s k+1,by grind,fun n hn=>?_⟩
    by_cases hk:n=k
    ·subst hk;unfold Nr;grind
    exact(hB n (by omega)).mono (by grind)
   refine⟨B-a.s k+1,by grind,fun n hn=>?_⟩
   by_cases hk:n=k
   ·subst hk;unfold Nr;grind
   exact(hB n (by omega)).mono (by grind)
 obtain⟨B,h0,hB⟩:=key (N+1);refine⟨B+1,by grind,fun n=>?_⟩
 by_cases hn:n<N+1
 ·exact(hB n hn).mono (by grind)
 have h1:=hN n N (by omega) (Nat.le_refl _);have h2:=hB N (by omega);unfold Nr at*;grind
def Sq.const (q:Rat):Sq:=⟨fun _=>q,fun e he=>⟨0,fun m n _ _=>by unfold Nr;grind⟩⟩
def Sq.add (a b:Sq):Sq:=⟨fun n=>a.s n+b.s n,fun e he=>by
 obtain⟨N,hN⟩:=a.h (e/2) (bL he);obtain⟨M,hM⟩:=b.h (e/2) (bL he);refine⟨max N M,fun m n hm hn=>?_⟩;have h1:=hN m n (by omega) (by omega);have h2:=hM m n (by omega) (by omega);unfold Nr at*;grind⟩
def Sq.neg (a:Sq):Sq:=⟨fun n=> -a.s n,fun e he=>by
 obtain⟨N,hN⟩:=a.h e he;refine⟨N,fun m n hm hn=>?_⟩;have h1:=hN m n hm hn;unfold Nr at*;grind⟩
theorem MI {a b a' b' A B e:Rat}(hA:0<A)(hB:0<B)(he:0<e)(h1:Nr a A)(h2:Nr b' B)(h3:Nr (a-a') (e/2/B))(h4:Nr (b-b') (e/2/A)):Nr (a*b-a'*b') e:=by
 have k1:=h1.mul h4;have k2:=h3.mul h2;rw[div_mul hB]at k2;rw[Rat.mul_comm A,div_mul hA]at k1
 have:=k1.add k2
 unfold Nr at*;grind
def Sq.mul (a b:Sq):Sq:=⟨fun n=>a.s n*b.s n,fun e he=>by
 obtain⟨A,hA,ha⟩:=a.sk;obtain⟨B,hB,hb⟩:=b.sk;obtain⟨N,hN⟩:=a.h (e/2/B) (div_pos (bL he) hB);obtain⟨M,hM⟩:=b.h (e/2/A) (div_pos (bL he) hA);exact⟨max N M,fun m n hm hn=>MI hA hB he (ha m) (hb n) (hN m n (by omega) (by omega)) (hM m n (by omega) (by omega))⟩⟩
theorem Jq {a b c d:Sq}(h:eqv a c)(k:eqv b d):eqv (a.add b) (c.add d):=fun e he=>by
 obtain⟨N,hN⟩:=h (e/2) (bL he);obtain⟨M,hM⟩:=k (e/2) (bL he);refine⟨max N M,fun n hn=>?_⟩;have h1:=hN n (by omega);have h2:=hM n (by omega);show Nr (a.s n+b.s n-(c.s n+d.s n)) e;unfold Nr at*;grind
theorem Ko {a c:Sq}(h:eqv a c):eqv a.neg c.neg:=fun e he=>by
 obtain⟨N,hN⟩:=h e he;refine⟨N,fun n hn=>?_⟩;have h1:=hN n (by omega);show Nr (-a.s n- -c.s n) e;unfold Nr at*;grind
theorem Lm {a b c d:Sq}(h:eqv a c)(k:eqv b d):eqv (a.mul b) (c.mul d):=fun e he=>by
 obtain⟨A,hA,ha⟩:=a.sk;obtain⟨B,hB,hb⟩:=d.sk;obtain⟨N,hN⟩:=h (e/2/B) (div_pos (bL he) hB);obtain⟨M,hM⟩:=k (e/2/A) (div_pos (bL he) hA);exact⟨max N M,fun n hn=>MI hA hB he (ha n) (hb n) (hN n (by omega)) (hM n (by omega))⟩
def Sq.pos (a:Sq):Prop:=∃e,0<e∧∃N,∀n,N≤n→e<a.s n
theorem DC {a b:Sq}(h:eqv a b)(k:a.pos):b.pos:=by
 obtain⟨e,he,N,hN⟩:=k;obtain⟨M,hM⟩:=h (e/2) (bL he);refine⟨e/2,bL he,max N M,fun n hn=>?_⟩;have h1:=hN n (by omega);have h2:=hM n (by omega);unfold Nr at h2;grind
end Go.Re
def Go.R:Type:=Quotient Go.Re.st
namespace Go.R
open Go.Re
def mk (a:Sq):R:=Quotient.mk st a
theorem ind {p:R→Prop}(h:∀a,p (mk a))(x:R):p x:=Quotient.ind h x
theorem sound {a b:Sq}(h:eqv a b):mk a=mk b:=Quotient.sound (s:=st) h
theorem exact {a b:Sq}(h:mk a=mk b):eqv a b:=Quotient.exact (s:=st) h
theorem pt {a b:Sq}(h:∀n,a.s n=b.s n):mk a=mk b:=sound fun e he=>⟨0,fun n _=>by rw[h n];unfold Nr;grind⟩
def q (x:Rat):R:=mk (Sq.const x)
instance:Add R:=⟨Quotient.lift₂ (s₁:=st) (s₂:=st) (fun a b=>mk (a.add b)) fun _ _ _ _ h k=>sound (Jq h k)⟩
instance:Mul R:=⟨Quotient.lift₂ (s₁:=st) (s₂:=st) (fun a b=>mk (a.mul b)) fun _ _ _ _ h k=>sound (Lm h k)⟩
instance:Neg R:=⟨Quotient.lift (s:=st) (fun a=>mk a.neg) fun _ _ h=>sound (Ko h)⟩
instance:Sub R:=⟨fun a b=>a+ -b⟩
def pos (x:R):Prop:=Quotient.lift (s:=st) Sq.pos (fun _ _ h=>propext ⟨DC h,DC (eqv.symm h)⟩) x
theorem sub_def (x y:R):x-y=x+ -y:=rfl
end Go.R
namespace Go.R
open Go.Re
theorem add_comm (x y:R):x+y=y+x:=by
 induction x using ind with|h a=>induction y using ind with|h b=>
 exact pt fun n=>Rat.add_comm _ _
theorem add_assoc (x y z:R):x+y+z=x+(y+z):=by
 induction x using ind with|h a=>induction y using ind with|h b=>induction z using ind with|h c=>
 exact pt fun n=>Rat.add_assoc _ _ _
theorem mul_comm (x y:R):x*y=y*x:=by
 induction x using ind with|h a=>induction y using ind with|h b=>
 exact pt fun n=>Rat.mul_comm _ _
theorem mul_assoc (x y z:R):x*y*z=x*(y*z):=by
 induction x using ind with|h a=>induction y using ind with|h b=>induction z using ind with|h c=>
 exact pt fun n=>Rat.mul_assoc _ _ _
theorem mul_add (x y z:R):x*(y+z)=x*y+x*z:=by
 induction x using ind with|h a=>induction y using ind with|h b=>induction z using ind with|h c=>
 exact pt fun n=>Rat.mul_add _ _ _
theorem add_mul (x y z:R):(x+y)*z=x*z+y*z:=by rw[mul_comm,mul_add,mul_comm z,mul_comm z]
theorem add_zero (x:R):x+q 0=x:=by
 induction x using ind with|h a=>exact pt fun n=>Rat.add_zero _
theorem zero_add (x:R):q 0+x=x:=by rw[add_comm,add_zero]
theorem mul_one (x:R):x*q 1=x:=by
 induction x using ind with|h a=>exact pt fun n=>Rat.mul_one _
theorem one_mul (x:R):q 1*x=x:=by rw[mul_comm,mul_one]
theorem mul_zero (x:R):x*q 0=q 0:=by
 induction x using ind with|h a=>exact pt fun n=>Rat.mul_zero _
theorem zero_mul (x:R):q 0*x=q 0:=by rw[mul_comm,mul_zero]
theorem add_neg (x:R):x+ -x=q 0:=by
 induction x using ind with|h a=>exact pt fun n=>Rat.add_neg_cancel _
theorem sub_self (x:R):x-x=q 0:=add_neg x
theorem neg_add (x:R): -x+x=q 0:=by rw[add_comm,add_neg]
theorem neg_mul (x y:R): -x*y= -(x*y):=by
 induction x using ind with|h a=>induction y using ind with|h b=>
 exact pt fun n=>Rat.neg_mul _ _
theorem mul_neg (x y:R):x* -y= -(x*y):=by rw[mul_comm,neg_mul,mul_comm]
theorem neg_neg (x:R): - -x=x:=by
 induction x using ind with|h a=>exact pt fun n=>Rat.neg_neg _
theorem vH (x y:Rat):q (x+y)=q x+q y:=pt fun _=>rfl
theorem dr (x y:Rat):q (x*y)=q x*q y:=pt fun _=>rfl
theorem vL (x:Rat):q (-x)= -q x:=pt fun _=>rfl
theorem gi: -q 0=q 0:=pt fun _=>rfl
theorem rE (x y:R): -(x+y)= -x+ -y:=by
 induction x using ind with|h a=>induction y using ind with|h b=>
 exact pt fun n=>Rat.neg_add
theorem sub_zero (x:R):x-q 0=x:=by rw[sub_def,gi,add_zero]
theorem gC {x y:R}(h:x-y=q 0):x=y:=by
 have:x-y+y=y:=by rw[h,zero_add]
 rw[sub_def,add_assoc,neg_add,add_zero]at this;exact this
theorem tP {x:Rat}:pos (q x)↔0<x:=by
 constructor
 ·rintro⟨e,he,N,hN⟩
  have:e<x:=hN N (Nat.le_refl _)
  grind
 intro h;exact⟨x/2,bL h,0,fun n _=>by show x/2<x;grind⟩
theorem pV {x y:R}:pos x→pos y→pos (x+y):=by
 induction x using ind with|h a=>induction y using ind with|h b=>
 rintro⟨e,he,N,hN⟩ ⟨f,hf,M,hM⟩;refine⟨e+f,by grind,max N M,fun n hn=>?_⟩;have h1:=hN n (by omega);have h2:=hM n (by omega);show e+f<a.s n+b.s n
 grind
theorem dI {x y:R}:pos x→pos y→pos (x*y):=by
 induction x using ind with|h a=>induction y using ind with|h b=>
 rintro⟨e,he,N,hN⟩ ⟨f,hf,M,hM⟩;refine⟨e*f,Rat.mul_pos he hf,max N M,fun n hn=>?_⟩;have h1:=hN n (by omega);have h2:=hM n (by omega);show e*f<a.s n*b.s n;have h3:=Rat.mul_pos (a:=a.s n-e) (b:=f) (by grind) hf;have h4:=Rat.mul_pos (a:=a.s n) (b:=b.s n-f) (by grind) (by grind)
 grind
theorem kA:¬pos (q 0):=fun h=>absurd (tP.1 h) (by decide)
theorem DZ {x:R}(h:pos x)(k:pos (-x)):False:=by
 have:=pV h k
 rw[add_neg]at this;exact kA this
theorem OT (x:R):x=q 0∨pos x∨pos (-x):=by
 induction x using ind with|h a=>
 by_cases h:a.pos
 ·exact .inr (.inl h)
 by_cases k:a.neg.pos
 ·exact .inr (.inr k)
 refine .inl (sound fun e he=>?_);obtain⟨N,hN⟩:=a.h (e/2) (bL he);have h1:∃n,N≤n∧¬e/2<a.s n:=Classical.byContradiction fun hh=>h ⟨e/2,bL he,N,fun n hn=>Classical.byContradiction fun h2=>hh ⟨n,hn,h2⟩⟩;have k1:∃n,N≤n∧¬e/2< -a.s n:=Classical.byContradiction fun hh=>k ⟨e/2,bL he,N,fun n hn=>Classical.byContradiction fun h2=>hh ⟨n,hn,h2⟩⟩;obtain⟨m,hm,h1⟩:=h1;obtain⟨l,hl,k1⟩:=k1;refine⟨N,fun n hn=>?_⟩;have h2:=hN n m hn hm;have k2:=hN n l hn hl;show Nr (a.s n-0) e;unfold Nr at*;grind
theorem iu {x:R}(h:pos x):x≠q 0:=fun e=>by subst e;exact kA h
theorem xf {x:R}(h:pos (-x)):x≠q 0:=fun e=>by subst e;rw[gi]at h;exact kA h
theorem qZ {x y:R}(hx:x≠q 0)(hy:y≠q 0):x*y≠q 0:=by
 rcases(OT x).resolve_left hx with h|h<;>rcases(OT y).resolve_left hy with k|k
 ·exact iu (dI h k)
 ·refine xf ?_;rw[←mul_neg];exact dI h k
 ·refine xf ?_;rw[←neg_mul];exact dI h k
 refine iu ?_
 have:=dI h k
 rwa [neg_mul,mul_neg,neg_neg]at this
theorem gQ {x y:R}(h:x*y=q 0):x=q 0∨y=q 0:=by
 by_cases hx:x=q 0
 ·exact .inl hx
 exact .inr (Classical.byContradiction fun hy=>qZ hx hy h)
theorem jT {x y:Rat}(h:q x=q y):x=y:=by
 have h0:q (x-y)=q 0:=by rw[show x-y=x+ -y by grind,vH,vL,h,add_neg]
 have h1:¬0<x-y:=fun hp=>iu (tP.2 hp) h0;have h2:¬0< -(x-y):=fun hp=>xf (x:=q (x-y)) (by rw[←vL];exact tP.2 hp) h0
 grind
theorem gB {x y z:R}(h:x*z=y*z)(hz:z≠q 0):x=y:=by
 refine gC ((gQ (y:=z) ?_).resolve_right hz);rw[sub_def,add_mul,neg_mul,h,add_neg]
theorem zu {x:R}:pos x→∃y,x*y=q 1:=by
 induction x using ind with|h a=>
 rintro⟨e,he,N,hN⟩;have RT:∀n,N≤n→a.s n≠0:=fun n hn=>by have:=hN n hn;grind
 let b:Sq:=⟨fun n=>(a.s (max n N))⁻¹,fun f hf=>by
  obtain⟨M,hM⟩:=a.h (f*(e*e)) (Rat.mul_pos hf (Rat.mul_pos he he));refine⟨M,fun m n hm hn=>?_⟩;have h1:=hM (max m N) (max n N) (by omega) (by omega);have a1:=hN (max m N) (by omega);have a2:=hN (max n N) (by omega)
  revert h1 a1 a2
  generalize a.s (max m N)=u
  generalize a.s (max n N)=v
  intro h1 hu hv;have u0:0<u:=by grind
  have v0:0<v:=by grind
  have h2:u⁻¹-v⁻¹=(v-u)*(u⁻¹*v⁻¹):=by
   have:u≠0:=by grind
   have:v≠0:=by grind
   grind
  have p:=Rat.mul_pos (Rat.inv_pos.2 u0) (Rat.inv_pos.2 v0);have huv:e*e<u*v:=by
   have h3:=Rat.mul_pos (a:=u-e) (b:=e) (by grind) he;have h4:=Rat.mul_pos (a:=u) (b:=v-e) (by grind) (by grind)
   grind
  have XJ:u*v*(u⁻¹*v⁻¹)=1:=by
   have:u≠0:=by grind
   have:v≠0:=by grind
   grind
  rw[h2]
  revert p XJ
  generalize u⁻¹*v⁻¹=w
  intro p XJ;unfold Nr at*
  have k1:=Rat.mul_pos (a:=f*(e*e)-(v-u)) (b:=w) (by grind) p;have k2:=Rat.mul_pos (a:=f*(e*e)+(v-u)) (b:=w) (by grind) p;have k3:=Rat.mul_pos (a:=f*(u*v-e*e)) (b:=w) (Rat.mul_pos hf (by grind)) p;have k4:f*(u*v)*w=f:=by rw[Rat.mul_assoc,XJ,Rat.mul_one]
  grind⟩
 refine⟨mk b,sound fun f hf=>⟨N,fun n hn=>?_⟩⟩;have h1:a.s n*(a.s (max n N))⁻¹=1:=by
  rw[Nat.max_eq_left hn,Rat.mul_inv_cancel _ (RT n hn)]
 show Nr (a.s n*(a.s (max n N))⁻¹-1) f;rw[h1];unfold Nr;grind
theorem inv {x:R}(h:x≠q 0):∃y,x*y=q 1:=by
 rcases(OT x).resolve_left h with h|h
 ·exact zu h
 obtain⟨y,hy⟩:=zu h;exact⟨-y,by rw[mul_neg,←neg_mul,hy]⟩
def nn (x:R):Prop:=¬pos (-x)
theorem br {x:R}:nn x↔x=q 0∨pos x:=by
 constructor
 ·intro h
  rcases OT x with k|k|k
  ·exact .inl k
  ·exact .inr k
  exact absurd k h
 rintro(rfl|h) k
 ·rw[gi]at k;exact kA k
 exact DZ h k
theorem FG (b:Rat)(hb:0≤b)(d:Rat)(hd:0<d):∃s:Rat,0≤s∧s*s≤b∧b<(s+d)*(s+d):=by
 have key:∀k:Nat,b<(k*d)*(k*d)→∃s:Rat,0≤s∧s*s≤b∧b<(s+d)*(s+d):=by
  intro k
  induction k with
  |zero=>intro h;exfalso;simp at h;grind
  |succ k ih=>
   intro h
   by_cases hk:b<(k*d)*(k*d)
   ·exact ih hk
   refine⟨k*d,Rat.mul_nonneg (by simp[Rat.natCast_nonneg]) (by grind),by grind,?_⟩;have e:((k+1:Nat):Rat)*d=k*d+d:=by rw[Rat.natCast_add];grind
   rw[e]at h;exact h
 obtain⟨k,hk⟩:∃k:Nat,b/(d*d)+1<(k:Rat):=by
  refine⟨(b/(d*d)+1).ceil.toNat+1,?_⟩;have h1:=Rat.le_ceil (x:=b/(d*d)+1);have h2:((b/(d*d)+1).ceil:Rat)≤(((b/(d*d)+1).ceil.toNat:Nat):Rat):=by
   rw[←Rat.intCast_natCast,Rat.intCast_le_intCast];exact Int.self_le_toNat _
  rw[Rat.natCast_add]
  grind
 refine key k ?_;have Z6:=Rat.mul_pos hd hd;have h0:0≤b/(d*d):=by rw[Rat.div_def];exact Rat.mul_nonneg hb (Rat.le_of_lt (Rat.inv_pos.2 Z6))
 have e1:b/(d*d)*(d*d)=b:=div_mul Z6;have k1:(1:Rat)<k:=by grind
 have h2:=Rat.mul_pos (a:=(k:Rat)-b/(d*d)) (b:=d*d) (by grind) Z6;have h3:=Rat.mul_pos (a:=(k:Rat)*((k:Rat)-1)) (b:=d*d) (Rat.mul_pos (by grind) (by grind)) Z6
 grind
theorem Ni (e:Rat)(he:0<e):∃N:Nat,∀n,N≤n→(1:Rat)/((n:Rat)+1)<e:=by
 refine⟨(1/e).ceil.toNat,fun n hn=>?_⟩;have h1:=Rat.le_ceil (x:=1/e);have h2:((1/e).ceil:Rat)≤(n:Rat):=by
  rw[←Rat.intCast_natCast,Rat.intCast_le_intCast];omega
 have h3:1/e<(n:Rat)+1:=by grind
 have e0:e≠0:=by grind
 have Uo:=div_pos (a:=1) (by decide) he;have n0:0<(n:Rat)+1:=by grind
 have h4:=Rat.mul_pos (a:=(n:Rat)+1-1/e) (b:=e) (by grind) he;have h5:1/e*e=1:=div_mul he;have h6:1<((n:Rat)+1)*e:=by grind
 have h7:=Rat.mul_pos (a:=((n:Rat)+1)*e-1) (b:=1/((n:Rat)+1)) (by grind) (div_pos (by decide) n0);have h8:1/((n:Rat)+1)*((n:Rat)+1)=1:=div_mul n0
 revert h7 h8
 generalize 1/((n:Rat)+1)=r
 generalize(n:Rat)+1=m
 intro h7 h8;have h9:(m*e-1)*r=r*m*e-r:=by grind
 rw[h9,h8]at h7
 grind
end Go.R
namespace Go.R
open Go.Re
theorem Lj {a:Sq}(h:nn (mk a)){e:Rat}(he:0<e):∃N,∀n,N≤n→ -e<a.s n:=by
 rcases br.1 h with h|h
 ·obtain⟨N,hN⟩:=exact (b:=Sq.const 0) h e he;refine⟨N,fun n hn=>?_⟩;have h1:Nr (a.s n-0) e:=hN n hn;unfold Nr at h1;grind
 obtain⟨f,hf,N,hN⟩:=h;refine⟨N,fun n hn=>?_⟩
 have:=hN n hn
 grind
theorem mr {x:R}(h:nn x):∃y,nn y∧y*y=x:=by
 induction x using ind with|h a=>
 let b:Nat→Rat:=fun n=>if 0≤a.s n then a.s n else 0
 have XG:∀n,0≤b n:=fun n=>by show 0≤ite _ _ _;split<;>grind
 have dp:∀n:Nat,(0:Rat)<1/((n:Rat)+1):=fun n=>div_pos (by decide) (by have:(0:Rat)≤n:=Rat.natCast_nonneg;grind);obtain⟨s,hs⟩:=Classical.axiomOfChoice (r:=fun(n:Nat) (s:Rat)=>0≤s∧s*s≤b n∧b n<(s+1/((n:Rat)+1))*(s+1/((n:Rat)+1))) fun n=>FG (b n) (XG n) _ (dp n);have hbc:∀m n (e:Rat),Nr (a.s m-a.s n) e→b m-b n<e:=by
  intro m n e h;unfold Nr at h
  show(ite _ _ _:Rat)-ite _ _ _<e
  split<;>split<;>grind
 have hc:∀e,0<e→∃N,∀m n,N≤m→N≤n→s m<s n+e:=by
  intro e he;obtain⟨N,hN⟩:=a.h (e*e/2) (bL (Rat.mul_pos he he));obtain⟨M,hM⟩:=Ni (e/2) (bL he);refine⟨max N M,fun m n hm hn=>?_⟩;have h1:=hbc m n _ (hN m n (by omega) (by omega));obtain⟨m1,m2,m3⟩:=hs m;obtain⟨n1,n2,n3⟩:=hs n;have hd:=hM n (by omega);have dn:=dp n
  revert hd dn n3
  generalize(1:Rat)/((n:Rat)+1)=d
  intro n3 hd dn;refine Rat.not_le.1 fun hh=>?_;have k1:=Rat.mul_nonneg (a:=s m-(s n+e)) (b:=s m+(s n+e)) (by grind) (by grind);have k2:=Rat.mul_nonneg (a:=e/2-d) (b:=2*s n+d+e/2) (by grind) (by grind);have k3:=Rat.mul_nonneg (a:=s n) (b:=e) n1 (Rat.le_of_lt he);have k4:=Rat.mul_pos he he
  grind
 let y:Sq:=⟨s,fun e he=>by
  obtain⟨N,hN⟩:=hc e he;refine⟨N,fun m n hm hn=>?_⟩;have h1:=hN m n hm hn;have h2:=hN n m hn hm;unfold Nr;grind⟩
 refine⟨mk y,?_,?_⟩
 ·rintro⟨e,he,N,hN⟩;have h1:e< -s N:=hN N (Nat.le_refl _)
  have:=(hs N).1
  grind
 refine sound fun e he=>?_;obtain⟨B,hB,hy⟩:=y.sk;obtain⟨N,hN⟩:=Lj h (bL he);have hq:0<e/2/(2*B+1):=div_pos (bL he) (by grind);obtain⟨M,hM⟩:=Ni (e/2/(2*B+1)) hq;obtain⟨L,hL⟩:=Ni 1 (by decide);refine⟨max N (max M L),fun n hn=>?_⟩;obtain⟨n1,n2,n3⟩:=hs n;have hd:=hM n (by omega);have hl:=hL n (by omega);have dn:=dp n;have ha:=hN n (by omega);have hyn:Nr (s n) B:=hy n;have hb:a.s n≤b n∧b n<a.s n+e/2∨a.s n=b n:=by
  show a.s n≤ite _ _ _∧ite _ _ _<a.s n+e/2∨a.s n=ite _ _ _
  split<;>grind
 show Nr (s n*s n-a.s n) e
 revert hd dn n3 hl
 generalize(1:Rat)/((n:Rat)+1)=d
 intro n3 hd hl dn;have e1:e/2/(2*B+1)*(2*B+1)=e/2:=div_mul (by grind)
 revert e1 hd
 generalize e/2/(2*B+1)=g
 intro hd e1;unfold Nr at*
 have k1:=Rat.mul_nonneg (a:=g-d) (b:=2*B+1) (by grind) (by grind);have k2:=Rat.mul_nonneg (a:=d) (b:=B-s n) (by grind) (by grind);have k3:=Rat.mul_nonneg (a:=d) (b:=1-d) (by grind) (by grind)
 grind
noncomputable def sqrt (x:R):R:=open Classical in if h:nn x then Classical.choose (mr h)else q 0
theorem dk {x:R}(h:nn x):sqrt x*sqrt x=x:=by
 unfold sqrt;rw[dif_pos h];exact(Classical.choose_spec (mr h)).2
theorem Dn (x:R):nn (sqrt x):=by
 unfold sqrt
 split
 ·rename_i h;exact(Classical.choose_spec (mr h)).1
 exact br.2 (.inl rfl)
end Go.R
namespace Go.R
open Go.Re
theorem Gh (x y u v s:R):(x+y*s)*(u+v*s)=(x*u+y*v*(s*s))+(x*v+y*u)*s:=by
 induction x using ind with|h x=>induction y using ind with|h y=>induction u using ind with|h u=>induction v using ind with|h v=>induction s using ind with|h s=>
 exact pt fun n=>by simp only[Sq.add,Sq.mul];grind
theorem pn (x y s:R):(x+y*s)*(x-y*s)=x*x+ -(y*y*(s*s)):=by
 induction x using ind with|h x=>induction y using ind with|h y=>induction s using ind with|h s=>
 exact pt fun n=>by simp only[Sq.add,Sq.mul,Sq.neg];grind
theorem FX (x y u v s:R):(x+y*s)+(u+v*s)=(x+u)+(y+v)*s:=by
 induction x using ind with|h x=>induction y using ind with|h y=>induction u using ind with|h u=>induction v using ind with|h v=>induction s using ind with|h s=>
 exact pt fun n=>by simp only[Sq.add,Sq.mul];grind
theorem Ic (x y s:R): -(x+y*s)= -x+ -y*s:=by
 induction x using ind with|h x=>induction y using ind with|h y=>induction s using ind with|h s=>
 exact pt fun n=>by simp only[Sq.add,Sq.mul,Sq.neg];grind
noncomputable def b9 (x:R):Int:=open Classical in if pos x then 1 else if pos (-x)then-1 else 0
theorem gM {x:R}(h:pos x):b9 x=1:=by unfold b9;rw[if_pos h]
theorem nE {x:R}(h:pos (-x)):b9 x= -1:=by unfold b9;rw[if_neg (fun k=>DZ k h),if_pos h]
theorem gg:b9 (q 0)=0:=by
 unfold b9;rw[if_neg kA,if_neg (by rw[gi];exact kA)]
theorem dg (x:R):x=q 0∧b9 x=0∨pos x∧b9 x=1∨pos (-x)∧b9 x= -1:=by
 rcases OT x with h|h|h
 ·exact .inl ⟨h,h▸gg⟩
 ·exact .inr (.inl ⟨h,gM h⟩)
 exact .inr (.inr ⟨h,nE h⟩)
theorem mX {x:R}:b9 x=0↔x=q 0:=by
 rcases dg x with⟨h,e⟩|⟨h,e⟩|⟨h,e⟩
 ·exact⟨fun _=>h,fun _=>e⟩
 ·exact⟨fun k=>by omega,fun k=>absurd k (iu h)⟩
 exact⟨fun k=>by omega,fun k=>absurd k (xf h)⟩
theorem kZ (x y:R):b9 (x*y)=b9 x*b9 y:=by
 rcases dg x with⟨h,e⟩|⟨h,e⟩|⟨h,e⟩<;>rcases dg y with⟨k,f⟩|⟨k,f⟩|⟨k,f⟩<;>rw [e,f]
 ·rw[h,zero_mul,gg];rfl
 ·rw[h,zero_mul,gg];rfl
 ·rw[h,zero_mul,gg];rfl
 ·rw[k,mul_zero,gg];rfl
 ·exact gM (dI h k)
 ·exact nE (by rw[←mul_neg];exact dI h k)
 ·rw[k,mul_zero,gg];rfl
 ·exact nE (by rw[←neg_mul];exact dI h k)
 have:=dI h k
 rw[neg_mul,mul_neg,neg_neg]at this;exact gM this
theorem Pl (x:Rat):b9 (q x)=if 0<x then 1 else if x<0 then-1 else 0:=by
 by_cases h:0<x
 ·rw[if_pos h,gM (tP.2 h)]
 rw[if_neg h]
 by_cases k:x<0
 ·rw[if_pos k];exact nE (by rw[←vL];exact tP.2 (by grind))
 rw[if_neg k,show x=0 by grind,gg]
theorem HV {x y s:R}(hs:pos s):b9 (x+y*s)=if b9 y=0∨b9 x=b9 y then b9 x else if b9 x=0 then b9 y else b9 x*b9 (x*x+ -(y*y*(s*s))):=by
 have hss:=gM hs;have Wu:b9 (y*s)=b9 y:=by rw[kZ,hss,Int.mul_one]
 have hn:=congrArg b9 (pn x y s);rw[kZ]at hn
 rcases dg x with⟨h,e⟩|⟨h,e⟩|⟨h,e⟩<;>rcases dg y with⟨k,f⟩|⟨k,f⟩|⟨k,f⟩<;>rw [e,f]
 ·rw[h,zero_add,Wu,f];rfl
 ·rw[h,zero_add,Wu,f];rfl
 ·rw[h,zero_add,Wu,f];rfl
 ·rw[k,zero_mul,add_zero,e];rfl
 ·exact gM (pV h (dI k hs))
 ·have h1:pos (x-y*s):=by rw[sub_def,←neg_mul];exact pV h (dI k hs)
  rw[gM h1,Int.mul_one]at hn;rw[hn];rw[if_neg (by omega),if_neg (by omega),Int.one_mul]
 ·rw[k,zero_mul,add_zero,e];rfl
 ·have h1:pos (-(x-y*s)):=by rw[sub_def,rE,neg_neg];exact pV h (dI k hs)
  rw[nE h1]at hn;rw[←hn];rw[if_neg (by omega),if_neg (by omega)];omega
 refine nE ?_;rw[rE,←neg_mul];exact pV h (dI k hs)
theorem zU {x:R}(h:pos x):pos (sqrt x):=by
 rcases br.1 (Dn x)with k|k
 ·have:=dk (br.2 (.inr h))
  rw[k,mul_zero]at this;exact absurd this.symm (iu h)
 exact k
theorem Mg (x:R):nn (x*x):=by
 rcases OT x with h|h|h
 ·rw[h,mul_zero];exact br.2 (.inl rfl)
 ·exact br.2 (.inr (dI h h))
 have:=dI h h
 rw[neg_mul,mul_neg,neg_neg]at this;exact br.2 (.inr this)
theorem yY {x y:R}(h:x*x=y*y):x=y∨x= -y:=by
 have e:(x-y)*(x- -y)=q 0:=by
  have:(x-y)*(x- -y)=x*x-y*y:=by
   induction x using ind with|h x=>induction y using ind with|h y=>
   exact pt fun n=>by simp only[Sq.add,Sq.mul,Sq.neg];grind
  rw[this,h,sub_self]
 rcases gQ e with h|h
 ·exact .inl (gC h)
 exact .inr (gC h)
theorem F4 {x y:R}(hx:nn x)(hy:nn y)(h:x*x=y*y):x=y:=by
 rcases yY h with e|e
 ·exact e
 rcases br.1 hy with k|k
 ·rw[e,k,gi]
 exact absurd (by rw[e,neg_neg];exact k) hx
theorem pE {x:R}(h:nn x):sqrt (x*x)=x:=F4 (Dn _) h (dk (Mg x))
end Go.R
namespace Go.Tw
open Go Go.R
abbrev El:=List Rat
noncomputable def val:Nat→List El→El→R
 |0,_,a=>q (a.getD 0 0)
 |h+1,t,a=>val h t (a.take (2^h))+val h t (a.drop (2^h))*sqrt (val h t (t.getD h []))
def aE (a b:El):El:=List.zipWith (· + ·) a b
def aH (a:El):El:=a.map (- ·)
def zE (n:Nat):El:=List.replicate n 0
def ai:Nat→List El→El→El→El
 |0,_,a,b=>[a.getD 0 0*b.getD 0 0]
 |h+1,t,a,b=>aE (ai h t (a.take (2^h)) (b.take (2^h))) (ai h t (ai h t (a.drop (2^h)) (b.drop (2^h))) (t.getD h []))++
   aE (ai h t (a.take (2^h)) (b.drop (2^h))) (ai h t (a.drop (2^h)) (b.take (2^h)))
theorem ah {a:El}{h:Nat}(ha:a.length=2^(h+1)):(a.take (2^h)).length=2^h:=by
 rw[X5,ha,Nat.pow_succ];omega
theorem ag {a:El}{h:Nat}(ha:a.length=2^(h+1)):(a.drop (2^h)).length=2^h:=by
 rw[List.length_drop,ha,Nat.pow_succ];omega
theorem aq {a b:El}{n:Nat}(ha:a.length=n)(hb:b.length=n):(aE a b).length=n:=by
 unfold aE;rw[List.length_zipWith,ha,hb,Nat.min_self]
theorem ar {a:El}:(aH a).length=a.length:=List.length_map _
theorem au {n:Nat}:(zE n).length=n:=List.length_replicate
theorem aa {h:Nat}{t:List El}:∀{a b:El},(ai h t a b).length=2^h:=by
 induction h with
 |zero=>intro a b;rfl
 |succ h ih=>
  intro a b;rw[ai,X6,aq ih ih,aq ih ih,Nat.pow_succ];omega
theorem bx {a:El}(h:a.length=2^0):∃x,a=[x]:=by
 match a,h with
 |[x],_=>exact⟨x,rfl⟩
theorem gh {h:Nat}{t:List El}{a b:El}(ha:a.length=2^h):val (h+1) t (a++b)=val h t a+val h t b*sqrt (val h t (t.getD h [])):=by
 rw[val,List.take_append_of_le_length (by omega),List.take_of_length_le (by omega),List.drop_append_of_le_length (by omega),List.drop_of_length_le (by omega),List.nil_append]
theorem val_add {h:Nat}{t:List El}:∀{a b:El},a.length=2^h→b.length=2^h→val h t (aE a b)=val h t a+val h t b:=by
 induction h with
 |zero=>
  intro a b ha hb;obtain⟨x,rfl⟩:=bx ha;obtain⟨y,rfl⟩:=bx hb;exact vH x y
 |succ h ih=>
  intro a b ha hb;have e1:(aE a b).take (2^h)=aE (a.take (2^h)) (b.take (2^h)):=List.take_zipWith;have e2:(aE a b).drop (2^h)=aE (a.drop (2^h)) (b.drop (2^h)):=List.drop_zipWith;rw[val,e1,e2,ih (ah ha) (ah hb),ih (ag ha) (ag hb),val,val,FX]
theorem val_neg {h:Nat}{t:List El}:∀{a:El},a.length=2^h→val h t (aH a)= -val h t a:=by
 induction h with
 |zero=>
  intro a ha;obtain⟨x,rfl⟩:=bx ha;exact vL x
 |succ h ih=>
  intro a ha;have e1:(aH a).take (2^h)=aH (a.take (2^h)):=List.map_take.symm;have e2:(aH a).drop (2^h)=aH (a.drop (2^h)):=List.map_drop.symm;rw[val,e1,e2,ih (ah ha),ih (ag ha),val,Ic]
theorem pe {h:Nat}:(zE (2^(h+1))).take (2^h)=zE (2^h):=by
 unfold zE;rw[List.take_replicate,Nat.pow_succ,Nat.min_eq_left (by omega)]
theorem oR {h:Nat}:(zE (2^(h+1))).drop (2^h)=zE (2^h):=by
 unfold zE;rw[List.drop_replicate,Nat.pow_succ];congr 1;omega
theorem AW {h:Nat}:zE (2^h)++zE (2^h)=zE (2^(h+1)):=by
 unfold zE;rw[List.replicate_append_replicate,Nat.pow_succ];congr 1;omega
theorem val_zero {h:Nat}{t:List El}:val h t (zE (2^h))=q 0:=by
 induction h with
 |zero=>rfl
 |succ h ih=>rw[val,pe,oR,ih,zero_mul,add_zero]
def Rl (h:Nat)(t:List El):Prop:=∀i,i<h→(t.getD i []).length=2^i∧pos (val i t (t.getD i []))
theorem Rl.le {h k:Nat}{t:List El}(H:Rl h t)(hk:k≤h):Rl k t:=fun i hi=>H i (by omega)
theorem Rl.root {h:Nat}{t:List El}(H:Rl (h+1) t):sqrt (val h t (t.getD h []))*sqrt (val h t (t.getD h []))=val h t (t.getD h []):=
 dk (br.2 (.inr (H h (by omega)).2))
theorem val_mul {h:Nat}{t:List El}:∀(_:Rl h t) {a b:El},a.length=2^h→b.length=2^h→val h t (ai h t a b)=val h t a*val h t b:=by
 induction h with
 |zero=>intro _ a b _ _;exact dr _ _
 |succ h ih=>
  intro H a b ha hb;have H':=H.le (Nat.le_succ h);rw[ai,gh (aq aa aa),val_add aa aa,val_add aa aa,ih H' (ah ha) (ah hb),ih H' aa (H h (by omega)).1,
   ih H' (ag ha) (ag hb),ih H' (ah ha) (ag hb),ih H' (ag ha) (ah hb),val,val,Gh,H.root]
def aO (h:Nat)(t:List El)(a:El):El:=aE (ai h t (a.take (2^h)) (a.take (2^h))) (aH (ai h t (ai h t (a.drop (2^h)) (a.drop (2^h))) (t.getD h [])))
theorem aJ {h:Nat}{t:List El}{a:El}:(aO h t a).length=2^h:=aq aa (by rw[ar,aa])
theorem fk {h:Nat}{t:List El}(H:Rl (h+1) t){a:El}(ha:a.length=2^(h+1)):
  val h t (aO h t a)=val h t (a.take (2^h))*val h t (a.take (2^h))+ -(val h t (a.drop (2^h))*val h t (a.drop (2^h))*(sqrt (val h t (t.getD h []))*sqrt (val h t (t.getD h [])))):=by
 have H':=H.le (Nat.le_succ h);unfold aO;rw[val_add aa (by rw[ar,aa]),val_neg aa,val_mul H' (ah ha) (ah ha),val_mul H' aa (H h (by omega)).1,val_mul H' (ag ha) (ag ha),H.root]
def bn:Nat→List El→El→Int
 |0,_,a=>if 0<a.getD 0 0 then 1 else if a.getD 0 0<0 then-1 else 0
 |h+1,t,a=>
  if bn h t (a.drop (2^h))=0∨bn h t (a.take (2^h))=bn h t (a.drop (2^h))then bn h t (a.take (2^h))
  else if bn h t (a.take (2^h))=0 then bn h t (a.drop (2^h))
  else bn h t (a.take (2^h))*bn h t (aO h t a)
theorem cE {h:Nat}{t:List El}:∀(_:Rl h t) {a:El},a.length=2^h→bn h t a=b9 (val h t a):=by
 induction h with
 |zero=>intro _ a _;exact(Pl _).symm
 |succ h ih=>
  intro H a ha;have H':=H.le (Nat.le_succ h);rw[bn,ih H' (ah ha),ih H' (ag ha),ih H' aJ,fk H ha,val,HV (zU (H h (by omega)).2)]
end Go.Tw
namespace Go.R
open Go.Re
theorem yK (p g s:R):(p+g*s)*(p+g*s)=(p*p+g*g*(s*s))+(p*g+p*g)*s:=by
 induction p using ind with|h p=>induction g using ind with|h g=>induction s using ind with|h s=>
 exact pt fun n=>by simp only[Sq.add,Sq.mul];grind
theorem Hk (p g r:R):(p*p+ -(g*g*r))*(p*p+ -(g*g*r))=(p*p+g*g*r)*(p*p+g*g*r)+ -((p*g+p*g)*(p*g+p*g)*r):=by
 induction p using ind with|h p=>induction g using ind with|h g=>induction r using ind with|h r=>
 exact pt fun n=>by simp only[Sq.add,Sq.mul,Sq.neg];grind
theorem M9 (p g u r:R):(p*p+p*p+ -u)*(p*p+p*p+ -u)+ -(u*u+ -((p*g+p*g)*(p*g+p*g)*r))=(p*p)*(p*p+g*g*r+ -u)*q 4:=by
 induction p using ind with|h p=>induction g using ind with|h g=>induction u using ind with|h u=>induction r using ind with|h r=>
 exact pt fun n=>by simp only[Sq.add,Sq.mul,Sq.neg,Sq.const];grind
theorem nk {x y:R}(h:x+y=q 0):x= -y:=by
 refine gC ?_;rw[sub_def,neg_neg,h]
theorem Cw {x y z:R}(h:x+z=y+z):x=y:=by
 have:=congrArg (· + -z) h
 simp only[add_assoc,add_neg,add_zero]at this;exact this
theorem FT:q 2≠q 0:=fun h=>absurd (jT h) (by decide)
theorem il:q 1≠q 0:=fun h=>absurd (jT h) (by decide)
theorem D8 (x:R):x+x=q 2*x:=by
 induction x using ind with|h x=>
 exact pt fun n=>by simp only[Sq.add,Sq.mul,Sq.const];grind
theorem Cv {x:R}(h:x+x=q 0):x=q 0:=by
 rw[D8]at h;exact(gQ h).resolve_left FT
theorem P7 {x:R}(h:x*x=q 0):x=q 0:=by
 rcases gQ h with h|h<;>exact h
end Go.R
namespace Go.Tw
open Go Go.R
def In (h:Nat)(t:List El)(x:R):Prop:=∃a:El,a.length=2^h∧val h t a=x
theorem In.of {h:Nat}{t:List El}{a:El}(ha:a.length=2^h):In h t (val h t a):=⟨a,ha,rfl⟩
theorem In.add {h:Nat}{t:List El}{x y:R}(hx:In h t x)(hy:In h t y):In h t (x+y):=by
 obtain⟨a,ha,rfl⟩:=hx;obtain⟨b,hb,rfl⟩:=hy;exact⟨aE a b,aq ha hb,val_add ha hb⟩
theorem In.neg {h:Nat}{t:List El}{x:R}(hx:In h t x):In h t (-x):=by
 obtain⟨a,ha,rfl⟩:=hx;exact⟨aH a,by rw[ar,ha],val_neg ha⟩
theorem In.mul {h:Nat}{t:List El}(H:Rl h t){x y:R}(hx:In h t x)(hy:In h t y):In h t (x*y):=by
 obtain⟨a,ha,rfl⟩:=hx;obtain⟨b,hb,rfl⟩:=hy;exact⟨ai h t a b,aa,val_mul H ha hb⟩
def aU (h:Nat)(x:Rat):El:=x::zE (2^h-1)
theorem ay {h:Nat}{x:Rat}:(aU h x).length=2^h:=by
 unfold aU;rw[List.length_cons,au];have:=Nat.two_pow_pos h;omega
theorem qA {h:Nat}{x:Rat}:aU (h+1) x=aU h x++zE (2^h):=by
 unfold aU zE;rw[List.cons_append,List.replicate_append_replicate,Nat.pow_succ]
 have:=Nat.two_pow_pos h
 congr 2;omega
theorem bE {h:Nat}{t:List El}{x:Rat}:val h t (aU h x)=q x:=by
 induction h with
 |zero=>rfl
 |succ h ih=>rw[qA,gh ay,ih,val_zero,zero_mul,add_zero]
theorem In.rat {h:Nat}{t:List El}(x:Rat):In h t (q x):=⟨aU h x,ay,bE⟩
theorem kS {h:Nat}{t:List El}{a:El}(ha:a.length=2^h):val (h+1) t (a++zE (2^h))=val h t a:=by
 rw[gh ha,val_zero,zero_mul,add_zero]
theorem In.up {h:Nat}{t:List El}{x:R}(hx:In h t x):In (h+1) t x:=by
 obtain⟨a,ha,rfl⟩:=hx;exact⟨a++zE (2^h),by rw[X6,ha,au,Nat.pow_succ];omega,kS ha⟩
theorem In.split {h:Nat}{t:List El}{x:R}(hx:In (h+1) t x):∃u v,In h t u∧In h t v∧x=u+v*sqrt (val h t (t.getD h [])):=by
 obtain⟨a,ha,rfl⟩:=hx;exact⟨_,_,.of (ah ha),.of (ag ha),rfl⟩
theorem In.join {h:Nat}{t:List El}{u v:R}(hu:In h t u)(hv:In h t v):In (h+1) t (u+v*sqrt (val h t (t.getD h []))):=by
 obtain⟨a,ha,rfl⟩:=hu;obtain⟨b,hb,rfl⟩:=hv;exact⟨a++b,by rw[X6,ha,hb,Nat.pow_succ];omega,gh ha⟩
theorem In.root {h:Nat}{t:List El}:In (h+1) t (sqrt (val h t (t.getD h []))):=by
 have:=In.join (t:=t) (In.rat (h:=h) 0) (In.rat (h:=h) 1)
 rwa [one_mul,zero_add]at this
theorem In.le {h k:Nat}{t:List El}{x:R}(hx:In h t x)(hk:h≤k):In k t x:=by
 obtain⟨d,rfl⟩:=Nat.exists_eq_add_of_le hk;clear hk
 induction d with
 |zero=>exact hx
 |succ d ih=>exact ih.up
structure Rd (h:Nat) (t:List El):Prop where
 rl:Rl h t
 ns:∀i,i<h→∀x,In i t x→x*x≠val i t (t.getD i [])
theorem Rd.le {h k:Nat}{t:List El}(H:Rd h t)(hk:k≤h):Rd k t:=⟨H.rl.le hk,fun i hi=>H.ns i (by omega)⟩
theorem Rd.zL {h:Nat}{t:List El}(H:Rd (h+1) t):¬In h t (sqrt (val h t (t.getD h []))):=fun k=>H.ns h (by omega) _ k H.rl.root
def cA:Nat→List El→El→Option El
 |0,_,a=>if a.getD 0 0=0 then none else some [(a.getD 0 0)⁻¹]
 |h+1,t,a=>(cA h t (aO h t a)).map fun n=>ai h t (a.take (2^h)) n++aH (ai h t (a.drop (2^h)) n)
theorem dh {h:Nat}{t:List El}:∀(_:Rl h t) {a b:El},a.length=2^h→cA h t a=some b→b.length=2^h∧val h t a*val h t b=q 1:=by
 induction h with
 |zero=>
  intro _ a b _ hb;rw[cA]at hb
  split at hb
  ·cases hb
  rename_i h0
  cases hb
  refine⟨rfl,?_⟩;show q _*q _=q 1;rw[←dr,X0,Rat.mul_inv_cancel _ h0]
 |succ h ih=>
  intro H a b ha hb;have H':=H.le (Nat.le_succ h);rw[cA,Option.map_eq_some_iff]at hb;obtain⟨n,hn,rfl⟩:=hb;obtain⟨hl,hv⟩:=ih H' aJ hn;refine⟨by rw[X6,ar,aa,aa,Nat.pow_succ];omega,?_⟩;rw[fk H ha]at hv;rw[gh aa,val_neg aa,val_mul H' (ah ha) hl,val_mul H' (ag ha) hl,val,←hv,←pn]
  generalize val h t (a.take (2^h))=x
  generalize val h t (a.drop (2^h))=y
  generalize val h t n=m
  rw[neg_mul,mul_assoc y m,mul_comm m,←mul_assoc y,←neg_mul,←add_mul,sub_def,mul_assoc]
theorem th {h:Nat}{t:List El}(H:Rl h t)(hinv:∀x,In h t x→x≠q 0→∃y,In h t y∧x*y=q 1){x y s:R}(hx:In h t x)(hy:In h t y)(he:x+y*s=q 0)(hs:¬In h t s):y=q 0∧x=q 0:=by
 by_cases h0:y=q 0
 ·exact⟨h0,by rwa [h0,zero_mul,add_zero]at he⟩
 exfalso
 obtain⟨z,hz,hyz⟩:=hinv y hy h0
 apply hs
 have:s= -(x*z):=by
  have e:=nk (x:=y*s) (y:=x) (by rw[add_comm];exact he)
  have:=congrArg (z* ·) e
  simp only[←mul_assoc,mul_neg]at this;rw[mul_comm z y,hyz,one_mul,mul_comm z x]at this;exact this
 rw[this];exact(In.mul H hx hz).neg
theorem mU {h:Nat}{t:List El}:∀(_:Rd h t) {a:El},a.length=2^h→cA h t a=none→val h t a=q 0:=by
 induction h with
 |zero=>
  intro _ a _ hb;rw[cA]at hb
  split at hb
  ·rename_i h0
   show q _=q 0;rw[h0]
  cases hb
 |succ h ih=>
  intro H a ha hb;have H':=H.le (Nat.le_succ h);rw[cA,Option.map_eq_none_iff]at hb;have h0:=ih H' aJ hb;have hinv:∀x,In h t x→x≠q 0→∃y,In h t y∧x*y=q 1:=by
   rintro x ⟨a,ha,rfl⟩ h0
   cases hi:cA h t a with
   |none=>exact absurd (ih H' ha hi) h0
   |some b=>
    obtain⟨hl,hv⟩:=dh H'.rl ha hi;exact⟨_,.of hl,hv⟩
  rw[fk H.rl ha,←pn]at h0
  rcases gQ h0 with h0|h0
  ·exact h0
  rw[sub_def,←neg_mul,←val_neg (ag ha)]at h0
  have:=th H'.rl hinv (.of (ah ha)) (.of (by rw[ar];exact ag ha)) h0 H.zL
  rw[val_neg (ag ha)]at this;rw[val,this.2,nk (y:=q 0) (x:=val h t (a.drop (2^h))) ?_,gi,zero_mul,add_zero];rw[add_zero]
  have:=congrArg (- ·) this.1
  simpa only[neg_neg,gi]using this
theorem In.inv {h:Nat}{t:List El}(H:Rd h t){x y:R}(hx:In h t x)(h1:x*y=q 1):In h t y:=by
 obtain⟨a,ha,rfl⟩:=hx
 cases hi:cA h t a with
 |none=>
  rw[mU H ha hi,zero_mul]at h1;exact absurd h1.symm il
 |some b=>
  obtain⟨hl,hv⟩:=dh H.rl ha hi
  have:y=val h t b:=by
   refine gB (z:=val h t a) ?_ ?_
   ·rw[mul_comm y,h1,mul_comm,hv]
   intro e;rw[e,zero_mul]at h1;exact il h1.symm
  rw[this];exact .of hl
theorem In.PW {h:Nat}{t:List El}(H:Rd h t)(x:R)(hx:In h t x)(h0:x≠q 0):∃y,In h t y∧x*y=q 1:=by
 obtain⟨y,hy⟩:=R.inv h0;exact⟨y,hx.inv H hy,hy⟩
theorem oF {h:Nat}{t:List El}(H:Rd (h+1) t){x y:R}(hx:In h t x)(hy:In h t y)(he:x+y*sqrt (val h t (t.getD h []))=q 0):x=q 0∧y=q 0:=
 (th (H.rl.le (Nat.le_succ h)) (In.PW (H.le (Nat.le_succ h))) hx hy he H.zL).symm
theorem jb {h:Nat}{t:List El}(H:Rd (h+1) t){x y u v:R}(hx:In h t x)(hy:In h t y)(hu:In h t u)(hv:In h t v)
  (he:x+y*sqrt (val h t (t.getD h []))=u+v*sqrt (val h t (t.getD h []))):x=u∧y=v:=by
 have:=oF H (hx.add hu.neg) (hy.add hv.neg) (by
  rw[←FX,he,←Ic,add_neg])
 exact⟨gC this.1,gC this.2⟩
theorem mO {h:Nat}{t:List El}:∀(_:Rd h t) {a:El},a.length=2^h→val h t a=q 0→a=zE (2^h):=by
 induction h with
 |zero=>
  intro _ a ha h0;obtain⟨x,rfl⟩:=bx ha;rw[show x=0 from jT h0];rfl
 |succ h ih=>
  intro H a ha h0;have H':=H.le (Nat.le_succ h);obtain⟨h1,h2⟩:=oF H (.of (ah ha)) (.of (ag ha)) h0;rw[←List.take_append_drop (2^h) a,ih H' (ah ha) h1,ih H' (ag ha) h2,AW]
theorem val_inj {h:Nat}{t:List El}:∀(_:Rd h t) {a b:El},a.length=2^h→b.length=2^h→val h t a=val h t b→a=b:=by
 induction h with
 |zero=>
  intro _ a b ha hb h0;obtain⟨x,rfl⟩:=bx ha;obtain⟨y,rfl⟩:=bx hb;rw[show x=y from jT h0]
 |succ h ih=>
  intro H a b ha hb h0;have H':=H.le (Nat.le_succ h);obtain⟨h1,h2⟩:=jb H (.of (ah ha)) (.of (ag ha)) (.of (ah hb)) (.of (ag hb)) h0;rw[←List.take_append_drop (2^h) a,←List.take_append_drop (2^h) b,ih H' (ah ha) (ah hb) h1,ih H' (ag ha) (ag hb) h2]
theorem jf {h:Nat}{t:List El}(H:Rd h t){a:El}(ha:a.length=2^h)(h0:val h t a≠q 0):∃b,cA h t a=some b∧b.length=2^h∧val h t a*val h t b=q 1:=by
 cases hi:cA h t a with
 |none=>exact absurd (mU H ha hi) h0
 |some b=>exact⟨b,rfl,dh H.rl ha hi⟩
theorem Of {h:Nat}{t:List El}(H:Rd (h+1) t){x z:R}(hx:In h t x)(hz:In (h+1) t z)(he:z*z=x):
  In h t z∧z*z=x∨∃g,In h t g∧z=g*sqrt (val h t (t.getD h []))∧g*g*val h t (t.getD h [])=x:=by
 obtain⟨p,g,hp,hg,rfl⟩:=hz.split;have H':=(H.le (Nat.le_succ h));have hr:In h t (val h t (t.getD h [])):=.of (H.rl h (by omega)).1;have e2:=he;rw[yK,H.rl.root]at e2
 have:=jb H (u:=x) (v:=q 0) ((In.mul H'.rl hp hp).add (In.mul H'.rl (In.mul H'.rl hg hg) hr)) ((In.mul H'.rl hp hg).add (In.mul H'.rl hp hg)) hx (In.rat 0) (by rw[zero_mul,add_zero];exact e2)
 rcases gQ (Cv this.2)with h0|h0
 ·right
  refine⟨g,hg,by rw[h0,zero_add],?_⟩;rw[←this.1,h0,mul_zero,zero_add]
 left
 rw[h0,zero_mul,add_zero]at he⊢;exact⟨hp,he⟩
theorem Ec {h:Nat}{t:List El}(H:Rd (h+1) t){u v z:R}(hu:In h t u)(hv:In h t v)(h0:v≠q 0)(hz:In (h+1) t z)(he:z*z=u+v*sqrt (val h t (t.getD h []))):
  ∃p g,In h t p∧In h t g∧p≠q 0∧z=p+g*sqrt (val h t (t.getD h []))∧v=p*g+p*g∧p*p+g*g*val h t (t.getD h [])=u∧
   (p*p+ -(g*g*val h t (t.getD h [])))*(p*p+ -(g*g*val h t (t.getD h [])))=u*u+ -(v*v*val h t (t.getD h [])):=by
 obtain⟨p,g,hp,hg,rfl⟩:=hz.split;have H':=(H.le (Nat.le_succ h));have hr:In h t (val h t (t.getD h [])):=.of (H.rl h (by omega)).1;rw[yK,H.rl.root]at he;obtain⟨h1,h2⟩:=jb H ((In.mul H'.rl hp hp).add (In.mul H'.rl (In.mul H'.rl hg hg) hr)) ((In.mul H'.rl hp hg).add (In.mul H'.rl hp hg)) hu hv he;refine⟨p,g,hp,hg,?_,rfl,h2.symm,h1,?_⟩
 ·rintro rfl;rw[zero_mul,add_zero]at h2;exact h0 h2.symm
 rw[Hk,h1,h2]
theorem Ln {u v r m p g s:R}(hs:s*s=r)(hm:m*m=u*u+ -(v*v*r))(hp:p*p+p*p=u+m)(h0:p≠q 0)(hg:p*g+p*g=v):(p+g*s)*(p+g*s)=u+v*s:=by
 have e:m=p*p+p*p+ -u:=by
  rw[hp,add_comm u,add_assoc,add_neg,add_zero]
 have k:=M9 p g u r;rw[←e,hg,hm,add_neg]at k
 rcases gQ k.symm with k|k
 ·rcases gQ k with k|k
  ·exact absurd (P7 k) h0
  have:p*p+g*g*r=u:=by
   have:=nk k
   rw[neg_neg]at this;exact this
  rw[yK,hs,this,hg]
 exact absurd (jT k) (by decide)
end Go.Tw
namespace Go.R
open Go.Re
theorem JH (x y a b:R):(x+y)*(a*b)=(x*a)*b+(y*b)*a:=by
 induction x using ind with|h x=>induction y using ind with|h y=>induction a using ind with|h a=>induction b using ind with|h b=>
 exact pt fun n=>by simp only[Sq.add,Sq.mul];grind
theorem jW (x y a b:R):(x*y)*(a*b)=(x*a)*(y*b):=by
 induction x using ind with|h x=>induction y using ind with|h y=>induction a using ind with|h a=>induction b using ind with|h b=>
 exact pt fun n=>by simp only[Sq.mul];grind
theorem I9 (u v a b s:R):(u+ -v*s)*(a+ -b*s)=(u*a+v*b*(s*s))+ -(u*b+v*a)*s:=by
 induction u using ind with|h u=>induction v using ind with|h v=>induction a using ind with|h a=>induction b using ind with|h b=>induction s using ind with|h s=>
 exact pt fun n=>by simp only[Sq.add,Sq.mul,Sq.neg];grind
end Go.R
namespace Go.Tw
open Go Go.R
theorem xV (x:Rat):x*(x.den:Rat)=(x.num:Rat):=by
 have h0:(x.den:Rat)≠0:=fun e=>x.den_nz (Rat.natCast_inj.1 e);have e:x=(x.num:Rat)/(x.den:Rat):=by rw[←Rat.mkRat_eq_div,Rat.mkRat_self]
 grind
theorem Hp (x:Rat):(x*x).num=x.num*x.num∧(x*x).den=x.den*x.den:=by
 rw[Rat.mul_def,Rat.normalize_eq]
 have:Nat.gcd (x.num*x.num).natAbs (x.den*x.den)=1:=by
  rw[Int.natAbs_mul];exact Nat.Coprime.mul_left (Nat.Coprime.mul_right x.reduced x.reduced) (Nat.Coprime.mul_right x.reduced x.reduced)
 constructor
 ·show _/_=_;rw[this];simp
 show _/_=_;rw[this];simp
def ab (x:Rat):Rat:=if 0≤x then x else-x
theorem PH (x:Rat):0≤ab x:=by unfold ab;split<;>grind
theorem Ox (x y:Rat):ab (x+y)≤ab x+ab y:=by unfold ab;split<;>split<;>split<;>grind
theorem NQ (x:Rat):ab (-x)=ab x:=by unfold ab;split<;>split<;>grind
theorem ND (x y:Rat):ab (x*y)=ab x*ab y:=by
 unfold ab
 by_cases hx:0≤x<;>by_cases hy:0≤y
 ·rw[if_pos hx,if_pos hy,if_pos (Rat.mul_nonneg hx hy)]
 ·rw[if_pos hx,if_neg hy]
  have:=Rat.mul_nonneg (a:=x) (b:= -y) hx (by grind)
  split<;>grind
 ·rw[if_neg hx,if_pos hy]
  have:=Rat.mul_nonneg (a:= -x) (b:=y) (by grind) hy
  split<;>grind
 rw[if_neg hx,if_neg hy]
 have:=Rat.mul_nonneg (a:= -x) (b:= -y) (by grind) (by grind)
 rw[if_pos (by grind)];grind
def dz:Nat→(Nat→Nat)→El→Rat
 |0,_,a=>ab (a.getD 0 0)
 |h+1,w,a=>dz h w (a.take (2^h))+dz h w (a.drop (2^h))*(w h:Rat)
theorem cZ {h:Nat}{w:Nat→Nat}:∀{a:El},0≤dz h w a:=by
 induction h with
 |zero=>intro a;exact PH _
 |succ h ih=>intro a;rw[dz];exact Rat.add_nonneg ih (Rat.mul_nonneg ih Rat.natCast_nonneg)
theorem nw {h:Nat}{w:Nat→Nat}{a b:El}(ha:a.length=2^h):dz (h+1) w (a++b)=dz h w a+dz h w b*(w h:Rat):=by
 rw[dz,List.take_append_of_le_length (by omega),List.take_of_length_le (by omega),List.drop_append_of_le_length (by omega),List.drop_of_length_le (by omega),List.nil_append]
theorem xZ {h:Nat}{w:Nat→Nat}:∀{a:El},a.length=2^h→dz h w (aH a)=dz h w a:=by
 induction h with
 |zero=>
  intro a ha;obtain⟨x,rfl⟩:=bx ha;exact NQ x
 |succ h ih=>
  intro a ha;have e1:(aH a).take (2^h)=aH (a.take (2^h)):=List.map_take.symm;have e2:(aH a).drop (2^h)=aH (a.drop (2^h)):=List.map_drop.symm;rw[dz,e1,e2,ih (ah ha),ih (ag ha),dz]
theorem sD {h:Nat}{w:Nat→Nat}:∀{a b:El},a.length=2^h→b.length=2^h→dz h w (aE a b)≤dz h w a+dz h w b:=by
 induction h with
 |zero=>
  intro a b ha hb;obtain⟨x,rfl⟩:=bx ha;obtain⟨y,rfl⟩:=bx hb;exact Ox x y
 |succ h ih=>
  intro a b ha hb;have e1:(aE a b).take (2^h)=aE (a.take (2^h)) (b.take (2^h)):=List.take_zipWith;have e2:(aE a b).drop (2^h)=aE (a.drop (2^h)) (b.drop (2^h)):=List.drop_zipWith;have h1:=ih (ah ha) (ah hb);have h2:=ih (ag ha) (ag hb);rw[dz,e1,e2,dz,dz];have hw:(0:Rat)≤w h:=Rat.natCast_nonneg;have h3:=Rat.mul_le_mul_of_nonneg_right h2 hw;rw[Rat.add_mul]at h3
  grind
theorem oV {h:Nat}{w:Nat→Nat}:dz h w (zE (2^h))=0:=by
 induction h with
 |zero=>rfl
 |succ h ih=>rw[dz,pe,oR,ih];grind
theorem kW {h:Nat}{w:Nat→Nat}{x:Rat}:dz h w (aU h x)=ab x:=by
 induction h with
 |zero=>rfl
 |succ h ih=>rw[qA,nw ay,ih,oV];grind
def Wt (h:Nat)(z:List El)(w:Nat→Nat):Prop:=∀i,i<h→1≤w i∧dz i w (z.getD i [])≤(w i:Rat)*(w i:Rat)
theorem Wt.le {h k:Nat}{z:List El}{w:Nat→Nat}(H:Wt h z w)(hk:k≤h):Wt k z w:=fun i hi=>H i (by omega)
theorem BY {a b c d:Rat}(ha:0≤a)(hd:0≤d)(h:a≤c)(k:b≤d):a*b≤c*d:=
 Rat.le_trans (Rat.mul_le_mul_of_nonneg_left k ha) (Rat.mul_le_mul_of_nonneg_right h hd)
theorem fN {h:Nat}{z:List El}{w:Nat→Nat}:∀(_:Wt h z w) (_:Rl h z) {a b:El},a.length=2^h→b.length=2^h→dz h w (ai h z a b)≤dz h w a*dz h w b:=by
 induction h with
 |zero=>
  intro _ _ a b ha hb;obtain⟨x,rfl⟩:=bx ha;obtain⟨y,rfl⟩:=bx hb;show ab (x*y)≤ab x*ab y;rw[ND];exact Rat.le_refl
 |succ h ih=>
  intro W L a b ha hb;have W':=W.le (Nat.le_succ h);have L':=L.le (Nat.le_succ h);obtain⟨Xx,W1⟩:=W h (by omega);have hr:=(L h (by omega)).1;have g1:=ih W' L' (ah ha) (ah hb);have g2:=ih W' L' (ag ha) (ag hb);have g3:=ih W' L' (ah ha) (ag hb);have g4:=ih W' L' (ag ha) (ah hb);have g5:=ih W' L' (a:=ai h z (a.drop (2^h)) (b.drop (2^h))) aa hr;have k1:=sD (w:=w) (a:=ai h z (a.take (2^h)) (b.take (2^h))) (b:=ai h z (ai h z (a.drop (2^h)) (b.drop (2^h))) (z.getD h [])) aa aa;have k2:=sD (w:=w) (a:=ai h z (a.take (2^h)) (b.drop (2^h))) (b:=ai h z (a.drop (2^h)) (b.take (2^h))) aa aa;rw[ai,nw (aq aa aa),dz,dz];have n1:0≤dz h w (a.take (2^h)):=cZ;have n2:0≤dz h w (a.drop (2^h)):=cZ;have n3:0≤dz h w (b.take (2^h)):=cZ;have n4:0≤dz h w (b.drop (2^h)):=cZ;have n5:0≤dz h w (ai h z (a.drop (2^h)) (b.drop (2^h))):=cZ;have n6:0≤dz h w (z.getD h []):=cZ;have hw:(0:Rat)≤w h:=Rat.natCast_nonneg;have m5:=BY n5 (Rat.mul_nonneg hw hw) g2 W1;have m6:=Rat.mul_le_mul_of_nonneg_right k2 hw;have m7:=Rat.mul_le_mul_of_nonneg_right g3 hw;have m8:=Rat.mul_le_mul_of_nonneg_right g4 hw
  grind
def s8 (x:Rat):Prop:=∃n:Int,x=(n:Rat)
theorem s8.add {x y:Rat}(h:s8 x)(k:s8 y):s8 (x+y):=by
 obtain⟨m,rfl⟩:=h;obtain⟨n,rfl⟩:=k;exact⟨m+n,(Rat.intCast_add m n).symm⟩
theorem s8.mul {x y:Rat}(h:s8 x)(k:s8 y):s8 (x*y):=by
 obtain⟨m,rfl⟩:=h;obtain⟨n,rfl⟩:=k;exact⟨m*n,(Rat.intCast_mul m n).symm⟩
theorem s8.neg {x:Rat}(h:s8 x):s8 (-x):=by
 obtain⟨m,rfl⟩:=h;exact⟨-m,(Rat.intCast_neg m).symm⟩
theorem s8.zero:s8 0:=⟨0,rfl⟩
def bu (a:El):Prop:=∀x∈a,s8 x
theorem bu.take {a:El}(h:bu a)(n:Nat):bu (a.take n):=fun x hx=>h x (List.mem_of_mem_take hx)
theorem bu.drop {a:El}(h:bu a)(n:Nat):bu (a.drop n):=fun x hx=>h x (List.mem_of_mem_drop hx)
theorem bu.app {a b:El}(h:bu a)(k:bu b):bu (a++b):=fun x hx=>by
 rcases List.mem_append.1 hx with hx|hx
 ·exact h x hx
 exact k x hx
theorem bu.neg {a:El}(h:bu a):bu (aH a):=fun x hx=>by
 obtain⟨y,hy,rfl⟩:=List.mem_map.1 hx;exact(h y hy).neg
theorem bu.add:∀{a b:El},bu a→bu b→bu (aE a b)
 |[],b,_,_=>by intro x hx;cases b<;>cases hx
 |x::a,[],_,_=>by intro y hy;cases hy
 |x::a,y::b,h,k=>by
  intro u hu;have hu:u=x+y∨u∈aE a b:=List.mem_cons.1 hu
  rcases hu with rfl|hu
  ·exact(h x (by simp)).add (k y (by simp))
  exact bu.add (fun v hv=>h v (by simp[hv])) (fun v hv=>k v (by simp[hv])) u hu
theorem bu.get {a:El}(h:bu a)(i:Nat):s8 (a.getD i 0):=by
 rw[X7]
 cases e:a[i]? with
 |none=>exact s8.zero
 |some x=>exact h x (List.mem_of_getElem? e)
def EE (h:Nat)(z:List El):Prop:=∀i,i<h→bu (z.getD i [])
theorem EE.le {h k:Nat}{z:List El}(H:EE h z)(hk:k≤h):EE k z:=fun i hi=>H i (by omega)
theorem bu.mul {h:Nat}{z:List El}:∀(_:EE h z) {a b:El},bu a→bu b→bu (ai h z a b):=by
 induction h with
 |zero=>
  intro _ a b ha hb x hx;rw[ai,List.mem_singleton]at hx;subst hx;exact(ha.get 0).mul (hb.get 0)
 |succ h ih=>
  intro T a b ha hb;have T':=T.le (Nat.le_succ h);rw[ai];exact bu.app (bu.add (ih T' (ha.take _) (hb.take _)) (ih T' (ih T' (ha.drop _) (hb.drop _)) (T h (by omega))))
   (bu.add (ih T' (ha.take _) (hb.drop _)) (ih T' (ha.drop _) (hb.take _)))
theorem bu.zero {n:Nat}:bu (zE n):=fun x hx=>by
 rw[List.eq_of_mem_replicate hx];exact s8.zero
theorem bu.rat {h:Nat}{x:Rat}(hx:s8 x):bu (aU h x):=fun y hy=>by
 rcases List.mem_cons.1 hy with rfl|hy
 ·exact hx
 exact bu.zero y hy
structure Zt (h:Nat) (z:List El) (w:Nat→Nat):Prop where
 rd:Rd h z
 int:EE h z
 wt:Wt h z w
theorem Zt.le {h k:Nat}{z:List El}{w:Nat→Nat}(H:Zt h z w)(hk:k≤h):Zt k z w:=⟨H.rd.le hk,H.int.le hk,H.wt.le hk⟩
def p2 (H:Nat):Rat:=((2^H:Nat):Rat)
theorem yh (H K:Nat):p2 (H+K)=p2 H*p2 K:=by unfold p2;rw[Nat.pow_add,Rat.natCast_mul]
theorem Mi (H:Nat):0≤p2 H:=Rat.natCast_nonneg
theorem xN {H K:Nat}(h:H≤K):p2 H≤p2 K:=Rat.natCast_le_natCast.2 (Nat.pow_le_pow_right (by decide) h)
theorem He:p2 1=2:=rfl
theorem JI:p2 0=1:=rfl
theorem Gb (H:Nat):1≤p2 H:=by rw[←JI];exact xN (Nat.zero_le _)
theorem gI {a b:Rat}{H K:Nat}(ha:0≤a)(h:a≤p2 H)(k:b≤p2 K):a*b≤p2 (H+K):=by
 rw[yh];exact BY ha (Mi _) h k
def Ht (h:Nat)(z:List El)(w:Nat→Nat)(x:R)(H:Nat):Prop:=
 ∃P Q:El,P.length=2^h∧Q.length=2^h∧bu P∧bu Q∧val h z Q≠q 0∧x*val h z Q=val h z P∧dz h w P≤p2 H∧dz h w Q≤p2 H
section
variable {h:Nat}{z:List El}{w:Nat→Nat}
theorem Ht.mono {x:R}{H K:Nat}(hx:Ht h z w x H)(hk:H≤K):Ht h z w x K:=by
 obtain⟨P,Q,hP,hQ,iP,iQ,h0,he,nP,nQ⟩:=hx;exact⟨P,Q,hP,hQ,iP,iQ,h0,he,Rat.le_trans nP (xN hk),Rat.le_trans nQ (xN hk)⟩
theorem Ht.add (Z:Zt h z w){x y:R}{H K:Nat}(hx:Ht h z w x H)(hy:Ht h z w y K):Ht h z w (x+y) (H+K+1):=by
 obtain⟨P,Q,hP,hQ,iP,iQ,h0,he,nP,nQ⟩:=hx;obtain⟨S,T,hS,hT,iS,iT,k0,ke,nS,nT⟩:=hy;have m1:=fN Z.wt Z.rd.rl hP hT;have m2:=fN Z.wt Z.rd.rl hS hQ;have m3:=fN Z.wt Z.rd.rl hQ hT;have m4:=sD (w:=w) (a:=ai h z P T) (b:=ai h z S Q) aa aa;have b1:=gI cZ nP nT;have b2:=gI cZ nS nQ;have b3:=gI cZ nQ nT;rw[Nat.add_comm K H]at b2;refine⟨aE (ai h z P T) (ai h z S Q),ai h z Q T,aq aa aa,aa,bu.add (bu.mul Z.int iP iT) (bu.mul Z.int iS iQ),bu.mul Z.int iQ iT,?_,?_,?_,?_⟩
 ·rw[val_mul Z.rd.rl hQ hT];exact qZ h0 k0
 ·rw[val_mul Z.rd.rl hQ hT,val_add aa aa,val_mul Z.rd.rl hP hT,val_mul Z.rd.rl hS hQ,JH,he,ke]
 ·rw[yh _ 1,He];grind
 rw[yh _ 1,He];have:=Mi (H+K);grind
theorem Ht.mul (Z:Zt h z w){x y:R}{H K:Nat}(hx:Ht h z w x H)(hy:Ht h z w y K):Ht h z w (x*y) (H+K):=by
 obtain⟨P,Q,hP,hQ,iP,iQ,h0,he,nP,nQ⟩:=hx;obtain⟨S,T,hS,hT,iS,iT,k0,ke,nS,nT⟩:=hy;have m1:=fN Z.wt Z.rd.rl hP hS;have m3:=fN Z.wt Z.rd.rl hQ hT;have b1:=gI cZ nP nS;have b3:=gI cZ nQ nT;refine⟨ai h z P S,ai h z Q T,aa,aa,bu.mul Z.int iP iS,bu.mul Z.int iQ iT,?_,?_,Rat.le_trans m1 b1,Rat.le_trans m3 b3⟩
 ·rw[val_mul Z.rd.rl hQ hT];exact qZ h0 k0
 rw[val_mul Z.rd.rl hQ hT,val_mul Z.rd.rl hP hS,jW,he,ke]
theorem Ht.neg {x:R}{H:Nat}(hx:Ht h z w x H):Ht h z w (-x) H:=by
 obtain⟨P,Q,hP,hQ,iP,iQ,h0,he,nP,nQ⟩:=hx;exact⟨aH P,Q,by rw[ar,hP],hQ,iP.neg,iQ,h0,by rw[neg_mul,he,val_neg hP],by rw[xZ hP];exact nP,nQ⟩
theorem Ht.inv {x y:R}{H:Nat}(hx:Ht h z w x H)(h1:x*y=q 1):Ht h z w y H:=by
 obtain⟨P,Q,hP,hQ,iP,iQ,h0,he,nP,nQ⟩:=hx;refine⟨Q,P,hQ,hP,iQ,iP,?_,?_,nQ,nP⟩
 ·rw[←he];refine qZ ?_ h0;intro e;rw[e,zero_mul]at h1;exact il h1.symm
 rw[←he,←mul_assoc,mul_comm y,h1,one_mul]
theorem Ht.rat {x:Rat}{H:Nat}(h1:x.num.natAbs≤2^H)(h2:x.den≤2^H):Ht h z w (q x) H:=by
 have hd:(x.den:Rat)≠0:=fun e=>x.den_nz (Rat.natCast_inj.1 e);refine⟨aU h (x.num:Rat),aU h (x.den:Rat),ay,ay,bu.rat ⟨_,rfl⟩,bu.rat ⟨(x.den:Int),(Rat.intCast_natCast _).symm⟩,?_,?_,?_,?_⟩
 ·rw[bE];exact fun e=>hd (jT e)
 ·rw[bE,bE,←dr,xV]
 ·rw[kW];unfold ab p2
  have:((x.num.natAbs:Nat):Rat)≤((2^H:Nat):Rat):=Rat.natCast_le_natCast.2 h1
  refine Rat.le_trans ?_ this;rw[←Rat.intCast_natCast]
  split
  ·exact Rat.intCast_le_intCast.2 (by omega)
  rw[←Rat.intCast_neg];exact Rat.intCast_le_intCast.2 (by omega)
 rw[kW];unfold ab p2;rw[if_pos Rat.natCast_nonneg];exact Rat.natCast_le_natCast.2 h2
theorem Ht.up {x:R}{H:Nat}(hx:Ht h z w x H):Ht (h+1) z w x H:=by
 obtain⟨P,Q,hP,hQ,iP,iQ,h0,he,nP,nQ⟩:=hx;have e:∀A:El,A.length=2^h→dz (h+1) w (A++zE (2^h))=dz h w A:=fun A hA=>by rw[nw hA,oV];grind
 refine⟨P++zE (2^h),Q++zE (2^h),?_,?_,iP.app bu.zero,iQ.app bu.zero,by rw[kS hQ];exact h0,by rw[kS hQ,kS hP];exact he,by rw[e P hP];exact nP,by rw[e Q hQ];exact nQ⟩
 ·rw[X6,hP,au,Nat.pow_succ];omega
 rw[X6,hQ,au,Nat.pow_succ];omega
theorem Ht.le {k:Nat}{x:R}{H:Nat}(hx:Ht h z w x H)(hk:h≤k):Ht k z w x H:=by
 obtain⟨d,rfl⟩:=Nat.exists_eq_add_of_le hk;clear hk
 induction d with
 |zero=>exact hx
 |succ d ih=>exact ih.up
theorem Ht.root {H:Nat}(hw:w h≤2^H):Ht (h+1) z w (sqrt (val h z (z.getD h []))) H:=by
 refine⟨zE (2^h)++aU h 1,aU (h+1) 1,?_,ay,bu.zero.app (bu.rat ⟨1,rfl⟩),bu.rat ⟨1,rfl⟩,?_,?_,?_,?_⟩
 ·rw[X6,au,ay,Nat.pow_succ];omega
 ·rw[bE];exact il
 ·rw[bE,mul_one,gh au,val_zero,bE,one_mul,zero_add]
 ·rw[nw au,oV,kW]
  have:(w h:Rat)≤p2 H:=Rat.natCast_le_natCast.2 hw
  have e:ab 1=1:=rfl;rw[e];grind
 rw[kW];exact Gb H
end
end Go.Tw
namespace Go.Tw
open Go Go.R
def qD (h:Nat)(a:El):El:=a.take (2^h)++aH (a.drop (2^h))
theorem py {h:Nat}{a:El}(ha:a.length=2^(h+1)):(qD h a).length=2^(h+1):=by
 unfold qD;rw[X6,ar,ah ha,ag ha,Nat.pow_succ];omega
theorem zc {h:Nat}{a:El}(ha:bu a):bu (qD h a):=(ha.take _).app (ha.drop _).neg
section
variable {h:Nat}{z:List El}{w:Nat→Nat}
theorem pj {a:El}(ha:a.length=2^(h+1)):val (h+1) z (qD h a)=val h z (a.take (2^h))+ -val h z (a.drop (2^h))*sqrt (val h z (z.getD h [])):=by
 unfold qD;rw[gh (ah ha),val_neg (ag ha)]
theorem yL {a:El}(ha:a.length=2^(h+1)):dz (h+1) w (qD h a)=dz (h+1) w a:=by
 unfold qD;rw[nw (ah ha),xZ (ag ha),dz]
theorem qJ (W:Wt (h+1) z w)(L:Rl (h+1) z){a:El}(ha:a.length=2^(h+1)):dz h w (aO h z a)≤dz (h+1) w a*dz (h+1) w a:=by
 have W':=W.le (Nat.le_succ h);have L':=L.le (Nat.le_succ h);obtain⟨Xx,W1⟩:=W h (by omega);have hr:=(L h (by omega)).1;have g1:=fN W' L' (ah ha) (ah ha);have g2:=fN W' L' (ag ha) (ag ha);have g5:=fN W' L' (a:=ai h z (a.drop (2^h)) (a.drop (2^h))) aa hr;have k1:=sD (w:=w) (a:=ai h z (a.take (2^h)) (a.take (2^h))) (b:=aH (ai h z (ai h z (a.drop (2^h)) (a.drop (2^h))) (z.getD h []))) aa (by rw[ar,aa]);rw[xZ aa]at k1;unfold aO;rw[dz];have n1:0≤dz h w (a.take (2^h)):=cZ;have n2:0≤dz h w (a.drop (2^h)):=cZ;have n5:0≤dz h w (ai h z (a.drop (2^h)) (a.drop (2^h))):=cZ;have hw:(0:Rat)≤w h:=Rat.natCast_nonneg;have m5:=BY n5 (Rat.mul_nonneg hw hw) g2 W1;have m6:=Rat.mul_nonneg (Rat.mul_nonneg n1 n2) hw
 grind
theorem rk (T:EE (h+1) z){a:El}(ha:bu a):bu (aO h z a):=by
 have T':=T.le (Nat.le_succ h);unfold aO;exact bu.add (bu.mul T' (ha.take _) (ha.take _)) (bu.neg (bu.mul T' (bu.mul T' (ha.drop _) (ha.drop _)) (T h (by omega))))
theorem K9 {a:El}:dz h w (a.take (2^h))≤dz (h+1) w a:=by
 rw[dz];have n2:0≤dz h w (a.drop (2^h)):=cZ;have hw:(0:Rat)≤w h:=Rat.natCast_nonneg
 have:=Rat.mul_nonneg n2 hw
 grind
theorem KH (W:Wt (h+1) z w){a:El}:dz h w (a.drop (2^h))≤dz (h+1) w a:=by
 rw[dz];have n1:0≤dz h w (a.take (2^h)):=cZ;have n2:0≤dz h w (a.drop (2^h)):=cZ;have hw:(1:Rat)≤w h:=Rat.natCast_le_natCast.2 (W h (by omega)).1
 have:=Rat.mul_le_mul_of_nonneg_left hw n2
 grind
theorem jx (L:Rl (h+1) z){a:El}(ha:a.length=2^(h+1)):val (h+1) z a*val (h+1) z (qD h a)=val h z (aO h z a):=by
 rw[pj ha,fk L ha,←pn,val,sub_def,neg_mul]
theorem Af (R:Rd (h+1) z){a:El}(ha:a.length=2^(h+1))(h0:val (h+1) z a≠q 0):val h z (aO h z a)≠q 0:=by
 rw[←jx R.rl ha];refine qZ h0 fun e=>h0 ?_;rw[pj ha]at e
 have:=oF R (.of (ah ha)) (In.of (ag ha)).neg e
 have e2:=congrArg (- ·) this.2;simp only[neg_neg,gi]at e2;rw[val,this.1,e2,zero_mul,add_zero]
theorem Ht.split (Z:Zt (h+1) z w){u v:R}{H:Nat}(hu:In h z u)(hv:In h z v)(hx:Ht (h+1) z w (u+v*sqrt (val h z (z.getD h []))) H):
  Ht h z w u (2*H)∧Ht h z w v (2*H)∧Ht h z w (u*u+ -(v*v*val h z (z.getD h []))) (2*H):=by
 obtain⟨P,Q,hP,hQ,iP,iQ,h0,he,nP,nQ⟩:=hx;have L:=Z.rd.rl;have Z':=Z.le (Nat.le_succ h);have e2:2*H=H+H:=by omega
 have Zj:=Af Z.rd hQ h0;have Zk:dz h w (aO h z Q)≤p2 (2*H):=by
  rw[e2];exact Rat.le_trans (qJ Z.wt L hQ) (gI cZ nQ nQ)
 have hNi:=rk Z.int iQ
 -- the numerator times the conjugate of the denominator
 have hM:(ai (h+1) z P (qD h Q)).length=2^(h+1):=aa;have hMi:bu (ai (h+1) z P (qD h Q)):=bu.mul Z.int iP (zc iQ);have hMn:dz (h+1) w (ai (h+1) z P (qD h Q))≤p2 (2*H):=by
  rw[e2];refine Rat.le_trans (fN Z.wt L hP (py hQ)) (gI cZ nP ?_);rw[yL hQ];exact nQ
 have hMv:val (h+1) z (ai (h+1) z P (qD h Q))=(u+v*sqrt (val h z (z.getD h [])))*val h z (aO h z Q):=by
  rw[val_mul L hP (py hQ),←he,mul_assoc,jx L hQ]
 rw[add_mul,mul_assoc v,mul_comm (sqrt _),←mul_assoc v]at hMv;obtain⟨s1,s2⟩:=jb Z.rd (.of (ah hM)) (.of (ag hM)) (In.mul Z'.rd.rl hu (.of aJ)) (In.mul Z'.rd.rl hv (.of aJ)) hMv;refine⟨⟨_,_,ah hM,aJ,hMi.take _,hNi,Zj,s1.symm,Rat.le_trans K9 hMn,Zk⟩,
  ⟨_,_,ag hM,aJ,hMi.drop _,hNi,Zj,s2.symm,Rat.le_trans (KH Z.wt) hMn,Zk⟩,?_⟩
 refine⟨aO h z P,aO h z Q,aJ,aJ,rk Z.int iP,hNi,Zj,?_,?_,Zk⟩
 ·-- conjugates of both sides
  have hr:=L.root;have hn:=pn u v (sqrt (val h z (z.getD h [])));rw[hr,sub_def,←neg_mul]at hn;rw[←jx L hP,←jx L hQ,pj hP,pj hQ,←he,←hn];have Yv:(u+v*sqrt (val h z (z.getD h [])))*(val h z (Q.take (2^h))+val h z (Q.drop (2^h))*sqrt (val h z (z.getD h [])))=val h z (P.take (2^h))+val h z (P.drop (2^h))*sqrt (val h z (z.getD h [])):=he;rw[Gh,hr]at Yv;obtain⟨c1,c2⟩:=jb Z.rd ((In.mul Z'.rd.rl hu (.of (ah hQ))).add (In.mul Z'.rd.rl (In.mul Z'.rd.rl hv (.of (ag hQ))) (.of (L h (by omega)).1))) ((In.mul Z'.rd.rl hu (.of (ag hQ))).add (In.mul Z'.rd.rl hv (.of (ah hQ)))) (.of (ah hP)) (.of (ag hP)) Yv;have hc:=I9 u v (val h z (Q.take (2^h))) (val h z (Q.drop (2^h))) (sqrt (val h z (z.getD h [])));rw[hr,c1,c2]at hc;rw[jW,hc]
 rw[e2];exact Rat.le_trans (qJ Z.wt L hP) (gI cZ nP nP)
theorem s8.CA {x:Rat}{n:Int}{H:Nat}(h:x=(n:Rat))(k:ab x≤p2 H):n.natAbs≤2^H:=by
 subst h;unfold ab p2 at k;rw[←Rat.intCast_natCast]at k
 split at k
 ·rename_i h0
  have h0:(0:Int)≤n:=Rat.intCast_le_intCast.1 h0
  have:=Rat.intCast_le_intCast.1 k
  omega
 rename_i h0
 have h0:¬(0:Int)≤n:=fun e=>h0 (Rat.intCast_le_intCast.2 e);rw[←Rat.intCast_neg]at k
 have:=Rat.intCast_le_intCast.1 k
 omega
theorem Ht.zero {x:Rat}{H:Nat}(hx:Ht 0 z w (q x) H):x.num.natAbs≤2^H∧x.den≤2^H:=by
 obtain⟨P,Q,hP,hQ,iP,iQ,h0,he,nP,nQ⟩:=hx;obtain⟨a,rfl⟩:=bx hP;obtain⟨b,rfl⟩:=bx hQ;obtain⟨m,hm⟩:=iP a (by simp);obtain⟨n,hn⟩:=iQ b (by simp);have k1:m.natAbs≤2^H:=s8.CA hm nP;have k2:n.natAbs≤2^H:=s8.CA hn nQ;have he:q x*q b=q a:=he;rw[←dr]at he;have he:=jT he;have hb:b≠0:=fun e=>h0 (by show q b=q 0;rw[e]);subst hm;subst hn;have e1:((x.num*n:Int):Rat)=((m*x.den:Int):Rat):=by
  have:=xV x
  rw[Rat.intCast_mul,Rat.intCast_mul,←he,←this,Rat.intCast_natCast];grind
 have e2:x.num*n=m*x.den:=Rat.intCast_inj.1 e1;have n0:n≠0:=fun e=>hb (by rw[e];rfl);have e3:x.num.natAbs*n.natAbs=m.natAbs*x.den:=by
  have:=congrArg Int.natAbs e2
  rwa [Int.natAbs_mul,Int.natAbs_mul,Int.natAbs_natCast]at this
 have d1:x.den∣n.natAbs:=Nat.Coprime.dvd_of_dvd_mul_left x.reduced.symm ⟨m.natAbs,by rw[e3,Nat.mul_comm]⟩;have hn0:0<n.natAbs:=Int.natAbs_pos.2 n0;have d2:=Nat.le_of_dvd hn0 d1;refine⟨?_,by omega⟩
 by_cases m0:m.natAbs=0
 ·have:x.num.natAbs*n.natAbs=0:=by rw[e3,m0,Nat.zero_mul]
  rcases Nat.mul_eq_zero.1 this with h|h
  ·omega
  omega
 have d3:x.num.natAbs∣m.natAbs:=Nat.Coprime.dvd_of_dvd_mul_right x.reduced ⟨n.natAbs,e3.symm⟩;exact Nat.le_trans (Nat.le_of_dvd (by omega) d3) k1
end
structure Lk (h:Nat) (t z:List El) (d:Nat→Nat):Prop where
 d0:∀i,i<h→0<d i
 v:∀i,i<h→val i z (z.getD i [])=q ((d i:Rat)*(d i:Rat))*val i t (t.getD i [])
theorem Lk.le {h k:Nat}{t z:List El}{d:Nat→Nat}(H:Lk h t z d)(hk:k≤h):Lk k t z d:=⟨fun i hi=>H.d0 i (by omega),fun i hi=>H.v i (by omega)⟩
theorem wk {n:Nat}(h:0<n):pos (q (n:Rat)):=tP.2 (Rat.natCast_pos.2 h)
theorem Lk.root {h:Nat}{t z:List El}{d:Nat→Nat}(H:Lk (h+1) t z d)(L:Rl (h+1) t):sqrt (val h z (z.getD h []))=q (d h:Rat)*sqrt (val h t (t.getD h [])):=by
 have hd:=wk (H.d0 h (by omega));have hs:=zU (L h (by omega)).2;rw[H.v h (by omega),dr]
 have:q ↑(d h)*q ↑(d h)*val h t (t.getD h [])=(q (d h:Rat)*sqrt (val h t (t.getD h [])))*(q (d h:Rat)*sqrt (val h t (t.getD h []))):=by
  rw[jW,L.root]
 rw[this];exact pE (br.2 (.inr (dI hd hs)))
theorem mL {n:Nat}(h:0<n):q (n:Rat)*q ((n:Rat)⁻¹)=q 1:=by
 rw[←dr,Rat.mul_inv_cancel]
 exact fun e=>by have:=Rat.natCast_inj (a:=n) (b:=0)|>.1 e;omega
theorem Lk.gj {t z:List El}{d:Nat→Nat}{h:Nat}:∀(_:Lk h t z d) (_:Rl h t) (x:R),In h t x↔In h z x:=by
 induction h with
 |zero=>intro _ _ x;exact Iff.rfl
 |succ h ih=>
  intro H L x;have ih:=ih (H.le (Nat.le_succ h)) (L.le (Nat.le_succ h));have hr:=H.root L;have hd:=mL (H.d0 h (by omega))
  constructor
  ·intro hx;obtain⟨u,v,hu,hv,rfl⟩:=hx.split
   have:u+v*sqrt (val h t (t.getD h []))=u+v*q ((d h:Rat)⁻¹)*sqrt (val h z (z.getD h [])):=by
    rw[hr,mul_assoc v,←mul_assoc (q _),mul_comm (q ((d h:Rat)⁻¹)),hd,one_mul]
   rw[this];obtain⟨a,ha,e⟩:=(ih _).1 hv;refine In.join ((ih _).1 hu) ?_;have hm:In h z (v*q ((d h:Rat)⁻¹)):=by
    rw[←e];refine⟨a.map (· *(d h:Rat)⁻¹),by rw[List.length_map,ha],?_⟩;have key:∀{k:Nat} {a:El} {c:Rat},a.length=2^k→val k z (a.map (· *c))=val k z a*q c:=by
     intro k
     induction k with
     |zero=>
      intro a c ha;obtain⟨x,rfl⟩:=bx ha;exact dr x c
     |succ k ihk=>
      intro a c ha;rw[val,←List.map_take,←List.map_drop,ihk (ah ha),ihk (ag ha),val,add_mul,mul_assoc,mul_assoc,mul_comm (q c)]
    exact key ha
   exact hm
  intro hx;obtain⟨u,v,hu,hv,rfl⟩:=hx.split;rw[hr,←mul_assoc];exact In.join ((ih _).2 hu) (In.mul (L.le (Nat.le_succ h)) ((ih _).2 hv) (In.rat _))
theorem BX {t z:List El}{d w:Nat→Nat}{E:Nat}{h:Nat}:∀(_:Lk h t z d) (_:Rl h t) (_:Zt h z w) (_:∀i,i<h→d i≤2^E) {a:El} {H:Nat},a.length=2^h→Ht h z w (val h t a) H→
  ∀c∈a,c.num.natAbs≤2^(2^h*(H+E))∧c.den≤2^(2^h*(H+E)):=by
 induction h with
 |zero=>
  intro _ _ _ _ a H ha hx c hc;obtain⟨x,rfl⟩:=bx ha;rw[List.mem_singleton]at hc;subst hc
  have:=hx.zero
  have e:2^H≤2^(2^0*(H+E)):=Nat.pow_le_pow_right (by decide) (by omega);exact⟨Nat.le_trans this.1 e,Nat.le_trans this.2 e⟩
 |succ h ih=>
  intro K L Z hE a H ha hx c hc;have K':=K.le (Nat.le_succ h);have L':=L.le (Nat.le_succ h);have Z':=Z.le (Nat.le_succ h);have hr:=K.root L;have hd:=mL (K.d0 h (by omega));have hu:In h t (val h t (a.take (2^h))):=.of (ah ha);have hv:In h t (val h t (a.drop (2^h))*q ((d h:Rat)⁻¹)):=In.mul L' (.of (ag ha)) (In.rat _);have e:val (h+1) t a=val h t (a.take (2^h))+val h t (a.drop (2^h))*q ((d h:Rat)⁻¹)*sqrt (val h z (z.getD h [])):=by
   rw[hr,mul_assoc (val h t _),←mul_assoc (q _),mul_comm (q ((d h:Rat)⁻¹)),hd,one_mul];rfl
  rw[e]at hx;obtain⟨k1,k2,_⟩:=Ht.split Z ((K'.gj L' _).1 hu) ((K'.gj L' _).1 hv) hx;have SW:Ht h z w (q (d h:Rat)) E:=by
   refine Ht.rat ?_ ?_
   ·rw[Rat.num_natCast,Int.natAbs_natCast];exact hE h (by omega)
   rw[Rat.den_natCast];exact Nat.one_le_two_pow
  have k3:=k2.mul Z' SW;rw[mul_assoc,mul_comm (q _),hd,mul_one]at k3;have hm:2^h*(2*H+E+E)=2^(h+1)*(H+E):=by
   rw[Nat.pow_succ,Nat.mul_assoc];congr 1;omega
  rw[←List.take_append_drop (2^h) a,List.mem_append]at hc
  rcases hc with hc|hc
  ·have:=ih K' L' Z' (fun i hi=>hE i (by omega)) (ah ha) (k1.mono (Nat.le_add_right _ E)) c hc
   rwa [hm]at this
  have:=ih K' L' Z' (fun i hi=>hE i (by omega)) (ag ha) k3 c hc
  rwa [hm]at this
end Go.Tw
namespace Go.Tw
open Go Go.R
theorem val_congr {t z:List El}{h:Nat}:∀(_:∀i,i<h→t.getD i []=z.getD i []) (a:El),val h t a=val h z a:=by
 induction h with
 |zero=>intro _ a;rfl
 |succ h ih=>
  intro H a;have ih:=ih (fun i hi=>H i (by omega));rw[val,val,ih,ih,H h (by omega),ih]
theorem Rd.congr {t z:List El}{h:Nat}(e:∀i,i<h→t.getD i []=z.getD i [])(H:Rd h t):Rd h z:=by
 have ev:∀i,i≤h→∀a,val i t a=val i z a:=fun i hi a=>val_congr (fun j hj=>e j (by omega)) a;refine⟨fun i hi=>?_,fun i hi x hx=>?_⟩
 ·rw[←e i hi,←ev i (by omega)];exact H.rl i hi
 obtain⟨a,ha,rfl⟩:=hx;rw[←e i hi,←ev i (by omega),←ev i (by omega)];exact H.ns i hi _ (.of ha)
theorem vJ {w v:Nat→Nat}{h:Nat}:∀(_:∀i,i<h→w i=v i) (a:El),dz h w a=dz h v a:=by
 induction h with
 |zero=>intro _ a;rfl
 |succ h ih=>
  intro H a;have ih:=ih (fun i hi=>H i (by omega));rw[dz,dz,ih,ih,H h (by omega)]
section
variable {h:Nat}{z:List El}{w:Nat→Nat}
theorem Ht.in (Z:Zt h z w){x:R}{H:Nat}(hx:Ht h z w x H):In h z x:=by
 obtain⟨P,Q,hP,hQ,iP,iQ,h0,he,nP,nQ⟩:=hx;obtain⟨y,hy,hy2⟩:=In.PW Z.rd _ (.of hQ) h0
 have:x=val h z P*y:=by rw[←he,mul_assoc,hy2,mul_one]
 rw[this];exact In.mul Z.rd.rl (.of hP) hy
theorem OW:∀{h:Nat} (_:Zt h z w) {Q:El} {K:Nat},Q.length=2^h→bu Q→val h z Q≠q 0→dz h w Q≤p2 K→
  ∃(A:El) (N:Nat),A.length=2^h∧bu A∧0<N∧val h z Q*val h z A=q (N:Rat)∧dz h w A≤p2 ((2^h-1)*K)∧N≤2^(2^h*K):=by
 intro h
 induction h with
 |zero=>
  intro Z Q K hQ iQ h0 nQ;obtain⟨x,rfl⟩:=bx hQ;obtain⟨n,hn⟩:=iQ x (by simp);have k1:n.natAbs≤2^K:=s8.CA hn nQ;have n0:n≠0:=fun e=>h0 (by show q x=q 0;rw[hn,e];rfl);have e0:p2 ((2^0-1)*K)=1:=by rw[show (2^0-1)*K=0 by simp];rfl
  have e1:(2:Nat)^(2^0*K)=2^K:=by rw[Nat.pow_zero,Nat.one_mul]
  rw[e0,e1]
  by_cases hp:0≤n
  ·refine⟨[1],n.natAbs,rfl,fun y hy=>⟨1,by rw[List.mem_singleton.1 hy];rfl⟩,by omega,?_,by show ab 1≤1;decide,k1⟩;show q x*q 1=_;rw[←dr,hn,←Rat.intCast_natCast,show ((n.natAbs:Nat):Int)=n by omega,Rat.mul_one]
  refine⟨[-1],n.natAbs,rfl,fun y hy=>⟨-1,by rw[List.mem_singleton.1 hy];rfl⟩,by omega,?_,by show ab (-1)≤1;decide,k1⟩;show q x*q (-1)=_;rw[←dr,hn,←Rat.intCast_natCast,show ((n.natAbs:Nat):Int)= -n by omega,Rat.intCast_neg]
  congr 1;grind
 |succ h ih=>
  intro Z Q K hQ iQ h0 nQ;have Z':=Z.le (Nat.le_succ h);have Zk:dz h w (aO h z Q)≤p2 (2*K):=by
   rw[show 2*K=K+K by omega];exact Rat.le_trans (qJ Z.wt Z.rd.rl hQ) (gI cZ nQ nQ)
  obtain⟨A,N,hA,iA,hN,he,nA,hl⟩:=ih Z' (aJ (a:=Q)) (rk Z.int iQ) (Af Z.rd hQ h0) Zk;have W9:(A++zE (2^h)).length=2^(h+1):=by rw[X6,hA,au,Nat.pow_succ];omega
  refine⟨ai (h+1) z (qD h Q) (A++zE (2^h)),N,aa,bu.mul Z.int (zc iQ) (iA.app bu.zero),hN,?_,?_,?_⟩
  ·rw[val_mul Z.rd.rl (py hQ) W9,kS hA,←mul_assoc,jx Z.rd.rl hQ,he]
  ·refine Rat.le_trans (fN Z.wt Z.rd.rl (py hQ) W9) ?_;have e:(2^(h+1)-1)*K=K+(2^h-1)*(2*K):=by
    have:=Nat.two_pow_pos h
    rw[Nat.pow_succ,Nat.sub_mul,Nat.sub_mul,Nat.mul_assoc,Nat.one_mul,Nat.one_mul]
    have:2*K≤2^h*(2*K):=Nat.le_mul_of_pos_left _ this
    omega
   rw[e,yL hQ,nw hA,oV];refine gI cZ nQ ?_
   grind
  rw[Nat.pow_succ,Nat.mul_assoc];exact hl
theorem Ht.whole (Z:Zt h z w){x:R}{K:Nat}(hx:Ht h z w x K):∃(M:El) (N:Nat),M.length=2^h∧bu M∧0<N∧x*q (N:Rat)=val h z M∧dz h w M≤p2 (2^h*K)∧N≤2^(2^h*K):=by
 obtain⟨P,Q,hP,hQ,iP,iQ,h0,he,nP,nQ⟩:=hx;obtain⟨A,N,hA,iA,hN,e,nA,hl⟩:=OW Z hQ iQ h0 nQ;refine⟨ai h z P A,N,aa,bu.mul Z.int iP iA,hN,?_,?_,hl⟩
 ·rw[←e,←mul_assoc,he,val_mul Z.rd.rl hP hA]
 refine Rat.le_trans (fN Z.wt Z.rd.rl hP hA) ?_;have e:2^h*K=K+(2^h-1)*K:=by
  have:=Nat.two_pow_pos h
  rw[Nat.sub_mul,Nat.one_mul]
  have:K≤2^h*K:=Nat.le_mul_of_pos_left _ this
  omega
 rw[e];exact gI cZ nP nA
theorem L7 (Z:Zt h z w){t:List El}{d:Nat→Nat}(K:Lk h t z d)(R:Rd (h+1) t){H:Nat}{M:El}{N:Nat}(hM:M.length=2^h)(iM:bu M)(hN:0<N)(e:val h t (t.getD h [])*q (N:Rat)=val h z M)(nM:dz h w M≤p2 H)(hl:N≤2^H):
  ∃(z':List El) (w' d':Nat→Nat),(∀i,i<h→z'.getD i []=z.getD i []∧w' i=w i∧d' i=d i)∧Zt (h+1) z' w'∧Lk (h+1) t z' d'∧w' h≤2^H∧d' h≤2^H:=by
 obtain⟨B,hB⟩:∃B,B=ai h z (aU h (N:Rat)) M:=⟨_,rfl⟩;have X9:B.length=2^h:=by rw[hB,aa]
 have Zj:s8 (N:Rat):=⟨(N:Int),(Rat.intCast_natCast _).symm⟩;have hBi:bu B:=by rw[hB];exact bu.mul Z.int (bu.rat Zj) iM
 have Xt:val h z B=q ((N:Rat)*(N:Rat))*val h t (t.getD h []):=by
  rw[hB,val_mul Z.rd.rl ay hM,bE,←e,dr,mul_comm (val h t _),←mul_assoc]
 have hBn:dz h w B≤p2 (H+H):=by
  rw[hB];refine Rat.le_trans (fN Z.wt Z.rd.rl ay hM) (gI cZ ?_ nM);rw[kW];unfold ab p2;rw[if_pos Rat.natCast_nonneg];exact Rat.natCast_le_natCast.2 hl
 let z':List El:=(List.range h).map (fun i=>z.getD i [])++[B]
 have ez:∀i,i<h→z'.getD i []=z.getD i []:=fun i hi=>by
  show List.getD (_++_) i []=_;rw[X7,List.getElem?_append_left (by simpa using hi),List.getElem?_map,List.getElem?_range hi];rfl
 have eB:z'.getD h []=B:=by
  show List.getD (_++_) h []=_;rw[X7,List.getElem?_append_right (by simp)];simp
 let w':Nat→Nat:=fun i=>if i=h then 2^H else w i
 let d':Nat→Nat:=fun i=>if i=h then N else d i
 have ew:∀i,i<h→w' i=w i:=fun i hi=>if_neg (by omega);have ed:∀i,i<h→d' i=d i:=fun i hi=>if_neg (by omega);have ewh:w' h=2^H:=if_pos rfl;have edh:d' h=N:=if_pos rfl;have ev:∀i,i≤h→∀a,val i z' a=val i z a:=fun i hi a=>val_congr (fun j hj=>ez j (by omega)) a;have en:∀i,i≤h→∀a,dz i w' a=dz i w a:=fun i hi a=>vJ (fun j hj=>ew j (by omega)) a;have R1:pos (val h z B):=by
  rw[Xt]
  have:=wk hN
  rw[dr];exact dI (dI this this) (R.rl h (by omega)).2
 have Wg:∀x,In h z x→x*x≠val h z B:=by
  intro x hx he;have hi:=mL hN;have WJ:In h t (x*q ((N:Rat)⁻¹)):=In.mul (R.rl.le (Nat.le_succ h)) ((K.gj (R.rl.le (Nat.le_succ h)) _).2 hx) (In.rat _);refine R.ns h (by omega) _ WJ ?_;rw[jW,he,Xt,dr]
  have:q (N:Rat)*q (N:Rat)*(q ((N:Rat)⁻¹)*q ((N:Rat)⁻¹))=q 1:=by rw[jW,hi,mul_one]
  rw[mul_comm (q _*q _),mul_assoc,this,mul_one]
 refine⟨z',w',d',fun i hi=>⟨ez i hi,ew i hi,ed i hi⟩,⟨⟨fun i hi=>?_,fun i hi x hx=>?_⟩,fun i hi=>?_,fun i hi=>?_⟩,⟨fun i hi=>?_,fun i hi=>?_⟩,Nat.le_of_eq ewh,by rw[edh];exact hl⟩
 ·by_cases h1:i=h
  ·subst h1;rw[eB,ev i (Nat.le_refl i)];exact⟨X9,R1⟩
  rw[ez i (by omega),ev i (by omega)];exact Z.rd.rl i (by omega)
 ·obtain⟨a,ha,rfl⟩:=hx
  by_cases h1:i=h
  ·subst h1;rw[eB,ev i (Nat.le_refl i),ev i (Nat.le_refl i)];exact Wg _ (.of ha)
  rw[ez i (by omega),ev i (by omega),ev i (by omega)];exact Z.rd.ns i (by omega) _ (.of ha)
 ·by_cases h1:i=h
  ·subst h1;rw[eB];exact hBi
  rw[ez i (by omega)];exact Z.int i (by omega)
 ·by_cases h1:i=h
  ·subst h1;rw[eB,en i (Nat.le_refl i),ewh];refine⟨Nat.one_le_two_pow,Rat.le_trans hBn ?_⟩;rw[yh];exact Rat.le_refl
  rw[ez i (by omega),en i (by omega),ew i (by omega)];exact Z.wt i (by omega)
 ·by_cases h1:i=h
  ·subst h1;rw[edh];exact hN
  rw[ed i (by omega)];exact K.d0 i (by omega)
 by_cases h1:i=h
 ·subst h1;rw[eB,edh,ev i (Nat.le_refl i)];exact Xt
 rw[ez i (by omega),ed i (by omega),ev i (by omega)];exact K.v i (by omega)
theorem grow (Z:Zt h z w){t:List El}{d:Nat→Nat}(K:Lk h t z d)(R:Rd (h+1) t){H:Nat}(hx:Ht h z w (val h t (t.getD h [])) H):
  ∃(z':List El) (w' d':Nat→Nat),(∀i,i<h→z'.getD i []=z.getD i []∧w' i=w i∧d' i=d i)∧Zt (h+1) z' w'∧Lk (h+1) t z' d'∧w' h≤2^(2^h*H)∧d' h≤2^(2^h*H):=by
 obtain⟨M,N,hM,iM,hN,e,nM,hl⟩:=Ht.whole Z hx;exact L7 Z K R hM iM hN e nM hl
def rS (W:Nat):Nat→Nat→Nat
 |0,H=>(H+1)/2
 |h+1,H=>2*rS W h (2*H+rS W h (2*H)+2+2*W)+2*H+W+2
theorem kL {W h:Nat}:∀{H K:Nat},H≤K→rS W h H≤rS W h K:=by
 induction h with
 |zero=>intro H K hk;unfold rS;omega
 |succ h ih=>
  intro H K hk;have h1:=ih (H:=2*H) (K:=2*K) (by omega);have h2:=ih (H:=2*H+rS W h (2*H)+2+2*W) (K:=2*K+rS W h (2*K)+2+2*W) (by omega);rw[rS,rS];omega
theorem Ht.pL (Z:Zt (h+1) z w){W:Nat}(hW:w h≤2^W):Ht h z w (val h z (z.getD h [])) (2*W):=by
 refine⟨z.getD h [],aU h 1,(Z.rd.rl h (by omega)).1,ay,Z.int h (by omega),bu.rat ⟨1,rfl⟩,by rw[bE];exact il,by rw[bE,mul_one],?_,?_⟩
 ·have hw:(w h:Rat)≤p2 W:=Rat.natCast_le_natCast.2 hW;rw[show 2*W=W+W by omega];exact Rat.le_trans (Z.wt h (by omega)).2 (gI Rat.natCast_nonneg hw hw)
 rw[kW];exact Gb _
theorem zH {t:List El}{x:R}(h:In 0 t x):∃y,x=q y:=by
 obtain⟨a,_,rfl⟩:=h;exact⟨_,rfl⟩
theorem Ht.two:Ht h z w (q 2) 1:=Ht.rat (by decide) (by decide)
theorem Ht.sqrt {W:Nat}:∀{h:Nat} (_:Zt h z w) (_:∀i,i<h→w i≤2^W) {x y:R} {H:Nat},In h z y→y*y=x→Ht h z w x H→Ht h z w y (rS W h H):=by
 intro h
 induction h with
 |zero=>
  intro Z _ x y H hy he hx;obtain⟨r,rfl⟩:=zH hy;rw[←dr]at he;subst he;obtain⟨h1,h2⟩:=Ht.zero hx;obtain⟨e1,e2⟩:=Hp r;rw[e1,Int.natAbs_mul]at h1;rw[e2]at h2;have key:∀n:Nat,n*n≤2^H→n≤2^((H+1)/2):=by
   intro n hn;refine Nat.le_of_not_lt fun hl=>?_
   have:=Nat.mul_lt_mul'' hl hl
   rw[←Nat.pow_add]at this
   have:2^H≤2^((H+1)/2+(H+1)/2):=Nat.pow_le_pow_right (by decide) (by omega)
   omega
  exact Ht.rat (key _ h1) (key _ h2)
 |succ h ih=>
  intro Z hW x y H hy he hx;have Z':=Z.le (Nat.le_succ h);have V0:∀i,i<h→w i≤2^W:=fun i hi=>hW i (by omega);have L':=Z'.rd.rl;obtain⟨p,g,hp,hg,rfl⟩:=hy.split;have hs:Ht (h+1) z w (R.sqrt (val h z (z.getD h []))) W:=Ht.root (hW h (by omega));have hr:=Ht.pL Z (hW h (by omega));have RM:=Z.rd.rl.root;have VC:In h z (val h z (z.getD h [])):=.of (Z.rd.rl h (by omega)).1;have S9:val h z (z.getD h [])≠q 0:=iu (Z.rd.rl h (by omega)).2;rw[yK,RM]at he;subst he;obtain⟨hu,hv,hn⟩:=Ht.split Z ((In.mul L' hp hp).add (In.mul L' (In.mul L' hg hg) VC)) ((In.mul L' hp hg).add (In.mul L' hp hg)) hx;rw[←Hk]at hn;have m1:rS W h (2*H)≤rS W h (2*H+rS W h (2*H)+2+2*W):=kL (by omega)
  by_cases g0:g=q 0
  ·rw[g0,zero_mul,zero_mul,add_zero]at hu;rw[g0,zero_mul,add_zero];exact((ih Z' V0 hp rfl hu).up).mono (by rw[rS];omega)
  by_cases p0:p=q 0
  ·rw[p0,mul_zero,zero_add]at hu;obtain⟨ri,Zl⟩:=R.inv S9;have h1:=hu.mul Z' (hr.inv Zl);rw[mul_assoc,Zl,mul_one]at h1;have h2:=(ih Z' V0 hg rfl h1).up.mul Z hs;rw[p0,zero_add];have m2:rS W h (2*H+2*W)≤rS W h (2*H+rS W h (2*H)+2+2*W):=kL (by omega);exact h2.mono (by rw[rS];omega)
  have h1:=ih Z' V0 ((In.mul L' hp hp).add (In.mul L' (In.mul L' hg hg) VC).neg) rfl hn;have h2:=hu.add Z' h1;have e2:p*p+g*g*val h z (z.getD h [])+(p*p+ -(g*g*val h z (z.getD h [])))=q 2*(p*p):=by
   rw[←D8]
   generalize g*g*val h z (z.getD h [])=c
   generalize p*p=b
   rw[add_comm b (-c),←add_assoc,add_assoc b c,add_neg,add_zero]
  rw[e2]at h2;have hh:q (2:Rat)*q ((2:Rat)⁻¹)=q 1:=by rw[←dr,Rat.mul_inv_cancel _ (by decide)]
  have h3:=h2.mul Z' (Ht.two.inv hh);rw[mul_comm (q 2),mul_assoc,hh,mul_one]at h3;have h4:=(ih Z' V0 hp rfl h3).mono (kL (K:=2*H+rS W h (2*H)+2+2*W) (by omega));have h5:=Ht.two.mul Z' h4;have h50:q 2*p≠q 0:=qZ FT p0;obtain⟨i,hi⟩:=R.inv h50;have h6:=hv.mul Z' (h5.inv hi);have e6:(p*g+p*g)*i=g:=by
   rw[D8,←mul_assoc,mul_assoc,mul_comm g,←mul_assoc,hi,one_mul]
  rw[e6]at h6;have h7:=h4.up.add Z (h6.up.mul Z hs);refine h7.mono ?_;rw[rS];omega
end
inductive Sz (G:R→Nat→Prop):R→Nat→Prop
 |gen {x:R} {H:Nat}:G x H→Sz G x H
 |rat {x:Rat} {H:Nat}:x.num.natAbs≤2^H→x.den≤2^H→Sz G (q x) H
 |add {x y:R} {H K:Nat}:Sz G x H→Sz G y K→Sz G (x+y) (H+K+1)
 |mul {x y:R} {H K:Nat}:Sz G x H→Sz G y K→Sz G (x*y) (H+K)
 |neg {x:R} {H:Nat}:Sz G x H→Sz G (-x) H
 |inv {x y:R} {H:Nat}:Sz G x H→x*y=q 1→Sz G y H
 |mono {x:R} {H K:Nat}:Sz G x H→H≤K→Sz G x K
theorem Sz.ht {G:R→Nat→Prop}{h:Nat}{z:List El}{w:Nat→Nat}(Z:Zt h z w)(hG:∀x H,G x H→Ht h z w x H){x:R}{H:Nat}(hx:Sz G x H):Ht h z w x H:=by
 induction hx with
 |gen g=>exact hG _ _ g
 |rat h1 h2=>exact Ht.rat h1 h2
 |add _ _ h1 h2=>exact h1.add Z h2
 |mul _ _ h1 h2=>exact h1.mul Z h2
 |neg _ h1=>exact h1.neg
 |inv _ e h1=>exact h1.inv e
 |mono _ e h1=>exact h1.mono e
end Go.Tw
namespace Go.Tw
open Go Go.R
def gW (n:Nat)(e:El):Prop:=∀c∈e,c.num.natAbs≤2^n∧c.den≤2^n
def Expr (B k:Nat)(As:List R)(x:R):Prop:=∃(m:Nat) (u:List El) (e:El),m≤k∧e.length=2^m∧gW B e∧(∀j,j<m→val j u (u.getD j [])∈As)∧x=val m u e
def fE (B c:Nat):Nat→Nat
 |0=>B
 |k+1=>2*fE B c k+c+1
theorem JM {B c m k:Nat}(h:m≤k):fE B c m≤fE B c k:=by
 induction k with
 |zero=>
      obtain rfl:m=0:=by omega
      exact Nat.le_refl _
 |succ k ih=>
  by_cases e:m=k+1
  ·rw[e];exact Nat.le_refl _
  have:=ih (by omega)
  rw[fE];omega
theorem Ht.expr {h:Nat}{z:List El}{w:Nat→Nat}(Z:Zt h z w){B c:Nat}{u:List El}:∀{m:Nat} {e:El},e.length=2^m→gW B e→(∀j,j<m→Ht h z w (R.sqrt (val j u (u.getD j []))) c)→Ht h z w (val m u e) (fE B c m):=by
 intro m
 induction m with
 |zero=>
  intro e he hb _;obtain⟨x,rfl⟩:=bx he;obtain⟨h1,h2⟩:=hb x (by simp);exact Ht.rat h1 h2
 |succ m ih=>
  intro e he hb hs;have h1:=ih (ah he) (fun c hc=>hb c (List.mem_of_mem_take hc)) (fun j hj=>hs j (by omega));have h2:=ih (ag he) (fun c hc=>hb c (List.mem_of_mem_drop hc)) (fun j hj=>hs j (by omega));exact(h1.add Z (h2.mul Z (hs m (by omega)))).mono (by rw[fE];omega)
structure Src (B:Nat) (A:List R):Prop where
 pos:∀k,k<A.length→R.pos (A.getD k (q 0))
 expr:∀k,k<A.length→Expr B k (A.take k) (A.getD k (q 0))
def Kt:List (Nat×Nat)→Nat→Option Nat
 |[],_=>none
 |p::s,k=>if p.1=k then some p.2 else Kt s k
def I1:List (Nat×Nat)→Nat
 |[]=>0
 |p::s=>max p.2 (I1 s)
def go (B k:Nat):Nat→List (Nat×Nat)→Nat→Nat→Nat
 |0,_,_,c=>fE B c k
 |n+1,s,kk,c=>match Kt s kk with
  |some W=>go B k n s (kk+1) (max c (2*W))
  |none=>max (go B k n s (kk+1) (max c (rS (I1 s) s.length (fE B c kk)))) (2*go B k n (s++[(kk,2^s.length*fE B c kk)]) (kk+1) (max c (2*(2^s.length*fE B c kk))))
theorem tn {s:List (Nat×Nat)}{k W:Nat}(h:Kt s k=some W):∃j,j<s.length∧s.getD j (0,0)=(k,W):=by
 induction s with
 |nil=>cases h
 |cons p s ih=>
  rw[Kt]at h
  split at h
  ·rename_i e
   refine⟨0,by simp,?_⟩;obtain⟨a,b⟩:=p;simp only[Option.some.injEq]at h e;subst h;subst e;rfl
  obtain⟨j,hj,e⟩:=ih h;exact⟨j+1,by simpa using hj,e⟩
theorem Bl {s:List (Nat×Nat)}{j:Nat}(h:j<s.length):(s.getD j (0,0)).2≤I1 s:=by
 induction s generalizing j with
 |nil=>exact absurd h (Nat.not_lt_zero _)
 |cons p s ih=>
  rw[I1]
  cases j with
  |zero=>exact Nat.le_max_left _ _
  |succ j=>
   have:=ih (j:=j) (by simpa using h)
   show(s.getD j (0,0)).2≤_
   omega
structure Env (A:List R) (h:Nat) (t z:List El) (w d:Nat→Nat) (s:List (Nat×Nat)):Prop where
 sl:s.length=h
 rd:Rd h t
 zt:Zt h z w
 lk:Lk h t z d
 at':∀j,j<h→val j t (t.getD j [])=A.getD (s.getD j (0,0)).1 (q 0)∧w j≤2^(s.getD j (0,0)).2∧d j≤2^(s.getD j (0,0)).2∧Ht j z w (val j t (t.getD j [])) (s.getD j (0,0)).2
theorem Ht.congr {h:Nat}{z z':List El}{w w':Nat→Nat}(ez:∀i,i<h→z'.getD i []=z.getD i [])(ew:∀i,i<h→w' i=w i){x:R}{H:Nat}(hx:Ht h z w x H):Ht h z' w' x H:=by
 obtain⟨P,Q,hP,hQ,iP,iQ,h0,he,nP,nQ⟩:=hx;have e1:∀a,val h z' a=val h z a:=fun a=>val_congr ez a;have e2:∀a,dz h w' a=dz h w a:=fun a=>vJ ew a;exact⟨P,Q,hP,hQ,iP,iQ,by rw[e1];exact h0,by rw[e1,e1];exact he,by rw[e2];exact nP,by rw[e2];exact nQ⟩
theorem Ht.BR {h:Nat}{z:List El}{w:Nat→Nat}{n W:Nat}(h0:0<n)(hn:n≤2^W):Ht h z w (q ((n:Rat)⁻¹)) W:=by
 refine Ht.inv (x:=q (n:Rat)) ?_ (mL h0);refine Ht.rat ?_ ?_
 ·rw[Rat.num_natCast,Int.natAbs_natCast];exact hn
 rw[Rat.den_natCast];exact Nat.one_le_two_pow
theorem Ht.basis {A:List R}{h:Nat}{t z:List El}{w d:Nat→Nat}{s:List (Nat×Nat)}(E:Env A h t z w d s){j:Nat}(hj:j<h):Ht h z w (R.sqrt (val j t (t.getD j []))) (2*(s.getD j (0,0)).2):=by
 obtain⟨_,h2,h3,_⟩:=E.at' j hj;have h1:=(Ht.root (h:=j) (z:=z) (w:=w) h2).le (show j+1≤h by omega);have hr:=(E.lk.le (show j+1≤h by omega)).root (E.rd.rl.le (by omega));have hd:=mL (E.lk.d0 j hj);have h4:=h1.mul E.zt (Ht.BR (E.lk.d0 j hj) h3);rw[hr,mul_comm,←mul_assoc,mul_comm (q ((d j:Rat)⁻¹)),hd,one_mul]at h4;exact h4.mono (by omega)
theorem AO {A:List R}{x:R}{k:Nat}(h:x∈A.take k):∃i,i<k∧i<A.length∧x=A.getD i (q 0):=by
 obtain⟨i,hi,rfl⟩:=List.mem_iff_getElem.1 h;rw[X5]at hi;refine⟨i,by omega,by omega,?_⟩;rw[List.getElem_take,X7,X8 (by omega)];rfl
theorem Ht.src {A:List R}{B:Nat}(S:Src B A){h:Nat}{z:List El}{w:Nat→Nat}(Z:Zt h z w){k c:Nat}(hk:k<A.length)(hs:∀i,i<k→Ht h z w (R.sqrt (A.getD i (q 0))) c):Ht h z w (A.getD k (q 0)) (fE B c k):=by
 obtain⟨m,u,e,hm,he,hb,hu,hx⟩:=S.expr k hk;rw[hx]
 refine(Ht.expr Z he hb fun j hj=>?_).mono (JM hm)
 obtain⟨i,hi,_,e⟩:=AO (hu j hj);rw[e];exact hs i hi
theorem Env.grow {A:List R}{h:Nat}{t z:List El}{w d:Nat→Nat}{s:List (Nat×Nat)}(E:Env A h t z w d s){k H:Nat}(hp:pos (A.getD k (q 0)))(hx:Ht h z w (A.getD k (q 0)) H)(hn:¬In h t (R.sqrt (A.getD k (q 0)))):
  ∃(t' z':List El) (w' d':Nat→Nat),(∀i,i<h→t'.getD i []=t.getD i []∧z'.getD i []=z.getD i []∧w' i=w i)∧Env A (h+1) t' z' w' d' (s++[(k,2^h*H)]):=by
 obtain⟨a,ha,hv⟩:=(E.lk.gj E.rd.rl _).2 (hx.in E.zt)
 let t':List El:=(List.range h).map (fun i=>t.getD i [])++[a]
 have et:∀i,i<h→t'.getD i []=t.getD i []:=fun i hi=>by
  show List.getD (_++_) i []=_;rw[X7,List.getElem?_append_left (by simpa using hi),List.getElem?_map,List.getElem?_range hi];rfl
 have ea:t'.getD h []=a:=by
  show List.getD (_++_) h []=_;rw[X7,List.getElem?_append_right (by simp)];simp
 have ev:∀i,i≤h→∀b,val i t' b=val i t b:=fun i hi b=>val_congr (fun j hj=>et j (by omega)) b;have Wf:pos (val h t a):=by rw[hv];exact hp
 have Wg:∀x,In h t x→x*x≠val h t a:=by
  intro x hx he;rw[hv,←R.dk (br.2 (.inr hp))]at he
  rcases yY he with e|e
  ·exact hn (e▸hx)
  have:=hx.neg
  rw[e,neg_neg]at this;exact hn this
 have R':Rd (h+1) t':=by
  refine⟨fun i hi=>?_,fun i hi x hx=>?_⟩
  ·by_cases h1:i=h
   ·subst h1;rw[ea,ev i (Nat.le_refl i)];exact⟨ha,Wf⟩
   rw[et i (by omega),ev i (by omega)];exact E.rd.rl i (by omega)
  obtain⟨b,hb,rfl⟩:=hx
  by_cases h1:i=h
  ·subst h1;rw[ea,ev i (Nat.le_refl i),ev i (Nat.le_refl i)];exact Wg _ (.of hb)
  rw[et i (by omega),ev i (by omega),ev i (by omega)];exact E.rd.ns i (by omega) _ (.of hb)
 have K':Lk h t' z d:=⟨E.lk.d0,fun i hi=>by rw[et i hi,ev i (by omega)];exact E.lk.v i hi⟩;obtain⟨z',w',d',S1,hZ,hL,hw,hd⟩:=Tw.grow E.zt K' R' (H:=H) (by rw[ea,ev h (Nat.le_refl h),hv];exact hx);refine⟨t',z',w',d',fun i hi=>⟨et i hi,(S1 i hi).1,(S1 i hi).2.1⟩,⟨by rw[X6,E.sl];rfl,R',hZ,hL,fun j hj=>?_⟩⟩
 by_cases h1:j=h
 ·have es:(s++[(k,2^h*H)]).getD j (0,0)=(k,2^h*H):=by
   rw[h1,X7,List.getElem?_append_right (by rw[E.sl];exact Nat.le_refl h),E.sl];simp
  rw[es,h1,ea,ev h (Nat.le_refl h),hv];exact⟨rfl,hw,hd,(hx.congr (fun i hi=>(S1 i hi).1) (fun i hi=>(S1 i hi).2.1)).mono (Nat.le_mul_of_pos_left _ (Nat.two_pow_pos h))⟩
 have Wk:j<h:=by omega
 have es:(s++[(k,2^h*H)]).getD j (0,0)=s.getD j (0,0):=by
  rw[X7,List.getElem?_append_left (by rw[E.sl];exact Wk),←X7]
 rw[es,et j Wk,ev j (by omega),(S1 j Wk).2.1,(S1 j Wk).2.2];obtain⟨a1,a2,a3,a4⟩:=E.at' j Wk;exact⟨a1,a2,a3,a4.congr (fun i hi=>(S1 i (by omega)).1) (fun i hi=>(S1 i (by omega)).2.1)⟩
theorem Iy {A:List R}{B k:Nat}(S:Src B A)(hk:k<A.length):∀(n:Nat) {kk:Nat} (_:kk+n=k) {h:Nat} {t z:List El} {w d:Nat→Nat} {s:List (Nat×Nat)} {c:Nat} (_:Env A h t z w d s)
  (_:∀i,i<kk→Ht h z w (R.sqrt (A.getD i (q 0))) c) (_:In h t (A.getD k (q 0))),Ht h z w (A.getD k (q 0)) (go B k n s kk c):=by
 intro n
 induction n with
 |zero=>
  intro kk Ws h t z w d s c E hs _;exact Ht.src S E.zt hk (fun i hi=>hs i (by omega))
 |succ n ih=>
  intro kk Ws h t z w d s c E hs Se;have TY:kk<A.length:=by omega
  have hp:=S.pos kk TY;rw[go]
  cases hl:Kt s kk with
  |some W=>
   obtain⟨j,hj,ej⟩:=tn hl;refine ih (by omega) E (fun i hi=>?_) Se
   by_cases h1:i=kk
   ·have hb:=Ht.basis E (j:=j) (by rw[←E.sl];exact hj);rw[(E.at' j (by rw[←E.sl];exact hj)).1,ej]at hb;rw[h1];exact hb.mono (Nat.le_max_right _ _)
   exact(hs i (by omega)).mono (Nat.le_max_left _ _)
  |none=>
   have hH:=Ht.src S E.zt TY hs
   by_cases h0:In h t (R.sqrt (A.getD kk (q 0)))
   ·have hr:=Ht.sqrt (W:=I1 s) E.zt (fun i hi=>Nat.le_trans (E.at' i hi).2.1 (Nat.pow_le_pow_right (by decide) (Bl (by rw[E.sl];exact hi)))) ((E.lk.gj E.rd.rl _).1 h0) (R.dk (br.2 (.inr hp))) hH
    refine(ih (kk:=kk+1) (c:=max c (rS (I1 s) s.length (fE B c kk))) (by omega) E (fun i hi=>?_) Se).mono (Nat.le_max_left _ _)
    by_cases h1:i=kk
    ·rw[h1,E.sl];exact hr.mono (Nat.le_max_right _ _)
    exact(hs i (by omega)).mono (Nat.le_max_left _ _)
   obtain⟨t',z',w',d',S1,E'⟩:=E.grow hp hH h0;have ev:∀b,val h t' b=val h t b:=fun b=>val_congr (fun j hj=>(S1 j hj).1) b;have Zm:In h t' (A.getD k (q 0)):=by
    obtain⟨b,hb,e⟩:=Se;exact⟨b,hb,by rw[ev];exact e⟩
   have hup:∀{x:R} {H:Nat},Ht h z w x H→Ht (h+1) z' w' x H:=fun hx=>(hx.congr (fun i hi=>(S1 i hi).2.1) (fun i hi=>(S1 i hi).2.2)).up;have h2:=ih (kk:=kk+1) (c:=max c (2*(2^s.length*fE B c kk))) (by omega) E' (fun i hi=>?_) Zm.up
   ·have hz:In h z' (A.getD k (q 0)):=((E'.lk.le (Nat.le_succ h)).gj (E'.rd.rl.le (Nat.le_succ h)) _).1 Zm;have h3:=(Ht.split E'.zt (v:=q 0) hz (In.rat 0) (by rw[zero_mul,add_zero];exact h2)).1;have h4:=h3.congr (z':=z) (w':=w) (fun i hi=>(S1 i hi).2.1.symm) (fun i hi=>(S1 i hi).2.2.symm);refine h4.mono ?_;rw[E.sl];exact Nat.le_max_right _ _
   by_cases h1:i=kk
   ·have hb:=Ht.basis E' (j:=h) (by omega);have es:(s++[(kk,2^h*fE B c kk)]).getD h (0,0)=(kk,2^h*fE B c kk):=by
     rw[X7,List.getElem?_append_right (by rw[E.sl];exact Nat.le_refl h),E.sl];simp
    rw[(E'.at' h (by omega)).1,es]at hb;rw[h1,E.sl];exact hb.mono (Nat.le_max_right _ _)
   exact(hup (hs i (by omega))).mono (Nat.le_max_left _ _)
def sN (B:Nat)(σ:Nat→Nat):Nat→List (Nat×Nat)
 |0=>[]
 |h+1=>sN B σ h++[(σ h,2^(sN B σ h).length*go B (σ h) (σ h) (sN B σ h) 0 0)]
theorem env {A:List R}{B:Nat}(S:Src B A){t:List El}{σ:Nat→Nat}:∀{h:Nat} (_:Rd h t) (_:∀j,j<h→σ j<A.length∧val j t (t.getD j [])=A.getD (σ j) (q 0)),
  ∃(z:List El) (w d:Nat→Nat),Env A h t z w d (sN B σ h):=by
 intro h
 induction h with
 |zero=>
  intro R _;exact⟨[],fun _=>1,fun _=>1,rfl,R,⟨⟨fun i hi=>absurd hi (Nat.not_lt_zero _),fun i hi=>absurd hi (Nat.not_lt_zero _)⟩,fun i hi=>absurd hi (Nat.not_lt_zero _),fun i hi=>absurd hi (Nat.not_lt_zero _)⟩,
   ⟨fun i hi=>absurd hi (Nat.not_lt_zero _),fun i hi=>absurd hi (Nat.not_lt_zero _)⟩,fun j hj=>absurd hj (Nat.not_lt_zero _)⟩
 |succ h ih=>
  intro R hσ;obtain⟨z,w,d,E⟩:=ih (R.le (Nat.le_succ h)) (fun j hj=>hσ j (by omega));obtain⟨h1,h2⟩:=hσ h (by omega);have Se:In h t (A.getD (σ h) (q 0)):=by rw[←h2];exact .of (R.rl h (by omega)).1
  have hH:=Iy S h1 (σ h) (kk:=0) (by omega) (c:=0) E (fun i hi=>absurd hi (Nat.not_lt_zero _)) Se;rw[←h2]at hH;obtain⟨z',w',d',S1,hZ,hL,hw,hd⟩:=Tw.grow E.zt E.lk R hH;refine⟨z',w',d',by rw[sN,X6,E.sl];rfl,R,hZ,hL,fun j hj=>?_⟩
  by_cases e:j=h
  ·have es:(sN B σ (h+1)).getD j (0,0)=(σ h,2^h*go B (σ h) (σ h) (sN B σ h) 0 0):=by
    rw[sN,e,E.sl,X7,List.getElem?_append_right (by rw[E.sl];exact Nat.le_refl h),E.sl];simp
   rw[es,e];exact⟨h2,hw,hd,(hH.congr (fun i hi=>(S1 i hi).1) (fun i hi=>(S1 i hi).2.1)).mono (Nat.le_mul_of_pos_left _ (Nat.two_pow_pos h))⟩
  have Wk:j<h:=by omega
  have es:(sN B σ (h+1)).getD j (0,0)=(sN B σ h).getD j (0,0):=by
   rw[sN,X7,List.getElem?_append_left (by rw[E.sl];exact Wk),←X7]
  rw[es,(S1 j Wk).2.1,(S1 j Wk).2.2];obtain⟨a1,a2,a3,a4⟩:=E.at' j Wk;exact⟨a1,a2,a3,a4.congr (fun i hi=>(S1 i (by omega)).1) (fun i hi=>(S1 i (by omega)).2.1)⟩
def vZ (B:Nat)(s:List (Nat×Nat))(k:Nat):Nat:=match Kt s k with
 |some W=>2*W
 |none=>rS (I1 s) s.length (go B k k s 0 0)
theorem KU {A:List R}{B:Nat}(S:Src B A){h:Nat}{t z:List El}{w d:Nat→Nat}{s:List (Nat×Nat)}(E:Env A h t z w d s){k:Nat}(hk:k<A.length)(Se:In h t (R.sqrt (A.getD k (q 0)))):
  Ht h z w (R.sqrt (A.getD k (q 0))) (vZ B s k):=by
 have hp:=S.pos k hk;unfold vZ
 cases hl:Kt s k with
 |some W=>
  obtain⟨j,hj,ej⟩:=tn hl;have hb:=Ht.basis E (j:=j) (by rw[←E.sl];exact hj);rw[(E.at' j (by rw[←E.sl];exact hj)).1,ej]at hb;exact hb
 |none=>
  have hin2:In h t (A.getD k (q 0)):=by
   rw[←R.dk (br.2 (.inr hp))];exact In.mul E.rd.rl Se Se
  have hH:=Iy S hk k (kk:=0) (by omega) (c:=0) E (fun i hi=>absurd hi (Nat.not_lt_zero _)) hin2;have hr:=Ht.sqrt (W:=I1 s) E.zt (fun i hi=>Nat.le_trans (E.at' i hi).2.1 (Nat.pow_le_pow_right (by decide) (Bl (by rw[E.sl];exact hi)))) ((E.lk.gj E.rd.rl _).1 Se) (R.dk (br.2 (.inr hp))) hH;rw[E.sl];exact hr
end Go.Tw
namespace Go.Tw
open Go Go.R
def nU:Nat→Nat
 |0=>2^13
 |1=>2^18
 |2=>2^23
 |3=>2^18
 |_=>2^11
def cW:Nat:=131072
def zI (s:List (Nat×Nat))(k:Nat):Nat:=match Kt s k with
 |some W=>W
 |none=>go 64 k k s 0 0
def Qt (s:List (Nat×Nat))(h:Nat):Bool:=decide (zI s 0≤cW)&&decide (zI s 1≤cW)&&decide (zI s 2≤cW)&&decide (vZ 64 s 0≤nU h)&&decide (vZ 64 s 1≤nU h)&&decide (vZ 64 s 2≤nU h)&&decide (I1 s≤cW)
theorem xM {s:List (Nat×Nat)}{h k:Nat}(H:Qt s h=true)(hk:k<3):vZ 64 s k≤nU h∧I1 s≤cW∧zI s k≤cW:=by
 simp only[Qt,Bool.and_eq_true,decide_eq_true_eq]at H;obtain⟨⟨⟨⟨⟨⟨g0,g1⟩,g2⟩,h0⟩,h1⟩,h2⟩,h3⟩:=H
 match k,hk with
 |0,_=>exact⟨h0,h3,g0⟩
 |1,_=>exact⟨h1,h3,g1⟩
 |2,_=>exact⟨h2,h3,g2⟩
def sL (l:List Nat):List (Nat×Nat):=l.foldl (fun s k=>s++[(k,2^s.length*go 64 k k s 0 0)]) []
theorem MO (σ:Nat→Nat):∀h,sN 64 σ h=sL ((List.range h).map σ)
 |0=>rfl
 |h+1=>by
  rw[sN,MO σ h];unfold sL;rw[List.range_succ,List.map_append,List.foldl_append];rfl
def Fc:List (List Nat):=[[],[0],[1],[2],[0,1],[0,2],[1,0],[1,2],[2,0],[2,1],[0,1,2],[0,2,1],[1,0,2],[1,2,0],[2,0,1],[2,1,0]]
theorem Qu:∀l∈Fc,Qt (sL l) l.length=true:=by decide+kernel
theorem KM {h:Nat}{σ:Nat→Nat}(h3:∀j,j<h→σ j<3)(hi:∀i j,i<j→j<h→σ i≠σ j):h≤3∧(List.range h).map σ∈Fc:=by
 have hle:h≤3:=by
  refine Nat.le_of_not_lt fun hl=>?_;have a0:=h3 0 (by omega);have a1:=h3 1 (by omega);have a2:=h3 2 (by omega);have a3:=h3 3 (by omega);have b01:=hi 0 1 (by omega) (by omega);have b02:=hi 0 2 (by omega) (by omega);have b03:=hi 0 3 (by omega) (by omega);have b12:=hi 1 2 (by omega) (by omega);have b13:=hi 1 3 (by omega) (by omega);have b23:=hi 2 3 (by omega) (by omega);omega
 refine⟨hle,?_⟩;have three:∀{n:Nat},n<3→n=0∨n=1∨n=2:=by intro n;omega
 match h,hle with
 |0,_=>show[]∈Fc;decide
 |1,_=>
  show[σ 0]∈Fc
  rcases three (h3 0 (by omega))with e|e|e<;>rw [e]<;>decide
 |2,_=>
  show[σ 0,σ 1]∈Fc
  have b:=hi 0 1 (by omega) (by omega)
  rcases three (h3 0 (by omega))with e|e|e<;>rcases three (h3 1 (by omega))with f|f|f<;>rw [e,f]at b⊢<;>first|exact absurd rfl b|decide
 |3,_=>
  show[σ 0,σ 1,σ 2]∈Fc
  have b:=hi 0 1 (by omega) (by omega);have c:=hi 0 2 (by omega) (by omega);have d:=hi 1 2 (by omega) (by omega)
  rcases three (h3 0 (by omega))with e|e|e<;>rcases three (h3 1 (by omega))with f|f|f<;>rcases three (h3 2 (by omega))with g|g|g<;>rw [e]at b c⊢<;>rw [f]at b d⊢<;>rw [g]at c d⊢<;>first|exact absurd rfl b|exact absurd rfl c|exact absurd rfl d|decide
structure TG (A:List R) (t:List El):Prop where
 rd:Rd t.length t
 mem:∀j,j<t.length→val j t (t.getD j [])∈A
theorem LF {h:Nat}{t:List El}(D:Rd h t){i j:Nat}(US:i<j)(hj:j<h):val i t (t.getD i [])≠val j t (t.getD j []):=by
 intro e;have h1:In j t (R.sqrt (val i t (t.getD i []))):=(In.root (h:=i) (t:=t)).le (by omega);refine D.ns j hj _ h1 ?_;rw[←e];exact R.dk (br.2 (.inr (D.rl i (by omega)).2))
theorem TG.IF {A:List R}{t:List El}(T:TG A t):∃σ:Nat→Nat,(∀j,j<t.length→σ j<A.length∧val j t (t.getD j [])=A.getD (σ j) (q 0))∧∀i j,i<j→j<t.length→σ i≠σ j:=by
 obtain⟨σ,hσ⟩:=Classical.axiomOfChoice (r:=fun(j k:Nat)=>j<t.length→k<A.length∧val j t (t.getD j [])=A.getD k (q 0)) (fun j=>by
  by_cases hj:j<t.length
  ·obtain⟨k,hk,e⟩:=List.mem_iff_getElem.1 (T.mem j hj);exact⟨k,fun _=>⟨hk,by rw[←e,X7,X8 hk];rfl⟩⟩
  exact⟨0,fun h=>absurd h hj⟩)
 refine⟨σ,hσ,fun i j US hj e=>LF T.rd US hj ?_⟩;rw[(hσ i (by omega)).2,(hσ j hj).2,e]
theorem TG.env {A:List R}(S:Src 64 A)(hA:A.length≤3){t:List El}(T:TG A t):
  t.length≤3∧∃(z:List El) (w d:Nat→Nat),Zt t.length z w∧Lk t.length t z d∧(∀i,i<t.length→w i≤2^cW∧d i≤2^cW∧Ht i z w (val i t (t.getD i [])) cW)∧
   (∀a∈A,In t.length t (R.sqrt a)→Ht t.length z w (R.sqrt a) (nU t.length))∧∀a∈A,In t.length t a→Ht t.length z w a cW:=by
 obtain⟨σ,hσ,hi⟩:=T.IF;obtain⟨h3,hm⟩:=KM (fun j hj=>by have:=(hσ j hj).1;omega) hi;have ha:=Qu _ hm;rw[List.length_map,List.length_range,←MO]at ha;obtain⟨z,w,d,E⟩:=Tw.env S T.rd hσ;refine⟨h3,z,w,d,E.zt,E.lk,fun i hi=>?_,fun a haA Se=>?_,fun a haA Se=>?_⟩
 ·obtain⟨_,h1,h2,h4⟩:=E.at' i hi
  have:=Bl (s:=sN 64 σ t.length) (j:=i) (by rw[E.sl];exact hi)
  have hm:=Nat.le_trans this (xM ha (k:=0) (by decide)).2.1;have hl:2^((sN 64 σ t.length).getD i (0,0)).2≤2^cW:=Nat.pow_le_pow_right (by decide) hm;exact⟨Nat.le_trans h1 hl,Nat.le_trans h2 hl,h4.mono hm⟩
 ·obtain⟨k,hk,rfl⟩:=List.mem_iff_getElem.1 haA;have ek:A.getD k (q 0)=A[k]:=by rw[X7,X8 hk];rfl
  rw[←ek]at Se⊢;exact(KU S E hk Se).mono (xM ha (by omega)).1
 obtain⟨k,hk,rfl⟩:=List.mem_iff_getElem.1 haA;have ek:A.getD k (q 0)=A[k]:=by rw[X7,X8 hk];rfl
 rw[←ek]at Se⊢;refine Ht.mono ?_ (xM ha (show k<3 by omega)).2.2;unfold zI
 cases hl:Kt (sN 64 σ t.length) k with
 |some W=>
  obtain⟨j,hj,ej⟩:=tn hl;rw[E.sl]at hj;obtain⟨a1,_,_,a4⟩:=E.at' j hj;rw[ej]at a1 a4;rw[a1]at a4;exact a4.le (Nat.le_of_lt hj)
 |none=>exact Iy S hk k (kk:=0) (by omega) (c:=0) E (fun i hi=>absurd hi (Nat.not_lt_zero _)) Se
end Go.Tw
namespace Go.R
open Go.Re
theorem nm (x:R):x*q (mkRat 1 2)+x*q (mkRat 1 2)=x:=by
 induction x using ind with|h x=>
 exact pt fun n=>by
  simp only[Sq.add,Sq.mul,Sq.const]
  have:(mkRat 1 2:Rat)+mkRat 1 2=1:=by decide+kernel
  grind
theorem N3 (p g r:R):p*p+g*g*r+(p*p+ -(g*g*r))=p*p+p*p:=by
 induction p using ind with|h p=>induction g using ind with|h g=>induction r using ind with|h r=>
 exact pt fun n=>by simp only[Sq.add,Sq.mul,Sq.neg];grind
end Go.R
namespace Go.Tw
open Go Go.R
section
variable {h:Nat}{t:List El}{a:El}
def lU (h:Nat)(t:List El)(x:R):Prop:=∀z,In h t z→z*z≠x
theorem rZ (hv:a.drop (2^h)=zE (2^h)):val (h+1) t a=val h t (a.take (2^h)):=by
 rw[val,hv,val_zero,zero_mul,add_zero]
theorem yB (hv:a.drop (2^h)=zE (2^h)){w:El}(hw:w.length=2^h)(e:val h t w*val h t w=val h t (a.take (2^h))):
  (w++zE (2^h)).length=2^(h+1)∧val (h+1) t (w++zE (2^h))*val (h+1) t (w++zE (2^h))=val (h+1) t a:=by
 refine⟨by rw[X6,hw,au,Nat.pow_succ];omega,?_⟩;rw[kS hw,rZ hv,e]
theorem zW (H:Rl (h+1) t)(ha:a.length=2^(h+1))(hv:a.drop (2^h)=zE (2^h)){i:El}(hi:cA h t (t.getD h [])=some i){w:El}(hw:w.length=2^h)(e:val h t w*val h t w=val h t (ai h t (a.take (2^h)) i)):
  (zE (2^h)++w).length=2^(h+1)∧val (h+1) t (zE (2^h)++w)*val (h+1) t (zE (2^h)++w)=val (h+1) t a:=by
 have H':=H.le (Nat.le_succ h);obtain⟨hl,hm⟩:=dh H' (H h (by omega)).1 hi;refine⟨by rw[X6,hw,au,Nat.pow_succ];omega,?_⟩;rw[val_mul H' (ah ha) hl]at e;rw[gh au,val_zero,zero_add,rZ hv,jW,H.root,e,mul_assoc,mul_comm (val h t i),hm,mul_one]
theorem zA (D:Rd (h+1) t)(ha:a.length=2^(h+1))(hv:a.drop (2^h)=zE (2^h)){i:El}(hi:cA h t (t.getD h [])=some i)
  (n1:lU h t (val h t (a.take (2^h)))) (n2:lU h t (val h t (ai h t (a.take (2^h)) i))):lU (h+1) t (val (h+1) t a):=by
 have H':=D.rl.le (Nat.le_succ h);obtain⟨hl,hm⟩:=dh H' (D.rl h (by omega)).1 hi;intro z hz e;rw[rZ hv]at e
 rcases Of D (.of (ah ha)) hz e with⟨k1,k2⟩|⟨g,k1,_,k3⟩
 ·exact n1 z k1 k2
 refine n2 g k1 ?_;rw[val_mul H' (ah ha) hl,←k3,mul_assoc,hm,mul_one]
theorem vm (D:Rd (h+1) t)(ha:a.length=2^(h+1))(hv:a.drop (2^h)≠zE (2^h))(n1:lU h t (val h t (aO h t a))):lU (h+1) t (val (h+1) t a):=by
 have D':=D.le (Nat.le_succ h);have h0:val h t (a.drop (2^h))≠q 0:=fun e=>hv (mO D' (ag ha) e);intro z hz e;obtain⟨p,g,hp,hg,_,_,_,_,k⟩:=Ec D (.of (ah ha)) (.of (ag ha)) h0 hz e;refine n1 _ ((In.mul D'.rl hp hp).add (In.mul D'.rl (In.mul D'.rl hg hg) (.of (D.rl h (by omega)).1)).neg) ?_;rw[k,fk D.rl ha,D.rl.root]
theorem xy (D:Rd (h+1) t)(ha:a.length=2^(h+1))(hv:a.drop (2^h)≠zE (2^h)){m:El}(hm:m.length=2^h)(em:val h t m*val h t m=val h t (aO h t a)){w:El}
  (ew:val h t w*val h t w=val h t (ai h t (aE (a.take (2^h)) m) (aU h (mkRat 1 2)))):val h t w≠q 0:=by
 have D':=D.le (Nat.le_succ h);intro e;rw[e,mul_zero,val_mul D'.rl (aq (ah ha) hm) ay,bE,val_add (ah ha) hm]at ew;have k:=nm (val h t (a.take (2^h))+val h t m);rw[←ew,add_zero]at k;have k2:val h t m= -val h t (a.take (2^h)):=nk (by rw[add_comm];exact k.symm);rw[k2,neg_mul,mul_neg,neg_neg,fk D.rl ha,D.rl.root]at em;have k3: -(val h t (a.drop (2^h))*val h t (a.drop (2^h))*val h t (t.getD h []))=q 0:=by
  have k4:q 0+val h t (a.take (2^h))*val h t (a.take (2^h))= -(val h t (a.drop (2^h))*val h t (a.drop (2^h))*val h t (t.getD h []))+val h t (a.take (2^h))*val h t (a.take (2^h)):=by
   rw[zero_add,add_comm];exact em
  exact(Cw k4).symm
 have k5:=congrArg (- ·) k3;simp only[neg_neg,gi]at k5
 rcases gQ k5 with k5|k5
 ·exact hv (mO D' (ag ha) (P7 k5))
 exact iu (D.rl h (by omega)).2 k5
theorem vp (D:Rd (h+1) t)(ha:a.length=2^(h+1))(hv:a.drop (2^h)≠zE (2^h)){m:El}(hm:m.length=2^h)(em:val h t m*val h t m=val h t (aO h t a)){w:El}(hw:w.length=2^h)
  (ew:val h t w*val h t w=val h t (ai h t (aE (a.take (2^h)) m) (aU h (mkRat 1 2)))) {g:El} (hg:g.length=2^h) (eg:val h t w*val h t g+val h t w*val h t g=val h t (a.drop (2^h))):
  (w++g).length=2^(h+1)∧val (h+1) t (w++g)*val (h+1) t (w++g)=val (h+1) t a:=by
 have D':=D.le (Nat.le_succ h);have h0:=xy D ha hv hm em ew;rw[val_mul D'.rl (aq (ah ha) hm) ay,bE,val_add (ah ha) hm]at ew;rw[fk D.rl ha,D.rl.root]at em;refine⟨by rw[X6,hw,hg,Nat.pow_succ];omega,?_⟩;rw[gh hw,val];exact Ln D.rl.root em (by rw[ew,nm]) h0 eg
theorem wh (D:Rd (h+1) t)(ha:a.length=2^(h+1))(hv:a.drop (2^h)≠zE (2^h)){n:El}(hn:n.length=2^h)(en:val h t n*val h t n=val h t (aO h t a))
  (n1:lU h t (val h t (ai h t (aE (a.take (2^h)) n) (aU h (mkRat 1 2))))) (n2:lU h t (val h t (ai h t (aE (a.take (2^h)) (aH n)) (aU h (mkRat 1 2))))):lU (h+1) t (val (h+1) t a):=by
 have D':=D.le (Nat.le_succ h);have h0:val h t (a.drop (2^h))≠q 0:=fun e=>hv (mO D' (ag ha) e);have ln:(aH n).length=2^h:=by rw[ar,hn]
 intro z hz e;obtain⟨p,g,hp,hg,_,_,_,k1,k⟩:=Ec D (.of (ah ha)) (.of (ag ha)) h0 hz e;rw[val_mul D'.rl (aq (ah ha) hn) ay,bE,val_add (ah ha) hn]at n1;rw[val_mul D'.rl (aq (ah ha) ln) ay,bE,val_add (ah ha) ln,val_neg hn]at n2;have e2:val h t n*val h t n=(p*p+ -(g*g*val h t (t.getD h [])))*(p*p+ -(g*g*val h t (t.getD h []))):=by
  rw[en,k,fk D.rl ha,D.rl.root]
 have key:val h t (a.take (2^h))+(p*p+ -(g*g*val h t (t.getD h [])))=p*p+p*p:=by
  rw[←k1,N3]
 have WO:(p*p+p*p)*q (mkRat 1 2)=p*p:=by rw[add_mul,nm]
 rcases yY e2 with e3|e3
 ·exact n1 p hp (by rw[e3,key,WO])
 exact n2 p hp (by rw[e3,neg_neg,key,WO])
end
end Go.Tw
namespace Go.Tw
open Go Go.R
noncomputable def dot:List Rat→List R→R
 |l::ls,x::xs=>q l*x+dot ls xs
 |_,_=>q 0
theorem C7:∀{l m:List Rat} {x y:List R},l.length=x.length→dot (l++m) (x++y)=dot l x+dot m y
 |[],m,[],y,_=>by show dot m y=dot [] []+_;rw[show dot [] []=q 0 from rfl,zero_add]
 |a::l,m,b::x,y,h=>by
  have h:l.length=x.length:=by simpa using h
  show q a*b+dot (l++m) (x++y)=q a*b+dot l x+dot m y;rw[C7 h,add_assoc]
theorem De (s:R):∀(l:List Rat) (x:List R),dot l (x.map (· *s))=dot l x*s
 |[],[]=>by show q 0=q 0*s;rw[zero_mul]
 |[],_::_=>by show q 0=q 0*s;rw[zero_mul]
 |_::_,[]=>by show q 0=q 0*s;rw[zero_mul]
 |a::l,b::x=>by
  show q a*(b*s)+dot l (x.map (· *s))=(q a*b+dot l x)*s;rw[De s l x,add_mul,mul_assoc]
noncomputable def JC:Nat→List El→List R
 |0,_=>[q 1]
 |h+1,t=>JC h t++(JC h t).map (· *R.sqrt (val h t (t.getD h [])))
theorem nv {t:List El}:∀{h:Nat},(JC h t).length=2^h
 |0=>rfl
 |h+1=>by rw[JC,X6,List.length_map,nv,Nat.pow_succ];omega
theorem sf {t:List El}:∀{h:Nat} {a:El},a.length=2^h→val h t a=dot a (JC h t)
 |0,a,ha=>by
  obtain⟨x,rfl⟩:=bx ha;show q x=q x*q 1+q 0;rw[mul_one,add_zero]
 |h+1,a,ha=>by
  have e:a=a.take (2^h)++a.drop (2^h):=(List.take_append_drop _ _).symm;rw[val,JC]
  conv=>rhs;rw[e]
  rw[C7 (by rw[ah ha,nv]),De,sf (ah ha),sf (ag ha)]
theorem Bm {t:List El}:∀{h:Nat} {x:R},x∈JC h t→In h t x
 |0,x,hx=>by
  have:x=q 1:=List.mem_singleton.1 hx
  rw[this];exact In.rat 1
 |h+1,x,hx=>by
  rcases List.mem_append.1 hx with hx|hx
  ·exact(Bm hx).up
  obtain⟨y,hy,rfl⟩:=List.mem_map.1 hx
  have:=In.join (t:=t) (In.rat (h:=h) 0) (Bm hy)
  rwa [zero_add]at this
def Sp (ys:List R)(x:R):Prop:=∃c:List Rat,c.length=ys.length∧dot c ys=x
def QE (a b:List R):Prop:=∀l:List Rat,l.length=a.length→∃m:List Rat,m.length=b.length∧dot m b=dot l a∧((∀x∈m,x=0)→∀x∈l,x=0)
theorem Sp.cons {y x:R}{ys:List R}(h:Sp (y::ys) x):∃c z,Sp ys z∧x=q c*y+z:=by
 obtain⟨c,hc,rfl⟩:=h
 match c,hc with
 |a::c,hc=>exact⟨a,_,⟨c,by simpa using hc,rfl⟩,rfl⟩
theorem zf (k:Rat):∀(c:List Rat) (ys:List R),dot (c.map (k* ·)) ys=q k*dot c ys
 |[],[]=>by show q 0=q k*q 0;rw[mul_zero]
 |[],_::_=>by show q 0=q k*q 0;rw[mul_zero]
 |_::_,[]=>by show q 0=q k*q 0;rw[mul_zero]
 |a::c,y::ys=>by
  show q (k*a)*y+dot (c.map (k* ·)) ys=q k*(q a*y+dot c ys);rw[zf k c ys,mul_add,dr,mul_assoc]
theorem Dh:∀(c d:List Rat) (ys:List R),c.length=ys.length→d.length=ys.length→dot (List.zipWith (· + ·) c d) ys=dot c ys+dot d ys
 |[],[],[],_,_=>by show q 0=q 0+q 0;rw[add_zero]
 |[],_::_,[],_,hd=>by cases hd
 |_::_,_,[],hc,_=>by cases hc
 |[],_,_::_,hc,_=>by cases hc
 |_::_,[],_::_,_,hd=>by cases hd
 |a::c,b::d,y::ys,hc,hd=>by
  show q (a+b)*y+dot (List.zipWith (· + ·) c d) ys=q a*y+dot c ys+(q b*y+dot d ys);rw[Dh c d ys (by simpa using hc) (by simpa using hd),vH,add_mul,add_assoc,add_assoc]
  congr 1
  rw[←add_assoc,←add_assoc,add_comm (q b*y)]
theorem Sp.add {ys:List R}{x z:R}(h:Sp ys x)(k:Sp ys z):Sp ys (x+z):=by
 obtain⟨c,hc,rfl⟩:=h;obtain⟨d,hd,rfl⟩:=k;exact⟨List.zipWith (· + ·) c d,by rw[List.length_zipWith];omega,Dh c d ys hc hd⟩
theorem Sp.smul {ys:List R}{x:R}(k:Rat)(h:Sp ys x):Sp ys (q k*x):=by
 obtain⟨c,hc,rfl⟩:=h;exact⟨c.map (k* ·),by rw[List.length_map,hc],zf k c ys⟩
theorem free {y x z:R}{ys:List R}{c:Rat}(h0:c≠0)(hz:Sp ys z)(hx:x=q c*y+z):∀{r:List R},(∀v∈r,Sp (y::ys) v)→
  ∃r':List R,r'.length=r.length∧(∀v∈r',Sp ys v)∧QE r' (x::r)∧∀l:List Rat,l.length=r'.length→∃k:Rat,q k*x+dot l r=dot l r'
 |[],_=>by
  have z:q 0*x+q 0=q 0:=by rw[zero_mul,zero_add]
  refine⟨[],rfl,fun v hv=>(by cases hv),fun l hl=>?_,fun l hl=>⟨0,?_⟩⟩
  ·obtain rfl:l=[]:=List.length_eq_zero_iff.1 hl;exact⟨[0],rfl,z,fun _ v hv=>(by cases hv)⟩
  obtain rfl:l=[]:=List.length_eq_zero_iff.1 hl;exact z
 |v::r,hr=>by
  obtain⟨r',h1,h2,_,h4⟩:=free h0 hz hx (r:=r) (fun v hv=>hr v (List.mem_cons_of_mem _ hv));obtain⟨d,u,hu,hv⟩:=(hr v (List.mem_cons_self ..)).cons;have key:q (-(d*c⁻¹))*x+v=q (-(d*c⁻¹))*z+u:=by
   rw[hx,hv,mul_add,add_assoc,←add_assoc (q _*z),add_comm (q _*z),add_assoc (q d*y),←add_assoc (q _*(q c*y)),←mul_assoc,←dr,←add_mul,←vH,
    show-(d*c⁻¹)*c+d=0 by have:=Rat.inv_mul_cancel c h0;grind,zero_mul,zero_add]
  have h5:∀l:List Rat,l.length=((q (-(d*c⁻¹))*x+v)::r').length→∃k:Rat,q k*x+dot l (v::r)=dot l ((q (-(d*c⁻¹))*x+v)::r'):=by
   intro l hl
   match l,hl with
   |a::l,hl=>
    obtain⟨k,hk⟩:=h4 l (by simpa using hl);refine⟨k+a* -(d*c⁻¹),?_⟩;show q (k+a* -(d*c⁻¹))*x+(q a*v+dot l r)=q a*(q (-(d*c⁻¹))*x+v)+dot l r';rw[←hk,vH,dr,add_mul,mul_add,mul_assoc,add_assoc,add_assoc]
    generalize q a*(q (-(d*c⁻¹))*x)=p
    generalize q a*v=w
    generalize q k*x=s
    generalize dot l r=e
    rw[←add_assoc,←add_assoc,add_comm s p,add_assoc p s w,add_comm s w,←add_assoc p w s,add_assoc,add_assoc]
  refine⟨(q (-(d*c⁻¹))*x+v)::r',by simp[h1],fun w hw=>?_,fun l hl=>?_,h5⟩
  ·rcases List.mem_cons.1 hw with rfl|hw
   ·rw[key];exact(hz.smul _).add hu
   exact h2 w hw
  obtain⟨k,hk⟩:=h5 l hl;exact⟨k::l,by simp only[List.length_cons]at hl⊢;omega,hk,fun h w hw=>h w (List.mem_cons_of_mem _ hw)⟩
theorem MJ {y:R}{ys:List R}:∀{r:List R},(∀v∈r,Sp (y::ys) v)→(∀v∈r,Sp ys v)∨∃r':List R,r'.length+1=r.length∧(∀v∈r',Sp ys v)∧QE r' r
 |[],_=>.inl fun v hv=>(by cases hv)
 |x::r,hr=>by
  obtain⟨c,z,hz,hx⟩:=(hr x (List.mem_cons_self ..)).cons
  by_cases h0:c=0
  ·have UD:Sp ys x:=by rw[hx,h0,zero_mul,zero_add];exact hz
   rcases MJ (r:=r) (fun v hv=>hr v (List.mem_cons_of_mem _ hv))with h|⟨r',h1,h2,h3⟩
   ·refine .inl fun v hv=>?_
    rcases List.mem_cons.1 hv with rfl|hv
    ·exact UD
    exact h v hv
   refine .inr ⟨x::r',by simp[h1],fun v hv=>?_,fun l hl=>?_⟩
   ·rcases List.mem_cons.1 hv with rfl|hv
    ·exact UD
    exact h2 v hv
   match l,hl with
   |a::l,hl=>
    obtain⟨m,hm,he,ZL⟩:=h3 l (by simpa using hl);refine⟨a::m,by simp[hm],?_,fun h w hw=>?_⟩
    ·show q a*x+dot m r=q a*x+dot l r';rw[he]
    rcases List.mem_cons.1 hw with rfl|hw
    ·exact h _ (List.mem_cons_self ..)
    exact ZL (fun x hx=>h x (List.mem_cons_of_mem _ hx)) w hw
  obtain⟨r',h1,h2,h3,_⟩:=free h0 hz hx (r:=r) (fun v hv=>hr v (List.mem_cons_of_mem _ hv));exact .inr ⟨r',by simp[h1],h2,h3⟩
theorem Ga:∀{ys r:List R},(∀v∈r,Sp ys v)→ys.length<r.length→∃l:List Rat,l.length=r.length∧dot l r=q 0∧¬∀x∈l,x=0
 |[],r,hr,h=>by
  match r,h with
  |x::r,_=>
   have hx:x=q 0:=by
    obtain⟨c,hc,e⟩:=hr x (List.mem_cons_self ..);obtain rfl:c=[]:=List.length_eq_zero_iff.1 hc;exact e.symm
   have z:∀r:List R,dot (r.map fun _=>(0:Rat)) r=q 0:=by
    intro r
    induction r with
    |nil=>rfl
    |cons y r ih=>show q 0*y+dot (r.map fun _=>(0:Rat)) r=q 0;rw[ih,zero_mul,zero_add]
   refine⟨1::r.map fun _=>0,by simp,?_,fun h=>absurd (h 1 (List.mem_cons_self ..)) (by decide)⟩;show q 1*x+dot (r.map fun _=>(0:Rat)) r=q 0;rw[z,hx,mul_zero,zero_add]
 |y::ys,r,hr,h=>by
  have go:∀r':List R,(∀v∈r',Sp ys v)→ys.length<r'.length→QE r' r→∃l:List Rat,l.length=r.length∧dot l r=q 0∧¬∀x∈l,x=0:=by
   intro r' h1 h2 h3;obtain⟨l,hl,e,n⟩:=Ga h1 h2;obtain⟨m,hm,e2,n2⟩:=h3 l hl;exact⟨m,hm,e2.trans e,fun h=>n (n2 h)⟩
  rcases MJ hr with k|⟨r',h1,h2,h3⟩
  ·exact go r k (by simp only[List.length_cons]at h;omega) fun l hl=>⟨l,hl,rfl,id⟩
  exact go r' h2 (by simp only[List.length_cons]at h;omega) h3
theorem NH {m n:Nat}(h:m<n){t u:List El}(D:Rd n t)(Se:∀x,In n t x→In m u x):False:=by
 obtain⟨l,hl,e,n0⟩:=Ga (ys:=JC m u) (r:=JC n t) (fun v hv=>by
  obtain⟨c,hc,e⟩:=Se v (Bm hv);exact⟨c,by rw[hc,nv],by rw[←e,sf hc]⟩) (by rw[nv,nv];exact Nat.pow_lt_pow_right (by decide) h)
 have hl:l.length=2^n:=by rw[hl,nv]
 rw[←sf hl]at e;rw[mO D hl e]at n0;exact n0 fun x hx=>List.eq_of_mem_replicate hx
end Go.Tw
namespace Go.Tw
open Go Go.R
theorem df {T S:List El}{j:Nat}(h:j<T.length):(T++S).getD j []=T.getD j []:=by
 rw[X7,List.getElem?_append_left h,←X7]
theorem eC {T S:List El}{h:Nat}(hh:h≤T.length)(a:El):val h (T++S) a=val h T a:=val_congr (fun j hj=>df (by omega)) a
theorem jJ {T S:List El}{h:Nat}(hh:h≤T.length)(x:R):In h (T++S) x↔In h T x:=
 ⟨fun⟨a,ha,e⟩=>⟨a,ha,by rw[←e,eC hh]⟩,fun⟨a,ha,e⟩=>⟨a,ha,by rw[eC hh,e]⟩⟩
theorem fO {T:List El}{e:El}:(T++[e]).getD T.length []=e:=by
 rw[X7,List.getElem?_append_right (Nat.le_refl _),Nat.sub_self];rfl
theorem TG.snoc {A:List R}{T:List El}{e:El}(G:TG A T)(he:e.length=2^T.length)(hv:val T.length T e∈A)(hp:R.pos (val T.length T e))(hn:lU T.length T (val T.length T e)):TG A (T++[e]):=by
 have hl:(T++[e]).length=T.length+1:=by simp
 have key:∀i,i<T.length+1→i<T.length∨i=T.length:=fun i hi=>by omega
 refine⟨⟨fun i hi=>?_,fun i hi x hx=>?_⟩,fun j hj=>?_⟩
 ·rcases key i (by omega)with h|rfl
  ·rw[df h,eC (Nat.le_of_lt h)];exact G.rd.rl i h
  rw[fO,eC (Nat.le_refl _)];exact⟨he,hp⟩
 ·rcases key i (by omega)with h|rfl
  ·rw[df h,eC (Nat.le_of_lt h)];exact G.rd.ns i h x ((jJ (Nat.le_of_lt h) x).1 hx)
  rw[fO,eC (Nat.le_refl _)];exact hn x ((jJ (Nat.le_refl _) x).1 hx)
 rcases key j (by omega)with h|rfl
 ·rw[df h,eC (Nat.le_of_lt h)];exact G.mem j h
 rw[fO,eC (Nat.le_refl _)];exact hv
theorem In.mM {k:Nat}{t:List El}(D:Rd k t){u:List El}:∀{h:Nat} (_:∀j,j<h→In k t (R.sqrt (val j u (u.getD j [])))) {x:R},In h u x→In k t x
 |0,_,x,hx=>by
  obtain⟨a,ha,rfl⟩:=hx;obtain⟨y,rfl⟩:=bx ha;exact In.rat _
 |h+1,hr,x,hx=>by
  obtain⟨p,g,hp,hg,rfl⟩:=hx.split;exact(In.mM D (fun j hj=>hr j (by omega)) hp).add (In.mul D.rl (In.mM D (fun j hj=>hr j (by omega)) hg) (hr h (by omega)))
theorem lU.of {h:Nat}{t:List El}{x:R}(hp:pos x)(hn:¬In h t (R.sqrt x)):lU h t x:=fun y hy e=>by
 rw[←R.dk (br.2 (.inr hp))]at e
 rcases yY e with e|e
 ·exact hn (e▸hy)
 have:=hy.neg
 rw[e,neg_neg]at this;exact hn this
theorem GG:∀(n h:Nat) (σ:Nat→Nat),(∀i,i<h→σ i<n)→(∀i j,i<j→j<h→σ i≠σ j)→h≤n
 |0,h,σ,h1,_=>by
  rcases Nat.eq_zero_or_pos h with e|e
  ·omega
  exact absurd (h1 0 e) (Nat.not_lt_zero _)
 |n+1,h,σ,h1,h2=>by
  by_cases hc:∃a,a<h∧σ a=n
  ·obtain⟨a,ha,e⟩:=hc;have RT:∀i,i<h→i≠a→σ i<n:=fun i hi Tg=>by
    have:=h1 i hi
    have:σ i≠n:=fun k=>by
     rcases Nat.lt_or_gt_of_ne Tg with l|l
     ·exact h2 i a l ha (k.trans e.symm)
     exact h2 a i l hi (e.trans k.symm)
    omega
   have:=GG n (h-1) (fun i=>if i<a then σ i else σ (i+1)) (fun i hi=>by
    split
    ·exact RT i (by omega) (by omega)
    ·exact RT (i+1) (by omega) (by omega)) fun i j US hj e=>by
    split at e<;>split at e
    ·exact h2 i j US (by omega) e
    ·exact h2 i (j+1) (by omega) (by omega) e
    ·omega
    exact h2 (i+1) (j+1) (by omega) (by omega) e
   omega
  have:=GG n h σ (fun i hi=>by
   have:=h1 i hi
   have:σ i≠n:=fun k=>hc ⟨i,hi,k⟩
   omega) h2
  omega
theorem TG.mn {A:List R}{t:List El}(T:TG A t):t.length≤A.length:=by
 obtain⟨σ,hσ,hi⟩:=T.IF;exact GG _ _ σ (fun i h=>(hσ i h).1) hi
theorem TG.all {A:List R}{B:Nat}(S:Src B A){t:List El}(T:TG A t):∀{k:Nat} (_:k≤A.length),∃s,TG A (t++s)∧∀i,i<k→In (t++s).length (t++s) (R.sqrt (A.getD i (q 0)))
 |0,_=>⟨[],by rw[List.append_nil];exact T,fun i hi=>absurd hi (Nat.not_lt_zero _)⟩
 |k+1,hk=>by
  obtain⟨s,G,hs⟩:=TG.all S T (k:=k) (by omega)
  by_cases h:In (t++s).length (t++s) (R.sqrt (A.getD k (q 0)))
  ·refine⟨s,G,fun i hi=>?_⟩
   by_cases e:i=k
   ·rw[e];exact h
   exact hs i (by omega)
  obtain⟨m,u,e,hm,he,hb,hu,hx⟩:=S.expr k (by omega);have Se:In (t++s).length (t++s) (A.getD k (q 0)):=by
   rw[hx];refine In.mM G.rd (fun j hj=>?_) (.of he);obtain⟨i,hi,_,ei⟩:=AO (hu j hj);rw[ei];exact hs i hi
  obtain⟨a,ha,hv⟩:=Se;have hp:=S.pos k (by omega);rw[←hv]at hp h;have hm:val (t++s).length (t++s) a∈A:=by
   rw[hv,X7,X8 (show k<A.length by omega)];exact List.getElem_mem _
  have G':=G.snoc ha hm hp (lU.of hp h);rw[List.append_assoc]at G';have hl:(t++(s++[a])).length=(t++s).length+1:=by simp only[X6,List.length_singleton];omega
  refine⟨s++[a],G',fun i hi=>?_⟩;rw[hl,←List.append_assoc]
  by_cases ei:i=k
  ·have:=In.root (h:=(t++s).length) (t:=t++s++[a])
   rw[fO,eC (Nat.le_refl _),hv]at this;rw[ei];exact this
  exact((jJ (Nat.le_refl _) _).2 (hs i (by omega))).up
theorem TG.top {A:List R}{B:Nat}(S:Src B A){t:List El}(T:TG A t):∃s,TG A (t++s)∧(∀a,a∈A→In (t++s).length (t++s) (R.sqrt a))∧∀U,TG A U→U.length≤(t++s).length:=by
 obtain⟨s,G,hs⟩:=T.all S (Nat.le_refl A.length);have hr:∀a,a∈A→In (t++s).length (t++s) (R.sqrt a):=fun a ha=>by
  obtain⟨i,hi,rfl⟩:=List.mem_iff_getElem.1 ha
  have:=hs i hi
  rwa [X7,X8 hi,Option.getD_some]at this
 refine⟨s,G,hr,fun U GU=>Nat.le_of_not_lt fun h=>?_⟩;exact NH h GU.rd fun x hx=>In.mM G.rd (fun j hj=>hr _ (GU.mem j hj)) hx
end Go.Tw
namespace Go.Tw
open Go Go.R Go.Eng
def QB (B:Nat)(a:El):Prop:=∀c∈a,qm c≤B
theorem QB.mono {B C:Nat}{a:El}(h:QB B a)(k:B≤C):QB C a:=fun c hc=>Nat.le_trans (h c hc) k
theorem QB.take {B:Nat}{a:El}(h:QB B a)(n:Nat):QB B (a.take n):=fun c hc=>h c (List.mem_of_mem_take hc)
theorem QB.drop {B:Nat}{a:El}(h:QB B a)(n:Nat):QB B (a.drop n):=fun c hc=>h c (List.mem_of_mem_drop hc)
theorem QB.app {B:Nat}{a b:El}(h:QB B a)(k:QB B b):QB B (a++b):=fun c hc=>by
 rcases List.mem_append.1 hc with hc|hc
 ·exact h c hc
 exact k c hc
theorem Dv:qm 0≤1:=by decide+kernel
theorem QB.zero {n:Nat}:QB 1 (zE n):=fun c hc=>by rw[List.eq_of_mem_replicate hc];exact Dv
theorem A8 (x:Rat):qm (-x)=qm x:=by unfold qm;rw[Rat.neg_num,Rat.neg_den,HT]
theorem QB.neg {B:Nat}{a:El}(h:QB B a):QB B (aH a):=fun c hc=>by
 obtain⟨x,hx,rfl⟩:=List.mem_map.1 hc;rw[A8];exact h x hx
theorem QB.add:∀{a b:El} {B C:Nat},QB B a→QB C b→QB (B+C+1) (aE a b)
 |[],b,_,_,_,_=>by intro x hx;cases b<;>cases hx
 |x::a,[],_,_,_,_=>by intro y hy;cases hy
 |x::a,y::b,B,C,h,k=>by
  intro u hu;have hu:u=x+y∨u∈aE a b:=List.mem_cons.1 hu
  rcases hu with rfl|hu
  ·have:=ON x y
   have:=h x (by simp)
   have:=k y (by simp)
   omega
  exact QB.add (fun v hv=>h v (by simp[hv])) (fun v hv=>k v (by simp[hv])) u hu
theorem QB.getD {B:Nat}{a:El}(h:QB B a)(h1:1≤B)(i:Nat):qm (a.getD i 0)≤B:=by
 rw[X7]
 cases e:a[i]? with
 |none=>exact Nat.le_trans Dv h1
 |some x=>exact h x (List.mem_of_getElem? e)
theorem bD {h:Nat}{t:List El}{b:El}:ai h t (zE (2^h)) b=zE (2^h):=by
 have zz:∀n,aE (zE n) (zE n)=zE n:=by
  intro n;unfold aE zE;rw[List.zipWith_replicate,Nat.min_self,Rat.add_zero]
 induction h generalizing b with
 |zero=>rw[ai];show[(0:Rat)*_]=_;rw[Rat.zero_mul];rfl
 |succ h ih=>rw[ai,pe,oR,ih,ih,ih,zz,AW]
theorem gn {h:Nat}{t:List El}{a:El}:ai h t a (zE (2^h))=zE (2^h):=by
 have zz:∀n,aE (zE n) (zE n)=zE n:=by
  intro n;unfold aE zE;rw[List.zipWith_replicate,Nat.min_self,Rat.add_zero]
 induction h generalizing a with
 |zero=>rw[ai];show[_*(0:Rat)]=_;rw[Rat.mul_zero];rfl
 |succ h ih=>rw[ai,pe,oR,ih,ih,bD,zz,AW]
end Go.Tw
namespace Go.Tw
open Go Go.R Go.Eng
theorem Sz.imp {G G':R→Nat→Prop}(h:∀x H,G x H→G' x H){x:R}{H:Nat}(hx:Sz G x H):Sz G' x H:=by
 induction hx with
 |gen g=>exact .gen (h _ _ g)
 |rat h1 h2=>exact .rat h1 h2
 |add _ _ h1 h2=>exact .add h1 h2
 |mul _ _ h1 h2=>exact .mul h1 h2
 |neg _ h1=>exact .neg h1
 |inv _ e h1=>exact .inv h1 e
 |mono _ e h1=>exact .mono h1 e
def lK (A:List R)(x:R)(β μ:Nat):Prop:=∀c,Sz (fun y H=>(∃a,a∈A∧y=R.sqrt a)∧H=c) x (β+μ*c)
section
variable {A:List R}
theorem lK.mono {x:R}{β μ β' μ':Nat}(h:lK A x β μ)(h1:β≤β')(h2:μ≤μ'):lK A x β' μ':=fun c=>(h c).mono (by
 have:=Nat.mul_le_mul_right c h2;omega)
theorem lK.add {x y:R}{β μ β' μ':Nat}(h:lK A x β μ)(k:lK A y β' μ'):lK A (x+y) (β+β'+1) (μ+μ'):=fun c=>((h c).add (k c)).mono (by rw[Nat.add_mul];omega)
theorem lK.mul {x y:R}{β μ β' μ':Nat}(h:lK A x β μ)(k:lK A y β' μ'):lK A (x*y) (β+β') (μ+μ'):=fun c=>((h c).mul (k c)).mono (by rw[Nat.add_mul];omega)
theorem lK.neg {x:R}{β μ:Nat}(h:lK A x β μ):lK A (-x) β μ:=fun c=>(h c).neg
theorem lK.inv {x y:R}{β μ:Nat}(h:lK A x β μ)(e:x*y=q 1):lK A y β μ:=fun c=>(h c).inv e
theorem lK.rat {x:Rat}{β:Nat}(h1:x.num.natAbs≤2^β)(h2:x.den≤2^β):lK A (q x) β 0:=fun c=>(Sz.rat h1 h2).mono (by omega)
theorem lK.root {a:R}(h:a∈A):lK A (R.sqrt a) 0 1:=fun c=>(Sz.gen ⟨⟨a,h,rfl⟩,rfl⟩).mono (by omega)
theorem lK.trans {A':List R}(hA:∀a,a∈A→a∈A'){x:R}{β μ:Nat}(h:lK A x β μ):lK A' x β μ:=
 fun c=>(h c).imp fun _ _ ⟨⟨a,ha,e⟩,hc⟩=>⟨⟨a,hA a ha,e⟩,hc⟩
end
structure ax (A:List R) (t:List El) (a:El) (x:R) (β μ:Nat):Prop where
 tg:TG A t
 len:a.length=2^t.length
 val:val t.length t a=x
 sz:lK A x β μ
theorem ax.mono {A:List R}{t:List El}{a:El}{x:R}{β μ β' μ':Nat}(h:ax A t a x β μ)(h1:β≤β')(h2:μ≤μ'):ax A t a x β' μ':=⟨h.tg,h.len,h.val,h.sz.mono h1 h2⟩
theorem TG.sub {A A':List R}{t:List El}(hA:∀a,a∈A→a∈A')(T:TG A t):TG A' t:=⟨T.rd,fun j hj=>hA _ (T.mem j hj)⟩
theorem ax.sub {A A':List R}{t:List El}{a:El}{x:R}{β μ:Nat}(hA:∀a,a∈A→a∈A')(h:ax A t a x β μ):ax A' t a x β μ:=⟨h.tg.sub hA,h.len,h.val,h.sz.trans hA⟩
theorem ax.in {A:List R}{t:List El}{a:El}{x:R}{β μ:Nat}(h:ax A t a x β μ):In t.length t x:=⟨a,h.len,h.val⟩
theorem D4 {n b:Nat}(h:n≤2^b):nl n≤b/32+1:=by
 refine aD (Nat.lt_of_le_of_lt h ?_);show 2^b<(2^32)^(b/32+1);rw[←Nat.pow_mul];exact Nat.pow_lt_pow_right (by decide) (by omega)
theorem ya {c:Rat}{b:Nat}(h1:c.num.natAbs≤2^b)(h2:c.den≤2^b):qm c≤b/32+1:=by
 have:=D4 h1
 have:=D4 h2
 unfold qm zn;omega
theorem ti {B c:Nat}:∀k,fE B c k+c+1=(B+1)*2^k+2^k*c
 |0=>by rw[fE];omega
 |k+1=>by
  have:=ti (B:=B) (c:=c) k
  rw[fE,Nat.pow_succ];have e1:(B+1)*(2^k*2)=2*((B+1)*2^k):=by rw[←Nat.mul_assoc,Nat.mul_comm]
  have e2:2^k*2*c=2*(2^k*c):=by rw[Nat.mul_right_comm,Nat.mul_comm]
  rw[e1,e2];omega
theorem Sz.expr {G:R→Nat→Prop}{B c:Nat}{u:List El}:∀{m:Nat} {e:El},e.length=2^m→gW B e→(∀j,j<m→Sz G (R.sqrt (Tw.val j u (u.getD j []))) c)→Sz G (Tw.val m u e) (fE B c m):=by
 intro m
 induction m with
 |zero=>
  intro e he hb _;obtain⟨x,rfl⟩:=bx he;obtain⟨h1,h2⟩:=hb x (by simp);exact Sz.rat h1 h2
 |succ m ih=>
  intro e he hb hs;have h1:=ih (ah he) (fun c hc=>hb c (List.mem_of_mem_take hc)) (fun j hj=>hs j (by omega));have h2:=ih (ag he) (fun c hc=>hb c (List.mem_of_mem_drop hc)) (fun j hj=>hs j (by omega));exact(h1.add (h2.mul (hs m (by omega)))).mono (by rw[fE];omega)
theorem ax.short {A:List R}{t:List El}{a:El}{B:Nat}(T:TG A t)(ha:a.length=2^t.length)(hb:gW B a):ax A t a (Tw.val t.length t a) ((B+1)*2^t.length) (2^t.length):=
 ⟨T,ha,rfl,fun c=>(Sz.expr (c:=c) ha hb (fun j hj=>.gen ⟨⟨_,T.mem j hj,rfl⟩,rfl⟩)).mono (by have:=ti (B:=B) (c:=c) t.length;omega)⟩
theorem Src.snoc {A:List R}(S:Src 64 A){t:List El}{a:El}(T:TG A t)(ha:a.length=2^t.length)(hb:gW 64 a)(hp:R.pos (Tw.val t.length t a)):Src 64 (A++[Tw.val t.length t a]):=by
 have e1:∀k,k<A.length→(A++[Tw.val t.length t a]).getD k (q 0)=A.getD k (q 0):=fun k hk=>by
  rw[X7,List.getElem?_append_left hk,←X7]
 have e2:(A++[Tw.val t.length t a]).getD A.length (q 0)=Tw.val t.length t a:=by
  rw[X7,List.getElem?_append_right (Nat.le_refl _)];simp
 refine⟨fun k hk=>?_,fun k hk=>?_⟩
 ·by_cases h:k<A.length
  ·rw[e1 k h];exact S.pos k h
  obtain rfl:k=A.length:=by simp at hk;omega
  rw[e2];exact hp
 by_cases h:k<A.length
 ·rw[e1 k h,List.take_append_of_le_length (Nat.le_of_lt h)];exact S.expr k h
 obtain rfl:k=A.length:=by simp at hk;omega
 rw[e2,List.take_append_of_le_length (Nat.le_refl _),List.take_length];exact⟨_,_,_,T.mn,ha,hb,T.mem,rfl⟩
end Go.Tw
namespace Go.Tw
open Go Go.R Go.Eng
theorem qQ:∀(a b:El),aE a b=aE b a
 |[],[]=>rfl
 |[],_::_=>rfl
 |_::_,[]=>rfl
 |x::a,y::b=>by
  show(x+y)::aE a b=(y+x)::aE b a
  rw[Rat.add_comm,qQ]
theorem kb {h:Nat}{t:List El}:∀(a b:El),ai h t a b=ai h t b a:=by
 induction h with
 |zero=>intro a b;rw[ai,ai,Rat.mul_comm]
 |succ h ih=>
  intro a b;rw[ai,ai,ih (a.take _) (b.take _),ih (a.drop _) (b.drop _),ih (a.take _) (b.drop _),ih (a.drop _) (b.take _),qQ (ai h t (b.drop _) (a.take _))]
structure Ev (h:Nat) (t z:List El) (w d:Nat→Nat):Prop where
 rd:Rd h t
 zt:Zt h z w
 lk:Lk h t z d
 wb:∀i,i<h→w i≤2^cW
 db:∀i,i<h→d i≤2^cW
 rb:∀i,i<h→Ht i z w (val i t (t.getD i [])) cW
theorem Ev.le {h k:Nat}{t z:List El}{w d:Nat→Nat}(E:Ev h t z w d)(hk:k≤h):Ev k t z w d:=⟨E.rd.le hk,E.zt.le hk,E.lk.le hk,fun i hi=>E.wb i (by omega),fun i hi=>E.db i (by omega),fun i hi=>E.rb i (by omega)⟩
def bW (h H:Nat):Nat:=2^h*(H+cW)/32+1
def cJ (X:Nat):Nat→List El→El→El→Prop
 |0,t,a,b=>QB X a∧QB X b∧QB X (ai 0 t a b)
 |h+1,t,a,b=>QB X a∧QB X b∧QB X (ai (h+1) t a b)∧cJ X h t (a.take (2^h)) (b.take (2^h))∧cJ X h t (a.drop (2^h)) (b.drop (2^h))∧
  cJ X h t (ai h t (a.drop (2^h)) (b.drop (2^h))) (t.getD h [])∧cJ X h t (a.take (2^h)) (b.drop (2^h))∧cJ X h t (a.drop (2^h)) (b.take (2^h))
theorem cJ.q {X h:Nat}{t:List El}{a b:El}(H:cJ X h t a b):QB X a∧QB X b∧QB X (ai h t a b):=by
 cases h with
 |zero=>exact H
 |succ h=>exact⟨H.1,H.2.1,H.2.2.1⟩
theorem cJ.comm {X h:Nat}:∀{t:List El} {a b:El},cJ X h t a b→cJ X h t b a:=by
 induction h with
 |zero=>intro t a b ⟨h1,h2,h3⟩;exact⟨h2,h1,by rw[kb];exact h3⟩
 |succ h ih=>intro t a b ⟨h1,h2,h3,h4,h5,h6,h7,h8⟩;exact⟨h2,h1,by rw[kb];exact h3,ih h4,ih h5,by rw[kb];exact h6,ih h8,ih h7⟩
theorem pX {h:Nat}{t:List El}:∀{a b:El},a.length=2^h→ai h t (aH a) b=aH (ai h t a b):=by
 have nadd:∀(x y:El),aH (aE x y)=aE (aH x) (aH y):=by
  intro x
  induction x with
  |nil=>intro y;rfl
  |cons u x ih=>
   intro y
   cases y with
   |nil=>rfl
   |cons v y=>
    show-(u+v)::aH (aE x y)=(-u+ -v)::aE (aH x) (aH y)
    rw[ih,Rat.neg_add]
 induction h with
 |zero=>
  intro a b ha;obtain⟨x,rfl⟩:=Go.Tw.bx ha
  show[-x*_]=[-(x*_)]
  rw[Rat.neg_mul]
 |succ h ih=>
  intro a b ha;have e1:(aH a).take (2^h)=aH (a.take (2^h)):=List.map_take.symm;have e2:(aH a).drop (2^h)=aH (a.drop (2^h)):=List.map_drop.symm;have e3:∀x y:El,aH (x++y)=aH x++aH y:=fun x y=>List.map_append;rw[Go.Tw.ai,Go.Tw.ai,e1,e2,ih (ah ha),ih (ag ha),ih (ah ha),ih (ag ha),ih aa,e3,nadd,nadd]
theorem cJ.neg {X h:Nat}:∀{t:List El} {a b:El},a.length=2^h→cJ X h t a b→cJ X h t (aH a) b:=by
 induction h with
 |zero=>intro t a b ha ⟨h1,h2,h3⟩;exact⟨h1.neg,h2,by rw[pX ha];exact h3.neg⟩
 |succ h ih=>
  intro t a b ha ⟨h1,h2,h3,h4,h5,h6,h7,h8⟩;have e1:(aH a).take (2^h)=aH (a.take (2^h)):=List.map_take.symm;have e2:(aH a).drop (2^h)=aH (a.drop (2^h)):=List.map_drop.symm;refine⟨h1.neg,h2,by rw[pX ha];exact h3.neg,?_,?_,?_,?_,?_⟩
  ·rw[e1];exact ih (ah ha) h4
  ·rw[e2];exact ih (ag ha) h5
  ·rw[e2,pX (ag ha)];exact ih aa h6
  ·rw[e1];exact ih (ah ha) h7
  rw[e2];exact ih (ag ha) h8
theorem cJ.mono {X Y:Nat}(SQ:X≤Y){h:Nat}:∀{t:List El} {a b:El},cJ X h t a b→cJ Y h t a b:=by
 induction h with
 |zero=>intro t a b H;exact⟨H.1.mono SQ,H.2.1.mono SQ,H.2.2.mono SQ⟩
 |succ h ih=>intro t a b ⟨h1,h2,h3,h4,h5,h6,h7,h8⟩;exact⟨h1.mono SQ,h2.mono SQ,h3.mono SQ,ih h4,ih h5,ih h6,ih h7,ih h8⟩
def bM (h s:Nat):Nat:=2^h*(s+3*cW)/32+1
theorem sR {h H s:Nat}(e:H≤s+2*cW):bW h H≤bM h s:=by
 unfold bW bM
 have:=Nat.mul_le_mul_left (2^h) (show H+cW≤s+3*cW by omega)
 omega
theorem LO {h s:Nat}:bM h (2*s+3*cW)≤bM (h+1) s:=by
 unfold bM;rw[Nat.pow_succ,Nat.mul_assoc]
 have:=Nat.mul_le_mul_left (2^h) (show 2*s+3*cW+3*cW≤2*(s+3*cW) by omega)
 omega
section
variable {t z:List El}{w d:Nat→Nat}
theorem Ev.qb {h:Nat}(E:Ev h t z w d){a:El}{H:Nat}(ha:a.length=2^h)(hx:Ht h z w (val h t a) H):QB (bW h H) a:=fun c hc=>by
 have:=BX (E:=cW) E.lk E.rd.rl E.zt E.db ha hx c hc
 exact ya this.1 this.2
theorem Ev.parts {h:Nat}(E:Ev (h+1) t z w d){a:El}{H:Nat}(ha:a.length=2^(h+1))(hx:Ht (h+1) z w (val (h+1) t a) H):
  Ht h z w (val h t (a.take (2^h))) (2*H)∧Ht h z w (val h t (a.drop (2^h))) (2*H+cW)∧Ht h z w (val h t (aO h t a)) (2*H):=by
 have E':=E.le (Nat.le_succ h);have hr:=E.lk.root E.rd.rl;have hd:=mL (E.lk.d0 h (by omega));have hu:In h t (val h t (a.take (2^h))):=.of (ah ha);have hv:In h t (val h t (a.drop (2^h))*q ((d h:Rat)⁻¹)):=In.mul E'.rd.rl (.of (ag ha)) (In.rat _);have e:val (h+1) t a=val h t (a.take (2^h))+val h t (a.drop (2^h))*q ((d h:Rat)⁻¹)*R.sqrt (val h z (z.getD h [])):=by
  rw[hr,mul_assoc (val h t _),←mul_assoc (q _),mul_comm (q ((d h:Rat)⁻¹)),hd,one_mul];rfl
 rw[e]at hx;obtain⟨k1,k2,k3⟩:=Ht.split E.zt ((E'.lk.gj E'.rd.rl _).1 hu) ((E'.lk.gj E'.rd.rl _).1 hv) hx;have SW:Ht h z w (q (d h:Rat)) cW:=by
  refine Ht.rat ?_ ?_
  ·rw[Rat.num_natCast,Int.natAbs_natCast];exact E.db h (by omega)
  rw[Rat.den_natCast];exact Nat.one_le_two_pow
 have k4:=k2.mul E'.zt SW;rw[mul_assoc,mul_comm (q _),hd,mul_one]at k4;refine⟨k1,k4,?_⟩;rw[fk E.rd.rl ha,E.rd.rl.root];have e3:val h t (a.drop (2^h))*q ((d h:Rat)⁻¹)*(val h t (a.drop (2^h))*q ((d h:Rat)⁻¹))*val h z (z.getD h [])=val h t (a.drop (2^h))*val h t (a.drop (2^h))*val h t (t.getD h []):=by
  rw[jW,E.lk.v h (by omega),dr,mul_assoc (_*_) (_*_),←mul_assoc (q _*q _) (q _*q _),jW (q _) (q _),mul_comm (q (d h:Rat)⁻¹),hd,one_mul,one_mul]
 rw[e3]at k3;exact k3
theorem cJ.of {h:Nat}:∀(_:Ev h t z w d) {a b:El} {H K s:Nat},a.length=2^h→b.length=2^h→Ht h z w (val h t a) H→Ht h z w (val h t b) K→H+K≤s→cJ (bM h s) h t a b:=by
 induction h with
 |zero=>
  intro E a b H K s ha hb hx hy hs;refine⟨(E.qb ha hx).mono (sR (by omega)),(E.qb hb hy).mono (sR (by omega)),(E.qb aa (H:=H+K) ?_).mono (sR (by omega))⟩;rw[val_mul E.rd.rl ha hb];exact hx.mul E.zt hy
 |succ h ih=>
  intro E a b H K s ha hb hx hy hs;have E':=E.le (Nat.le_succ h);have L':=E'.rd.rl;obtain⟨a1,a2,_⟩:=E.parts ha hx;obtain⟨b1,b2,_⟩:=E.parts hb hy;have r:=E.rb h (by omega);have hr:=(E.rd.rl h (by omega)).1;have p22:=a2.mul E'.zt b2;rw[←val_mul L' (ag ha) (ag hb)]at p22;have ih:=fun{a b:El} {H K:Nat} ha hb hx hy hs=>(ih E' (a:=a) (b:=b) (H:=H) (K:=K) (s:=2*s+3*cW) ha hb hx hy hs).mono LO;refine⟨(E.qb ha hx).mono (sR (by omega)),(E.qb hb hy).mono (sR (by omega)),(E.qb aa (H:=H+K) ?_).mono (sR (by omega)),ih (ah ha) (ah hb) a1 b1 (by omega),ih (ag ha) (ag hb) a2 b2 (by omega),
   ih aa hr p22 r (by omega),ih (ah ha) (ag hb) a1 b2 (by omega),ih (ag ha) (ah hb) a2 b1 (by omega)⟩
  rw[val_mul E.rd.rl ha hb];exact hx.mul E.zt hy
def xA (X h:Nat)(t:List El)(a:El):Prop:=cJ X h t (a.take (2^h)) (a.take (2^h))∧cJ X h t (a.drop (2^h)) (a.drop (2^h))∧cJ X h t (ai h t (a.drop (2^h)) (a.drop (2^h))) (t.getD h [])
theorem xA.mono {X Y h:Nat}(SQ:X≤Y){t:List El}{a:El}(H:xA X h t a):xA Y h t a:=⟨H.1.mono SQ,H.2.1.mono SQ,H.2.2.mono SQ⟩
def sX (h H:Nat):Nat:=2^h*(2*H+6*cW)/32+1
theorem yj {h H K:Nat}(e:H≤K):sX h H≤sX h K:=by
 unfold sX
 have:=Nat.mul_le_mul_left (2^h) (show 2*H+6*cW≤2*K+6*cW by omega)
 omega
theorem se {h H K:Nat}(e:K≤2*H+3*cW):sX h K≤sX (h+1) H:=by
 unfold sX;rw[Nat.pow_succ,Nat.mul_assoc]
 have:=Nat.mul_le_mul_left (2^h) (show 2*K+6*cW≤2*(2*H+6*cW) by omega)
 omega
theorem oX {h H:Nat}:bW h H≤sX h H:=by
 unfold bW sX
 have:=Nat.mul_le_mul_left (2^h) (show H+cW≤2*H+6*cW by omega)
 omega
theorem vI {h s H:Nat}(e:s≤4*H+9*cW):bM h s≤sX (h+1) H:=by
 unfold bM sX;rw[Nat.pow_succ,Nat.mul_assoc]
 have:=Nat.mul_le_mul_left (2^h) (show s+3*cW≤2*(2*H+6*cW) by omega)
 omega
theorem xA.of {h:Nat}(E:Ev (h+1) t z w d){a:El}{H:Nat}(ha:a.length=2^(h+1))(hx:Ht (h+1) z w (val (h+1) t a) H):xA (sX (h+1) H) h t a:=by
 have E':=E.le (Nat.le_succ h);obtain⟨h1,h2,_⟩:=E.parts ha hx;have p:=h2.mul E'.zt h2;rw[←val_mul E'.rd.rl (ag ha) (ag ha)]at p;exact⟨(cJ.of E' (ah ha) (ah ha) h1 h1 (Nat.le_refl _)).mono (vI (by omega)),(cJ.of E' (ag ha) (ag ha) h2 h2 (Nat.le_refl _)).mono (vI (by omega)),
  (cJ.of E' aa (E.rd.rl h (by omega)).1 p (E.rb h (by omega)) (Nat.le_refl _)).mono (vI (by omega))⟩
def g9 (X:Nat):Nat→List El→El→Prop
 |0,_,a=>QB X a
 |h+1,t,a=>QB X a∧xA X h t a∧g9 X h t (a.take (2^h))∧g9 X h t (a.drop (2^h))∧g9 X h t (aO h t a)
theorem g9.mono {X Y:Nat}(SQ:X≤Y){h:Nat}:∀{t:List El} {a:El},g9 X h t a→g9 Y h t a:=by
 induction h with
 |zero=>intro t a H;exact QB.mono H SQ
 |succ h ih=>intro t a H;exact⟨H.1.mono SQ,H.2.1.mono SQ,ih H.2.2.1,ih H.2.2.2.1,ih H.2.2.2.2⟩
theorem g9.qb {X h:Nat}{t:List El}{a:El}(H:g9 X h t a):QB X a:=by
 cases h with
 |zero=>exact H
 |succ h=>exact H.1
theorem g9.of {h:Nat}:∀(_:Ev h t z w d) {a:El} {H:Nat},a.length=2^h→Ht h z w (val h t a) H→g9 (sX h H) h t a:=by
 induction h with
 |zero=>intro E a H ha hx;exact(E.qb ha hx).mono oX
 |succ h ih=>
  intro E a H ha hx;obtain⟨h1,h2,h3⟩:=E.parts ha hx;have ih:=fun{a:El} {K:Nat} hl hx (hK:K≤2*H+3*cW)=>(ih (E.le (Nat.le_succ h)) (a:=a) (H:=K) hl hx).mono (se hK);exact⟨(E.qb ha hx).mono oX,xA.of E ha hx,ih (ah ha) h1 (by omega),ih (ag ha) h2 (by omega),ih aJ h3 (by omega)⟩
def lL (X:Nat):Nat→List El→El→Prop
 |0,_,a=>QB X a
 |h+1,t,a=>QB X a∧xA X h t a∧lL X h t (a.take (2^h))∧lL X h t (aO h t a)∧(∀n,cA h t (a.take (2^h))=some n→QB X n)∧
  ∀n,cA h t (aO h t a)=some n→cJ X h t (a.take (2^h)) n∧cJ X h t (a.drop (2^h)) n
theorem lL.mono {X Y:Nat}(SQ:X≤Y){h:Nat}:∀{t:List El} {a:El},lL X h t a→lL Y h t a:=by
 induction h with
 |zero=>intro t a H;exact QB.mono H SQ
 |succ h ih=>intro t a ⟨h1,h2,h3,h4,h5,h6⟩;exact⟨h1.mono SQ,h2.mono SQ,ih h3,ih h4,fun n hn=>(h5 n hn).mono SQ,fun n hn=>⟨(h6 n hn).1.mono SQ,(h6 n hn).2.mono SQ⟩⟩
theorem lL.qb {X h:Nat}{t:List El}{a:El}(H:lL X h t a):QB X a:=by
 cases h with
 |zero=>exact H
 |succ h=>exact H.1
theorem Ev.Pf {h:Nat}(E:Ev h t z w d){a n:El}{H:Nat}(ha:a.length=2^h)(hx:Ht h z w (val h t a) H)(hn:cA h t a=some n):QB (bW h H) n:=by
 obtain⟨hl,hv⟩:=dh E.rd.rl ha hn;exact E.qb hl (hx.inv hv)
theorem Ev.inv {h:Nat}(E:Ev h t z w d){a n:El}{H:Nat}(ha:a.length=2^h)(hx:Ht h z w (val h t a) H)(hn:cA h t a=some n):n.length=2^h∧Ht h z w (val h t n) H:=by
 obtain⟨hl,hv⟩:=dh E.rd.rl ha hn;exact⟨hl,hx.inv hv⟩
theorem lL.of {h:Nat}:∀(_:Ev h t z w d) {a:El} {H:Nat},a.length=2^h→Ht h z w (val h t a) H→lL (sX h H) h t a:=by
 induction h with
 |zero=>intro E a H ha hx;exact(E.qb ha hx).mono oX
 |succ h ih=>
  intro E a H ha hx;obtain⟨h1,h2,h3⟩:=E.parts ha hx;have E':=E.le (Nat.le_succ h);have ih:=fun{a:El} {K:Nat} hl hx (hK:K≤2*H+3*cW)=>(ih E' (a:=a) (H:=K) hl hx).mono (se hK);refine⟨(E.qb ha hx).mono oX,xA.of E ha hx,ih (ah ha) h1 (by omega),ih aJ h3 (by omega),fun n hn=>(E'.Pf (ah ha) h1 hn).mono (Nat.le_trans oX (se (by omega))),fun n hn=>?_⟩;obtain⟨hl,hy⟩:=E'.inv aJ h3 hn;exact⟨(cJ.of E' (ah ha) hl h1 hy (Nat.le_refl _)).mono (vI (by omega)),(cJ.of E' (ag ha) hl h2 hy (Nat.le_refl _)).mono (vI (by omega))⟩
def pQ (h:Nat):El:=aU h ((2:Rat)⁻¹)
def j8 (X:Nat):Nat→List El→El→Prop
 |0,_,a=>QB X a
 |h+1,t,a=>g9 X (h+1) t a∧
  (a.drop (2^h)=zE (2^h)→j8 X h t (a.take (2^h))∧lL X h t (t.getD h [])∧∀i,cA h t (t.getD h [])=some i→cJ X h t (a.take (2^h)) i∧j8 X h t (ai h t (a.take (2^h)) i))∧
  (a.drop (2^h)≠zE (2^h)→j8 X h t (aO h t a)∧∀n,n.length=2^h→val h t n*val h t n=val h t (aO h t a)→
   QB X n∧cJ X h t (aE (a.take (2^h)) n) (pQ h)∧j8 X h t (ai h t (aE (a.take (2^h)) n) (pQ h))∧
   ∀p,p.length=2^h→val h t p*val h t p=val h t (ai h t (aE (a.take (2^h)) n) (pQ h))→
    QB X p∧lL X h t p∧lL X h t (aE p p)∧(∀i,cA h t p=some i→cJ X h t (a.drop (2^h)) i∧cJ X h t (ai h t (a.drop (2^h)) i) (pQ h))∧(∀i,cA h t (aE p p)=some i→cJ X h t (a.drop (2^h)) i))
theorem j8.mono {X Y:Nat}(SQ:X≤Y){h:Nat}:∀{t:List El} {a:El},j8 X h t a→j8 Y h t a:=by
 induction h with
 |zero=>intro t a H;exact QB.mono H SQ
 |succ h ih=>
  intro t a H;obtain⟨h1,h2,h3⟩:=H;refine⟨h1.mono SQ,fun e=>?_,fun e=>?_⟩
  ·obtain⟨g1,g2,g3⟩:=h2 e;exact⟨ih g1,g2.mono SQ,fun i hi=>⟨(g3 i hi).1.mono SQ,ih (g3 i hi).2⟩⟩
  obtain⟨g1,g2⟩:=h3 e;refine⟨ih g1,fun n hn he=>?_⟩;obtain⟨k1,k2,k3,k4⟩:=g2 n hn he;refine⟨k1.mono SQ,k2.mono SQ,ih k3,fun p hp Uo=>?_⟩;obtain⟨m1,m2,m3,m4,m5⟩:=k4 p hp Uo;exact⟨m1.mono SQ,m2.mono SQ,m3.mono SQ,fun i hi=>⟨(m4 i hi).1.mono SQ,(m4 i hi).2.mono SQ⟩,fun i hi=>(m5 i hi).mono SQ⟩
theorem j8.qb {X h:Nat}{t:List El}{a:El}(H:j8 X h t a):QB X a:=by
 cases h with
 |zero=>exact H
 |succ h=>exact H.1.qb
theorem Ht.half {h:Nat}{z:List El}{w:Nat→Nat}:Ht h z w (q ((2:Rat)⁻¹)) 1:=Ht.rat (by decide+kernel) (by decide+kernel)
theorem Ev.pL {h:Nat}(E:Ev (h+1) t z w d):Ht h z w (val h t (t.getD h [])) cW:=E.rb h (by omega)
theorem Ho {W h H:Nat}:H≤2*rS W h H:=by
 cases h with
 |zero=>unfold rS;omega
 |succ h=>rw[rS];omega
theorem j8.low {h:Nat}{X:Nat}{a:El}(h0:a.drop (2^h)=zE (2^h))(hs:g9 X (h+1) t a)
  (h1:j8 X h t (a.take (2^h))) (h2:lL X h t (t.getD h [])) (h3:∀i,cA h t (t.getD h [])=some i→cJ X h t (a.take (2^h)) i∧j8 X h t (ai h t (a.take (2^h)) i)):j8 X (h+1) t a:=
 ⟨hs,fun _=>⟨h1,h2,h3⟩,fun e=>absurd h0 e⟩
def rX (h H:Nat):Nat:=sX h (2*rS cW h H+8*cW+8)
theorem LS {h H K:Nat}(e:H≤K):rX h H≤rX h K:=yj (by have:=kL (W:=cW) (h:=h) e;omega)
theorem j8.of {h:Nat}:∀(_:Ev h t z w d) {a:El} {H:Nat},a.length=2^h→Ht h z w (val h t a) H→j8 (rX h H) h t a:=by
 induction h with
 |zero=>intro E a H ha hx;exact(E.qb ha hx).mono (Nat.le_trans oX (yj (by have:=Ho (W:=cW) (h:=0) (H:=H);omega)))
 |succ h ih=>
  intro E a H ha hx;have E':=E.le (Nat.le_succ h);have Z':=E'.zt;have L':=E'.rd.rl;obtain⟨h1,h2,h3⟩:=E.parts ha hx;have Wd:=Ho (W:=cW) (h:=h) (H:=2*H);have ZT:rS cW h (2*H)≤rS cW h (2*H+rS cW h (2*H)+2+2*cW):=kL (by omega);have Yg:rS cW h (2*H+cW)≤rS cW h (2*H+rS cW h (2*H)+2+2*cW):=kL (by omega);have hm3:rS cW h (2*H+rS cW h (2*H)+2)≤rS cW h (2*H+rS cW h (2*H)+2+2*cW):=kL (by omega);have hge2:=Ho (W:=cW) (h:=h) (H:=2*H+rS cW h (2*H)+2+2*cW);have hdef:rS cW (h+1) H=2*rS cW h (2*H+rS cW h (2*H)+2+2*cW)+2*H+cW+2:=by rw[rS]
  have key:∀{K:Nat},K≤2*(2*rS cW (h+1) H+8*cW+8)+3*cW→sX h K≤rX (h+1) H:=fun hK=>se hK;have kq:∀{K:Nat},K≤2*(2*rS cW (h+1) H+8*cW+8)+3*cW→bW h K≤rX (h+1) H:=fun hK=>Nat.le_trans oX (key hK);have km:∀{s:Nat},s≤4*(2*rS cW (h+1) H+8*cW+8)+9*cW→bM h s≤rX (h+1) H:=fun hs=>vI hs;have ih:=fun{a:El} {K:Nat} hl hx (hK:2*rS cW h K+8*cW+8≤2*(2*rS cW (h+1) H+8*cW+8)+3*cW)=>(ih E' (a:=a) (H:=K) hl hx).mono (key hK);refine⟨(g9.of E ha hx).mono (yj (by omega)),fun e=>?_,fun e=>?_⟩
  ·have hr:=E.pL;have Vz:=(E.rd.rl h (by omega)).1;refine⟨ih (ah ha) h1 (by omega),(lL.of E' Vz hr).mono (key (by omega)),fun i hi=>?_⟩;obtain⟨hl,VC⟩:=E'.inv Vz hr hi;have WJ:=h1.mul Z' VC;rw[←val_mul L' (ah ha) hl]at WJ;exact⟨(cJ.of E' (ah ha) hl h1 VC (Nat.le_refl _)).mono (km (by omega)),ih aa WJ (by omega)⟩
  refine⟨ih aJ h3 (by omega),fun n hn he=>?_⟩;have k1:=Ht.sqrt Z' E'.wb ((E'.lk.gj L' _).1 (.of hn)) he h3;have k2:=h1.add Z' k1;rw[←val_add (ah ha) hn]at k2;have Z7:(pQ h).length=2^h:=ay;have hh:Ht h z w (val h t (pQ h)) 1:=by rw[show val h t (pQ h)=q ((2:Rat)⁻¹)from bE];exact Ht.half
  have Z8:=aq (ah ha) hn;have m1:=cJ.of E' Z8 Z7 k2 hh (Nat.le_refl _);have k3:=k2.mul Z' hh;rw[←val_mul L' Z8 Z7]at k3;have k3:=k3.mono (K:=2*H+rS cW h (2*H)+2) (by omega);refine⟨(E'.qb hn k1).mono (kq (by omega)),m1.mono (km (by omega)),ih aa k3 (by omega),fun p hp Uo=>?_⟩;have k4:=Ht.sqrt Z' E'.wb ((E'.lk.gj L' _).1 (.of hp)) Uo k3;have k5:=Ht.two.mul Z' k4;rw[←D8,←val_add hp hp]at k5;refine⟨(E'.qb hp k4).mono (kq (by omega)),(lL.of E' hp k4).mono (key (by omega)),(lL.of E' (aq hp hp) k5).mono (key (by omega)),fun i hi=>?_,fun i hi=>?_⟩
  ·obtain⟨hl,k6⟩:=E'.inv hp k4 hi;have k7:=h2.mul Z' k6;rw[←val_mul L' (ag ha) hl]at k7;exact⟨(cJ.of E' (ag ha) hl h2 k6 (Nat.le_refl _)).mono (km (by omega)),(cJ.of E' aa Z7 k7 hh (Nat.le_refl _)).mono (km (by omega))⟩
  obtain⟨hl,k6⟩:=E'.inv (aq hp hp) k5 hi;exact(cJ.of E' (ag ha) hl h2 k6 (Nat.le_refl _)).mono (km (by omega))
end
end Go.Tw
namespace Go.Tw
open Go Go.R Go.Eng
def Ra (B:Nat)(a:R):Prop:=∃x:Rat,a=q x∧x.num.natAbs≤2^B∧x.den≤2^B
theorem Ra.ht {B h:Nat}{z:List El}{w:Nat→Nat}{a:R}(H:Ra B a):Ht h z w a B:=by
 obtain⟨x,rfl,h1,h2⟩:=H;exact Ht.rat h1 h2
theorem Ra.Rf {H:Nat}{z:List El}{w:Nat→Nat}{x:Rat}(h:Ht 0 z w (q x) H):Ra H (q x):=⟨x,rfl,h.zero⟩
theorem QS {t:List El}:Zt 0 t (fun _=>1):=⟨⟨fun i hi=>absurd hi (Nat.not_lt_zero _),fun i hi=>absurd hi (Nat.not_lt_zero _)⟩,fun i hi=>absurd hi (Nat.not_lt_zero _),fun i hi=>absurd hi (Nat.not_lt_zero _)⟩
theorem Ra.div {B C:Nat}{a b:R}(ha:Ra B a)(hb:Ra C b)(h0:b≠q 0):∃c,Ra (B+C) c∧c*b=a:=by
 obtain⟨x,rfl,h1,h2⟩:=ha;obtain⟨y,rfl,k1,k2⟩:=hb;have hy:y≠0:=fun e=>h0 (by rw[e]);refine⟨q (x*y⁻¹),Ra.Rf (z:=[]) (w:=fun _=>1) ?_,by rw[←dr,Rat.mul_assoc,Rat.inv_mul_cancel _ hy,Rat.mul_one]⟩;rw[dr];exact(Ht.rat h1 h2).mul QS ((Ht.rat k1 k2).inv (by rw[←dr,Rat.mul_inv_cancel _ hy]))
def Fl (h:Nat)(t:List El):Prop:=∀i,i<h→Ra 64 (val i t (t.getD i []))
theorem zZ {t:List El}:∀{h:Nat} (_:Rd h t) (_:Fl h t),∃(z:List El) (w d:Nat→Nat),Zt h z w∧Lk h t z d∧∀i,i<h→w i≤2^64∧d i≤2^64
 |0,_,_=>⟨[],fun _=>1,fun _=>1,QS,⟨fun i hi=>absurd hi (Nat.not_lt_zero _),fun i hi=>absurd hi (Nat.not_lt_zero _)⟩,fun i hi=>absurd hi (Nat.not_lt_zero _)⟩
 |h+1,D,F=>by
  obtain⟨z,w,d,Z,K,hb⟩:=zZ (D.le (Nat.le_succ h)) (fun i hi=>F i (by omega));obtain⟨x,e,h1,h2⟩:=F h (by omega);have hn:ab (x.num:Rat)≤p2 64:=by
   unfold ab p2
   have:((x.num.natAbs:Nat):Rat)≤((2^64:Nat):Rat):=Rat.natCast_le_natCast.2 h1
   refine Rat.le_trans ?_ this;rw[←Rat.intCast_natCast]
   split
   ·exact Rat.intCast_le_intCast.2 (by omega)
   rw[←Rat.intCast_neg];exact Rat.intCast_le_intCast.2 (by omega)
  obtain⟨z',w',d',S1,hZ,hL,hw,hd⟩:=L7 Z K D (H:=64) (M:=aU h (x.num:Rat)) (N:=x.den) ay (bu.rat ⟨_,rfl⟩) x.den_pos (by rw[e,bE,←dr,xV]) (by rw[kW];exact hn) h2;refine⟨z',w',d',hZ,hL,fun i hi=>?_⟩
  by_cases k:i=h
  ·rw[k];exact⟨hw,hd⟩
  obtain⟨_,k2,k3⟩:=S1 i (by omega);rw[k2,k3];exact hb i (by omega)
section
variable {t z:List El}{w d:Nat→Nat}
theorem L2 {h:Nat}(D:Rd h t)(F:Fl h t):∃(z:List El) (w d:Nat→Nat),Ev h t z w d∧∀i,i<h→w i≤2^64∧d i≤2^64:=by
 obtain⟨z,w,d,Z,K,hb⟩:=zZ D F;have hc:2^64≤2^cW:=Nat.pow_le_pow_right (by decide) (by decide);exact⟨z,w,d,⟨D,Z,K,fun i hi=>Nat.le_trans (hb i hi).1 hc,fun i hi=>Nat.le_trans (hb i hi).2 hc,fun i hi=>(F i hi).ht.mono (by decide)⟩,hb⟩
theorem qB:∀{h B:Nat} (_:Ev h t z w d) (_:Fl h t) (_:∀i,i<h→w i≤2^64∧d i≤2^64) {y x:R},In h t y→y*y=x→Ra B x→Ht h z w y (B+192*h)
 |0,B,E,_,_,y,x,hy,e,hx=>by
  obtain⟨r,rfl⟩:=zH hy;obtain⟨x,rfl,h1,h2⟩:=hx;have e:=jT (by rw[dr];exact e:q (r*r)=q x);obtain⟨e1,e2⟩:=Hp r;rw[←e,e1,Int.natAbs_mul]at h1;rw[←e,e2]at h2;have key:∀n:Nat,n*n≤2^B→n≤2^B:=fun n hn=>by
   rcases Nat.eq_zero_or_pos n with k|k
   ·omega
   exact Nat.le_trans (Nat.le_mul_of_pos_left n k) hn
  exact Ht.rat (key _ h1) (key _ h2)
 |h+1,B,E,F,hb,y,x,hy,e,hx=>by
  have E':=E.le (Nat.le_succ h);have L':=E'.rd.rl;have F':Fl h t:=fun i hi=>F i (by omega);have Sl:∀i,i<h→w i≤2^64∧d i≤2^64:=fun i hi=>hb i (by omega);obtain⟨p,g,hp,hg,rfl⟩:=hy.split;have hr:=E.rd.rl h (by omega);have VC:In h t (val h t (t.getD h [])):=.of hr.1;rw[yK,E.rd.rl.root]at e;have U4:x=x+q 0*R.sqrt (val h t (t.getD h [])):=by rw[zero_mul,add_zero]
  obtain⟨x',ex,_,_⟩:=id hx;obtain⟨e1,e2⟩:=jb E.rd ((In.mul L' hp hp).add (In.mul L' (In.mul L' hg hg) VC)) ((In.mul L' hp hg).add (In.mul L' hp hg)) (show In h t x by rw[ex];exact In.rat _) (In.rat 0) (e.trans U4)
  rcases gQ (Cv e2)with k|k
  ·rw[k,zero_mul,zero_add]at e1;obtain⟨c,hc,ec⟩:=hx.div (F h (by omega)) (iu hr.2);have eg:g*g=c:=by
    rw[←e1]at ec;exact(gB ec (iu hr.2)).symm
   have h1:=qB E' F' Sl hg eg hc;have hs:Ht (h+1) z w (R.sqrt (val h t (t.getD h []))) 128:=by
    have k1:=(Ht.root (h:=h) (z:=z) (w:=w) (hb h (by omega)).1);have k2:=E.lk.root E.rd.rl;have k3:=mL (E.lk.d0 h (by omega));have k4:=k1.mul E.zt (Ht.BR (E.lk.d0 h (by omega)) (hb h (by omega)).2);rw[k2,mul_comm,←mul_assoc,mul_comm (q ((d h:Rat)⁻¹)),k3,one_mul]at k4;exact k4
   rw[k,zero_add];exact(h1.up.mul E.zt hs).mono (by omega)
  rw[k,zero_mul,zero_mul,add_zero]at e1;rw[k,zero_mul,add_zero];exact(qB E' F' Sl hp e1 hx).up.mono (by omega)
def jC:Nat:=2^28
theorem xP {h H:Nat}(h6:h≤6)(hH:H≤1000):sX h H≤jC:=by
 unfold sX cW jC
 have:2^h≤2^6:=Nat.pow_le_pow_right (by decide) h6
 have:=Nat.mul_le_mul this (show 2*H+6*131072≤800000 by omega)
 omega
theorem Kg {h s:Nat}(h6:h≤6)(hs:s≤1000):bM h s≤jC:=by
 unfold bM cW jC
 have:2^h≤2^6:=Nat.pow_le_pow_right (by decide) h6
 have:=Nat.mul_le_mul this (show s+3*131072≤800000 by omega)
 omega
theorem po:∀{h B:Nat} (_:h≤6) (_:B+64*h≤512) (_:Ev h t z w d) (_:Fl h t) {e:El},e.length=2^h→Ra B (val h t e)→j8 jC h t e
 |0,B,_,hB,E,_,e,he,hx=>(E.qb he hx.ht).mono (Nat.le_trans oX (xP (by decide) (by omega)))
 |h+1,B,h6,hB,E,F,e,he,hx=>by
  have E':=E.le (Nat.le_succ h);have F':Fl h t:=fun i hi=>F i (by omega);have hr:=E.rd.rl h (by omega);obtain⟨x,ex,_,_⟩:=id hx;have ee:e=aU h x++zE (2^h):=by
   rw[←qA];exact val_inj E.rd he ay (by rw[ex,bE])
  have et:e.take (2^h)=aU h x:=by rw[ee,List.take_append_of_le_length (by rw[ay];exact Nat.le_refl _),List.take_of_length_le (by rw[ay];exact Nat.le_refl _)]
  have ed:e.drop (2^h)=zE (2^h):=by rw[ee,List.drop_append_of_le_length (by rw[ay];exact Nat.le_refl _),List.drop_of_length_le (by rw[ay];exact Nat.le_refl _),List.nil_append]
  have hxt:Ra B (val h t (aU h x)):=by rw[bE,←ex];exact hx
  have hF:=F h (by omega);refine j8.low ed ((g9.of E he hx.ht).mono (xP h6 (by omega))) ?_ ((lL.of E' hr.1 hF.ht).mono (xP (by omega) (by decide))) fun i hi=>?_
  ·rw[et];exact po (by omega) (by omega) E' F' ay hxt
  rw[et];obtain⟨hl,hv⟩:=dh E'.rd.rl hr.1 hi
  have VC:=hF.ht (h:=h) (z:=z) (w:=w)|>.inv hv
  refine⟨(cJ.of E' ay hl hxt.ht VC (Nat.le_refl _)).mono (Kg (by omega) (by omega)),?_⟩;obtain⟨c,hc,ec⟩:=hxt.div hF (iu hr.2);refine po (B:=B+64) (by omega) (by omega) E' F' aa ?_;rw[val_mul E'.rd.rl ay hl,←ec,mul_assoc,hv,mul_one];exact hc
end
end Go.Tw
namespace Go.Tw
open Go Go.R Go.Eng
section
variable {A:List R}
def j9 (A:List R):Prop:=A.length≤3∨(A.length≤6∧∀a,a∈A→Ra 64 a)
theorem TG.nN (hA:j9 A){t:List El}(T:TG A t):t.length≤6:=by
 have:=T.mn
 rcases hA with h|h<;>omega
theorem TG.flat {t:List El}(T:TG A t)(h:∀a,a∈A→Ra 64 a):Fl t.length t:=fun i hi=>h _ (T.mem i hi)
theorem G3:∀h,h≤6→64+192*h≤nU h:=by decide+kernel
theorem TG.ev (S:Src 64 A)(hA:j9 A){t:List El}(T:TG A t):∃(z:List El) (w d:Nat→Nat),Ev t.length t z w d∧(∀a,a∈A→In t.length t (R.sqrt a)→Ht t.length z w (R.sqrt a) (nU t.length))∧∀a,a∈A→In t.length t a→Ht t.length z w a cW:=by
 rcases hA with hA|⟨hA,hf⟩
 ·obtain⟨_,z,w,d,Z,L,TT,h1,h2⟩:=T.env S hA;exact⟨z,w,d,⟨T.rd,Z,L,fun i hi=>(TT i hi).1,fun i hi=>(TT i hi).2.1,fun i hi=>(TT i hi).2.2⟩,h1,h2⟩
 obtain⟨z,w,d,E,hb⟩:=L2 T.rd (T.flat hf);refine⟨z,w,d,E,fun a ha hi=>?_,fun a ha _=>(hf a ha).ht.mono (by decide)⟩;obtain⟨k,hk,e⟩:=List.mem_iff_getElem.1 ha;have hp:=S.pos k hk;rw[X7,X8 hk,Option.getD_some,e]at hp
 exact(qB E (T.flat hf) hb ((E.lk.gj E.rd.rl _).1 hi|>(E.lk.gj E.rd.rl _).2) (R.dk (br.2 (.inr hp))) (hf a ha)).mono (G3 _ (T.nN (.inr ⟨hA,hf⟩)))
theorem Ev.congr {h:Nat}{t' t z:List El}{w d:Nat→Nat}(e:∀i,i<h→t'.getD i []=t.getD i [])(E:Ev h t' z w d):Ev h t z w d:=by
 have ev:∀i,i≤h→∀a,val i t' a=val i t a:=fun i hi a=>val_congr (fun j hj=>e j (by omega)) a;exact⟨E.rd.congr e,E.zt,⟨E.lk.d0,fun i hi=>by rw[←e i hi,←ev i (by omega)];exact E.lk.v i hi⟩,E.wb,E.db,fun i hi=>by rw[←e i hi,←ev i (by omega)];exact E.rb i hi⟩
theorem Ht.down {h:Nat}{z:List El}{w:Nat→Nat}{x:R}:∀{k H:Nat},Zt (h+k) z w→In h z x→Ht (h+k) z w x H→Ht h z w x (2^k*H)
 |0,H,_,_,hx=>by rw[Nat.pow_zero,Nat.one_mul];exact hx
 |k+1,H,Z,hi,hx=>by
  have h1:=(Ht.split (h:=h+k) Z (v:=q 0) (hi.le (Nat.le_add_right _ _)) (In.rat 0) (by rw[zero_mul,add_zero];exact hx)).1;have h2:=Ht.down (k:=k) (Z.le (Nat.le_succ _)) hi h1
  rwa [←Nat.mul_assoc,←Nat.pow_succ]at h2
structure NF (A:List R) (F:Nat):Prop where
 le:F≤6
 ex:∃T,TG A T∧T.length=F
 mx:∀U,TG A U→U.length≤F
theorem NF.eq {F K:Nat}(h:NF A F)(k:NF A K):F=K:=by
 obtain⟨T,h1,h2⟩:=h.ex;obtain⟨U,k1,k2⟩:=k.ex
 have:=h.mx U k1
 have:=k.mx T h1
 omega
theorem TG.rj (S:Src 64 A)(hA:j9 A){t:List El}(T:TG A t):∃F,NF A F∧∃(z:List El) (w d:Nat→Nat),Ev t.length t z w d∧
  ∀{a:El} {x:R} {β μ:Nat},In t.length t x→Tw.val t.length t a=x→lK A x β μ→Ht t.length z w (Tw.val t.length t a) (2^(F-t.length)*(β+μ*nU F)):=by
 obtain⟨s,G,hr,hU⟩:=T.top S;obtain⟨z,w,d,E,h1,_⟩:=G.ev S hA;have hl:t.length≤(t++s).length:=by rw[X6];omega
 have E':=(E.le hl).congr (t:=t) fun i hi=>df hi;refine⟨(t++s).length,⟨G.nN hA,⟨_,G,rfl⟩,hU⟩,z,w,d,E',fun Se hv hs=>?_⟩;obtain⟨k,hk⟩:=Nat.exists_eq_add_of_le hl;have hx:=(hs (nU (t++s).length)).ht E.zt (fun y H ⟨⟨a,ha,e⟩,hc⟩=>by rw[e,hc];exact h1 a ha (hr a ha));rw[hv];have hz:=(E'.lk.gj E'.rd.rl _).1 Se;have hZ:=E.zt;rw[hk]at hZ hx⊢;rw[Nat.add_sub_cancel_left];exact Ht.down hZ hz hx
def qN (β μ:Nat):Nat:=4*β+2^21*μ+2^21
theorem Ld {β μ β' μ':Nat}(h1:β≤β')(h2:μ≤μ'):qN β μ≤qN β' μ':=by
 unfold qN;omega
theorem L8 {h F β μ:Nat}(h1:h≤F)(h2:F≤6):sX h (2^(F-h)*(β+μ*nU F))≤qN β μ:=by
 have e1:2^h*2^(F-h)=2^F:=by rw[←Nat.pow_add];congr 1;omega
 have e2:2^h*(6*cW)≤2^F*(6*cW):=Nat.mul_le_mul_right _ (Nat.pow_le_pow_right (by decide) h1);have e3:2^h*(2*(2^(F-h)*(β+μ*nU F))+6*cW)≤2^F*(2*(β+μ*nU F))+2^F*(6*cW):=by
  rw[Nat.mul_add,Nat.mul_left_comm,←Nat.mul_assoc (2^h),e1,Nat.mul_left_comm 2];omega
 unfold sX
 generalize 2^h*(2*(2^(F-h)*(β+μ*nU F))+6*cW)=N at e3
 clear e1 e2;unfold qN;unfold cW at e3
 match F,h2 with
 |0,_=>simp only[nU]at e3;omega
 |1,_=>simp only[nU]at e3;omega
 |2,_=>simp only[nU]at e3;omega
 |3,_=>simp only[nU]at e3;omega
 |4,_=>simp only[nU]at e3;omega
 |5,_=>simp only[nU]at e3;omega
 |6,_=>simp only[nU]at e3;omega
theorem Im {h s:Nat}:bM h s≤sX h s:=by
 unfold bM sX
 have:=Nat.mul_le_mul_left (2^h) (show s+3*cW≤2*s+6*cW by omega)
 omega
section
variable (S:Src 64 A)(hA:j9 A)
include S hA
theorem ax.ev {t:List El}{a:El}{x:R}{β μ:Nat}(h:ax A t a x β μ):∃(z:List El) (w d:Nat→Nat) (H:Nat),Ev t.length t z w d∧Ht t.length z w (Tw.val t.length t a) H∧sX t.length H≤qN β μ:=by
 obtain⟨F,I,z,w,d,E,hx⟩:=h.tg.rj S hA;exact⟨z,w,d,_,E,hx h.in h.val h.sz,L8 (I.mx _ h.tg) I.le⟩
theorem ax.qb {t:List El}{a:El}{x:R}{β μ:Nat}(h:ax A t a x β μ):QB (qN β μ) a:=by
 obtain⟨z,w,d,H,E,hx,hb⟩:=h.ev S hA;exact(E.qb h.len hx).mono (Nat.le_trans oX hb)
theorem ax.Pw {t:List El}{a:El}{x:R}{β μ:Nat}(h:ax A t a x β μ):g9 (qN β μ) t.length t a:=by
 obtain⟨z,w,d,H,E,hx,hb⟩:=h.ev S hA;exact(g9.of E h.len hx).mono hb
theorem ax.QO {t:List El}{a:El}{x:R}{β μ:Nat}(h:ax A t a x β μ):lL (qN β μ) t.length t a:=by
 obtain⟨z,w,d,H,E,hx,hb⟩:=h.ev S hA;exact(lL.of E h.len hx).mono hb
theorem ax.QY {t:List El}{a b:El}{x y:R}{β μ β' μ':Nat}(h:ax A t a x β μ)(k:ax A t b y β' μ'):cJ (qN (β+β') (μ+μ')) t.length t a b:=by
 obtain⟨F,I,z,w,d,E,hx⟩:=h.tg.rj S hA
 refine(cJ.of E h.len k.len (hx h.in h.val h.sz) (hx k.in k.val k.sz) (s:=2^(F-t.length)*((β+β')+(μ+μ')*nU F)) ?_).mono (Nat.le_trans Im (L8 (I.mx _ h.tg) I.le))
 rw[←Nat.mul_add,Nat.add_mul];exact Nat.mul_le_mul_left _ (by omega)
end
def tB:Nat:=2^18
theorem Ev.basis {h:Nat}{t z:List El}{w d:Nat→Nat}(E:Ev h t z w d){j:Nat}(hj:j<h):Ht h z w (R.sqrt (val j t (t.getD j []))) (2*cW):=by
 have h1:=(Ht.root (h:=j) (z:=z) (w:=w) (E.wb j hj)).le (show j+1≤h by omega);have hr:=(E.lk.le (show j+1≤h by omega)).root (E.rd.rl.le (by omega));have hd:=mL (E.lk.d0 j hj);have h4:=h1.mul E.zt (Ht.BR (E.lk.d0 j hj) (E.db j hj));rw[hr,mul_comm,←mul_assoc,mul_comm (q ((d j:Rat)⁻¹)),hd,one_mul]at h4;exact h4.mono (by omega)
theorem Ev.short {h:Nat}{t z:List El}{w d:Nat→Nat}(E:Ev h t z w d){a:El}{B:Nat}(ha:a.length=2^h)(hb:gW B a):Ht h z w (val h t a) (fE B (2*cW) h):=
 Ht.expr E.zt ha hb fun _ hj=>E.basis hj
theorem xF:∀h,h≤2→rX h (2*cW)≤jC∧rX h (fE 64 (2*cW) h)≤jC:=by
 intro h hh
 match h,hh with
 |0,_=>decide+kernel
 |1,_=>decide+kernel
 |2,_=>decide+kernel
theorem wZ:sX 3 cW≤jC∧sX 2 cW≤jC∧bM 2 (2*cW)≤jC:=by decide+kernel
theorem Gd {i:Nat}(h:i≤2):rX i cW≤jC:=Nat.le_trans (LS (by omega)) (xF i h).1
theorem TG.qb (S:Src 64 A)(hA:j9 A){t:List El}(T:TG A t){i:Nat}(hi:i<t.length):QB tB (t.getD i []):=by
 obtain⟨z,w,d,E,_,_⟩:=T.ev S hA;have h6:=T.nN hA;have Ei:=E.le (Nat.le_of_lt hi)
 rcases hA with hA|⟨_,hf⟩
 ·refine(Ei.qb (E.rd.rl i hi).1 (E.rb i hi)).mono ?_
  have:=T.mn
  have:2^i≤2^2:=Nat.pow_le_pow_right (by decide) (by omega)
  have:=Nat.mul_le_mul_right (cW+cW) this
  unfold bW tB cW at*
  omega
 refine(Ei.qb (E.rd.rl i hi).1 (T.flat hf i hi).ht).mono ?_
 have:2^i≤2^5:=Nat.pow_le_pow_right (by decide) (by omega)
 have:=Nat.mul_le_mul_right (64+cW) this
 unfold bW tB cW at*
 omega
theorem TG.full {t:List El}(T:TG A t)(hA:A.length≤3)(h3:t.length=3){a:R}(ha:a∈A):∃j,j<3∧val j t (t.getD j [])=a:=by
 obtain⟨σ,hσ,hi⟩:=T.IF;obtain⟨k,hk,rfl⟩:=List.mem_iff_getElem.1 ha;have ek:A.getD k (q 0)=A[k]:=by rw[X7,X8 hk];rfl
 have s0:=hσ 0 (by omega);have s1:=hσ 1 (by omega);have s2:=hσ 2 (by omega);have b01:=hi 0 1 (by omega) (by omega);have b02:=hi 0 2 (by omega) (by omega);have b12:=hi 1 2 (by omega) (by omega)
 have:σ 0=k∨σ 1=k∨σ 2=k:=by omega
 rcases this with e|e|e
 ·exact⟨0,by omega,by rw[s0.2,e,ek]⟩
 ·exact⟨1,by omega,by rw[s1.2,e,ek]⟩
 exact⟨2,by omega,by rw[s2.2,e,ek]⟩
theorem TG.Rp (S:Src 64 A)(hA:j9 A){t:List El}(T:TG A t){e:El}(he:e.length=2^t.length)(hv:val t.length t e∈A):j8 jC t.length t e:=by
 obtain⟨z,w,d,E,_,h2⟩:=T.ev S hA;have hx:=h2 _ hv (.of he);have h6:=T.nN hA
 rcases hA with hA|⟨_,hf⟩
 rotate_left
 ·exact po (B:=64) h6 (by omega) E (T.flat hf) he (hf _ hv)
 have h3:=Nat.le_trans T.mn hA
 by_cases Yh:t.length≤2
 ·exact(j8.of E he hx).mono (Gd Yh)
 have h3:t.length=3:=by omega
 obtain⟨j,hj,ej⟩:=T.full hA h3 hv;rw[h3]at E he hx ej⊢;have E2:=E.le (show 2≤3 by omega);have Se:In 2 t (val 3 t e):=by
  rw[←ej];exact(In.of (E.rd.rl j hj).1).le (by omega)
 obtain⟨p,hp,ep⟩:=Se;have e1:val 3 t (p++zE (2^2))=val 3 t e:=by rw[kS (h:=2) hp,ep]
 have e2:e=p++zE (2^2):=(val_inj E.rd (by rw[X6,hp,au]) he e1).symm;have et:e.take (2^2)=p:=by rw[e2,List.take_append_of_le_length (by omega),List.take_of_length_le (by omega)]
 have ed:e.drop (2^2)=zE (2^2):=by rw[e2,List.drop_append_of_le_length (by omega),List.drop_of_length_le (by omega),List.nil_append]
 have hpx:Ht 2 z w (val 2 t p) cW:=by
  rw[ep,←ej];exact(E.rb j hj).le (by omega)
 have hr:Ht 2 z w (val 2 t (t.getD 2 [])) cW:=E.pL;have Vz:=(E.rd.rl 2 (by omega)).1;refine j8.low ed ((g9.of E he hx).mono wZ.1) ?_ ((lL.of E2 Vz hr).mono wZ.2.1) fun i hi=>?_
 ·rw[et];exact(j8.of E2 hp hpx).mono (Gd (by omega))
 obtain⟨hl,Xj⟩:=dh E2.rd.rl Vz hi;rw[et];refine⟨(cJ.of E2 hp hl hpx (hr.inv Xj) (s:=2*cW) (by omega)).mono wZ.2.2,?_⟩;have WJ:Ht 2 z w (val 2 t (ai 2 t p i)) (2*cW):=by
  rw[val_mul E2.rd.rl hp hl];exact(hpx.mul E2.zt (hr.inv Xj)).mono (by omega)
 exact(j8.of E2 aa WJ).mono (xF 2 (by omega)).1
theorem TG.QJ (S:Src 64 A)(hA:j9 A){t:List El}(T:TG A t)(h2:t.length≤2){e:El}(he:e.length=2^t.length)(hb:gW 64 e):j8 jC t.length t e:=by
 obtain⟨z,w,d,E,_,_⟩:=T.ev S hA;exact(j8.of E he (E.short he hb)).mono (xF _ h2).2
theorem TG.Pw (S:Src 64 A)(hA:j9 A){t:List El}(T:TG A t){i:Nat}(hi:i<t.length):j8 jC i t (t.getD i []):=by
 obtain⟨z,w,d,E,_,_⟩:=T.ev S hA;have h6:=T.nN hA;have Ei:=E.le (Nat.le_of_lt hi)
 rcases hA with hA|⟨_,hf⟩
 ·have:=T.mn
  exact(j8.of Ei (E.rd.rl i hi).1 (E.rb i hi)).mono (Gd (by omega))
 exact po (B:=64) (by omega) (by omega) Ei (fun j hj=>T.flat hf j (by omega)) (E.rd.rl i hi).1 (T.flat hf i hi)
end
end Go.Tw
