/-
  CurveMiddle: for every input the law returns true, and each argument reads afterwards as it read before. No condition.
  (Text 6 of 11; made by a program out of smaller texts.)
-/
import Derived.WalkKit
import Derived.Test.YtaihcpdpmijifaaGreatP5
set_option linter.unusedSimpArgs false
set_option linter.unusedVariables false
set_option maxHeartbeats 16000000
set_option maxRecDepth 10000
open Nat renaming reduceAdd→J1,reduceMul→J2,reduceSub→J3,reduceEqDiff→J4,reduceLT→J5,reduceLeDiff→J6,reduceBEq→J7,reduceDiv→J8,reduceMod→J9,reducePow→J0
open Int renaming reduceToNat→K1,reduceLE→K2,reduceLT→K3,reduceEq→K4,reducePow→K5,reduceSub→K6,reduceNeg→K7,natCast_add→X2,natCast_one→X3,natCast_zero→X4
open List renaming getD_cons_zero→X0,getD_cons_succ→X1,length_take→X5,length_append→X6,getD_eq_getElem?_getD→X7,getElem?_eq_getElem→X8
open Nat renaming le_trans→O0,le_refl→O1,zero_le→O2,pow_succ→O4,not_lt_zero→O5
open Go.IntWalk renaming i64_in→Q4
set_option maxHeartbeats 2000000
namespace Go.Proofs.YtaihcpdpmijifaaGreat
open Go Go.Eng
open Go.Tw (El addE negE zE mulE zE_len negE_len addE_len mulE_len QB MlB len_take len_drop)
theorem tZero_spec (a:El)(hl:a.length<2^38)(hq:Qk a):Pr Tryz.prog 322 [eV a] (.one (.bool (decide (a=zE a.length)))):=by
 have hc:=conQ_spec 367 (fun q=>decide (q≠0)) a hl (fun i hi=>zero1_spec _ (Nat.lt_trans (hq.get i) (by decide)));refine pw Tryz.func322 ⟨[0,2],[]⟩ ?_;simp only[Tryz.f322,Tryz.ntmps322,iz,seval];simp only[vx,T,seval,eV,QsC];refine Cg hc ?_;simp only[vx,T,seval];refine vb ?_;rw[Bool.eq_iff_iff,Bool.not_eq_true',List.any_eq_false,decide_eq_true_eq]
 constructor
 ·intro h;refine List.eq_replicate_iff.2 ⟨rfl,fun b hb=>?_⟩
  have:=h b hb
  simpa using this
 intro h b hb;rw[h]at hb
 have:=List.eq_of_mem_replicate hb
 simp[this]
theorem tFormed_spec {h:Nat}{t:List El}(tk:Tk h t)(a:El)(ha:a.length=2^h)(hq:Qk a):Pr Tryz.prog 244 [tV h t,eV a] (.one (.bool true)):=by
 have hs:=shl_pow tk.le8;have hn:=numbers_spec a (2^h) ha (pow_small tk.le8) hq;have hr:=radicands_spec tk;refine pw Tryz.func244 ⟨[0,1,4],[]⟩ ?_;simp only[Tryz.f244,Tryz.ntmps244,iz,seval];simp only[vx,T,seval,tV,tC,eV,QsC];refine Cg hr ?_;simp only[vx,T,seval,hs];refine⟨Int.natCast_nonneg _,Cg hn ?_⟩;simp only[vx,T,seval];exact Ve rfl
theorem tformed_spec {h:Nat}{t:List El}(tk:Tk h t)(a b:El)(ha:a.length=2^h)(hb:b.length=2^h)(hq:Qk a)(hqb:Qk b):Pr Tryz.prog 234 [tV h t,eV a,eV b] (.one (.bool true)):=by
 have hs:=shl_pow tk.le8;have hn:=numbers_spec b (2^h) hb (pow_small tk.le8) hqb;have hr:=tFormed_spec tk a ha hq;refine pw Tryz.func234 ⟨[0,1,2,6],[]⟩ ?_;simp only[Tryz.f234,Tryz.ntmps234,iz,seval];simp only[vx,T,seval,tV,tC,eV,QsC];refine Cg hr ?_;simp only[vx,T,seval,hs];refine⟨Int.natCast_nonneg _,Cg hn ?_⟩;simp only[vx,T,seval];exact Ve rfl
theorem tsplit_spec {h:Nat}{t:List El}(hh:h<2^38):Pr Tryz.prog 324 [tV (h+1) t] (.tup [tV h t,eV (t.getD h [])]):=by
 have w1:IntKind.i64.wrap (((h+1:Nat):Int)-1)=(h:Int):=by rw[Q4 _ (by omega)];omega
 refine pw Tryz.func324 ⟨[0,2,3],[(1,.nil)]⟩ ?_;simp only[Tryz.f324,Tryz.ntmps324,iz,seval];simp only[vx,T,seval,tV,tC,QsC,w1];exact⟨by omega,by omega,Ve rfl⟩
theorem fQ_take {a:El}{n i:Nat}(h:i<n)(j:Nat):fQ a i j=fQ (a.take n) i j:=by
 unfold fQ;rw[X7,X7,List.getElem?_take_of_lt h]
theorem fQ_drop {a:El}{n:Nat}(i j:Nat):fQ a (n+i) j=fQ (a.drop n) i j:=by
 unfold fQ;rw[X7,X7,List.getElem?_drop]
theorem thalves_spec {h:Nat}(hh:h<38){a:El}(ha:a.length=2^(h+1)):Pr Tryz.prog 325 [eV a] (.tup [eV (a.take (2^h)),eV (a.drop (2^h))]):=by
 have hp:2^h<2^38:=Nat.pow_lt_pow_right (by decide) hh;obtain⟨n,hn⟩:∃n,n=2^h:=⟨_,rfl⟩;have ha2:a.length=2*n:=by rw[ha,O4,hn];omega
 rw[←hn]at hp⊢;have w1:IntKind.i64.wrap (((a.length:Nat):Int).tdiv 2)=(n:Int):=by
  rw[ha2,Int.tdiv_eq_ediv_of_nonneg (by omega),Q4 _ (by omega)];omega
 refine pw Tryz.func325 ⟨[0,2,3],[(1,.nil)]⟩ ?_;simp only[Tryz.f325,Tryz.ntmps325,iz,seval];simp only[vx,T,seval,eV,QsC,w1];refine⟨by omega,by omega,Va ⟨⟨rfl,by rw[X5];omega,fun i j hi _=>fQ_take hi j⟩,⟨rfl,by rw[List.length_drop];omega,fun i j hi _=>fQ_drop i j⟩,trivial⟩⟩
end Go.Proofs.YtaihcpdpmijifaaGreat
set_option maxHeartbeats 2000000
namespace Go.Proofs.YtaihcpdpmijifaaGreat
open Go Go.Eng
open Go.Tw (El addE negE zE mulE zE_len negE_len addE_len mulE_len QB MlB len_take len_drop)
theorem fQ_app (a b:El)(i j:Nat):(if i<a.length then fQ a i j else fQ b (i-a.length) j)=fQ (a++b) i j:=by
 unfold fQ
 by_cases h:i<a.length
 ·rw[if_pos h,X7,X7,List.getElem?_append_left h]
 rw[if_neg h,X7,X7,List.getElem?_append_right (by omega)]
theorem tmul0_spec {a b:El}{t:List El}(ha:a.length=2^0)(hb:b.length=2^0)(qa:Qk a)(qb:Qk b):
  Fr Tryz.prog 242 [tV 0 t,eV a,eV b] (.rows 43 4 (mulE 0 t a b).length (fQ (mulE 0 t a b))):=by
 have hxq:=qa.get 0;have hyq:=qb.get 0;have em:mulE 0 t a b=[a.getD 0 default*b.getD 0 default]:=rfl;obtain⟨x,hx⟩:∃x,x=a.getD 0 default:=⟨_,rfl⟩;obtain⟨y,hy⟩:∃y,y=b.getD 0 default:=⟨_,rfl⟩;rw[←hx,←hy]at em;rw[←hx]at hxq;rw[←hy]at hyq;refine fw Tryz.func242 ⟨[0,1,2,6,7,8,9,10,11,12,13,14,26],[]⟩ ?_;simp only[Tryz.f242,Tryz.ntmps242,iz,seval];simp only[vx,T,seval,tV,tC,eV,QsC,←hx,←hy,qC];refine⟨by omega,by omega,Cg (iQMul_spec x y hxq hyq) ?_⟩;simp only[vx,T,seval,QV,QC];rw[em];refine⟨rfl,rfl,rfl,fun i j hi hj=>?_⟩;obtain rfl:i=0:=by omega
 show List.getD _ (0*4+j) _=_;rw[Nat.zero_mul,Nat.zero_add];exact fQ_cells (x*y) rfl j
theorem tmulZ_spec {a b:El}{h:Nat}{t:List El}(hh:h+1<38)(ha:a.length=2^(h+1))(hb:b.length=2^(h+1))(qa:Qk a)(qb:Qk b)(hz:a=zE (2^(h+1))∨b=zE (2^(h+1))):
  Fr Tryz.prog 242 [tV (h+1) t,eV a,eV b] (.rows 43 4 (mulE (h+1) t a b).length (fQ (mulE (h+1) t a b))):=by
 have hp:2^(h+1)<2^38:=Nat.pow_lt_pow_right (by decide) hh;have em:mulE (h+1) t a b=zE a.length:=by
  rw[ha]
  rcases hz with rfl|rfl
  ·exact Go.Tw.mul_zero_left
  exact Go.Tw.mul_zero_right
 rw[em];have ca:=tZero_spec a (by omega) qa;have cb:=tZero_spec b (by omega) qb;have cz:=zeros_spec a.length (by omega);obtain⟨za,hza⟩:∃za,za=decide (a=zE a.length):=⟨_,rfl⟩;rw[←hza]at ca;refine fw Tryz.func242 ⟨[0,1,2,6,7,8,9,10,11,12,13,14,26],[]⟩ ?_;simp only[Tryz.f242,Tryz.ntmps242,iz,seval];simp only[vx,T,seval,tV,tC,eV,QsC];refine⟨fun h=>absurd h (by omega),fun _=>Lg ?_⟩;simp only[vx,T,seval,tV,tC,eV,QsC];refine Cg ca ?_
 cases za with
 |true=>
  simp only[vx,T,seval];refine CallK.fresh cz ?_;simp only[vx,T,seval];exact⟨rfl,rfl,fun _ _ _ _=>rfl⟩
 |false=>
  have hzb:b=zE b.length:=by
   rcases hz with rfl|rfl
   ·exact absurd hza (by rw[zE_len,decide_eq_true rfl];decide)
   rw[zE_len]
  rw[decide_eq_true hzb]at cb;simp only[vx,T,seval];refine Cg cb ?_;simp only[vx,T,seval];refine CallK.fresh cz ?_;simp only[vx,T,seval];exact⟨rfl,rfl,fun _ _ _ _=>rfl⟩
theorem tmulS_spec {t:List El}{X:Nat}(hX:X<2^37){h:Nat}(ih:∀{a b:El},a.length=2^h→b.length=2^h→MlB X h t a b→
  Fr Tryz.prog 242 [tV h t,eV a,eV b] (.rows 43 4 (mulE h t a b).length (fQ (mulE h t a b)))) {a b:El} (tk:Tk (h+1) t) (ha:a.length=2^(h+1)) (hb:b.length=2^(h+1)) (hm:MlB X (h+1) t a b) (nza:a≠zE (2^(h+1))) (nzb:b≠zE (2^(h+1))):
  Fr Tryz.prog 242 [tV (h+1) t,eV a,eV b] (.rows 43 4 (mulE (h+1) t a b).length (fQ (mulE (h+1) t a b))):=by
 have hh:=tk.le8;have hp:2^(h+1)<2^38:=Nat.pow_lt_pow_right (by decide) (by omega);obtain⟨qa,qb,_,k1,k2,k5,k3,k4⟩:=hm;have qka:Qk a:=.of qa (by omega);have qkb:Qk b:=.of qb (by omega);have ca:=tZero_spec a (by omega) qka;have cb:=tZero_spec b (by omega) qkb;rw[ha,decide_eq_false nza]at ca;rw[hb,decide_eq_false nzb]at cb;have cs:=tsplit_spec (h:=h) (t:=t) (by omega);have cx:=thalves_spec (h:=h) (by omega) ha;have cy:=thalves_spec (h:=h) (by omega) hb;have la1:=len_take ha;have la2:=len_drop ha;have lb1:=len_take hb;have lb2:=len_drop hb;have m1:=ih la1 lb1 k1;have m2:=ih la2 lb2 k2;have m5:=ih mulE_len (tk.len h (by omega)) k5;have m3:=ih la1 lb2 k3;have m4:=ih la2 lb1 k4;have hph:2^h<2^38:=Nat.pow_lt_pow_right (by decide) (by omega);have a1:=tadd_spec _ _ (by rw[mulE_len];omega) (by rw[mulE_len,mulE_len]) (Qk.of k1.q.2.2 (by omega)) (Qk.of k5.q.2.2 (by omega));have a2:=tadd_spec _ _ (by rw[mulE_len];omega) (by rw[mulE_len,mulE_len]) (Qk.of k3.q.2.2 (by omega)) (Qk.of k4.q.2.2 (by omega));clear k1 k2 k3 k4 k5 ih;obtain⟨x,hx⟩:∃x,x=a.take (2^h):=⟨_,rfl⟩;obtain⟨y,hy⟩:∃y,y=a.drop (2^h):=⟨_,rfl⟩;obtain⟨u,hu⟩:∃u,u=b.take (2^h):=⟨_,rfl⟩;obtain⟨v,hv⟩:∃v,v=b.drop (2^h):=⟨_,rfl⟩;obtain⟨r,hr⟩:∃r,r=t.getD h []:=⟨_,rfl⟩;rw[←hr]at cs m5 a1;rw[←hx,←hy]at cx;rw[←hu,←hv]at cy;rw[←hx,←hu]at m1;rw[←hy,←hv]at m2 m5;rw[←hx,←hv]at m3;rw[←hy,←hu]at m4;rw[←hx,←hu,←hy,←hv]at a1;rw[←hx,←hv,←hy,←hu]at a2;have em:mulE (h+1) t a b=addE (mulE h t x u) (mulE h t (mulE h t y v) r)++addE (mulE h t x v) (mulE h t y u):=by rw[hx,hy,hu,hv,hr,Go.Tw.mulE]
 rw[em];obtain⟨p1,hp1⟩:∃p,p=mulE h t x u:=⟨_,rfl⟩;obtain⟨p2,hp2⟩:∃p,p=mulE h t y v:=⟨_,rfl⟩;rw[←hp2]at m2 m5 a1⊢;obtain⟨p5,hp5⟩:∃p,p=mulE h t p2 r:=⟨_,rfl⟩;obtain⟨p3,hp3⟩:∃p,p=mulE h t x v:=⟨_,rfl⟩;obtain⟨p4,hp4⟩:∃p,p=mulE h t y u:=⟨_,rfl⟩;rw[←hp1]at m1 a1⊢;rw[←hp5]at m5 a1⊢;rw[←hp3]at m3 a2⊢;rw[←hp4]at m4 a2⊢;obtain⟨s1,hs1⟩:∃p,p=addE p1 p5:=⟨_,rfl⟩;obtain⟨s2,hs2⟩:∃p,p=addE p3 p4:=⟨_,rfl⟩;have l1:s1.length=2^h:=by rw[hs1];exact addE_len (by rw[hp1,mulE_len]) (by rw[hp5,mulE_len])
 have l2:s2.length=2^h:=by rw[hs2];exact addE_len (by rw[hp3,mulE_len]) (by rw[hp4,mulE_len])
 rw[←hs1]at a1⊢;rw[←hs2]at a2⊢;refine fw Tryz.func242 ⟨[0,1,2,6,7,8,9,10,11,12,13,14,26],[]⟩ ?_;simp only[Tryz.f242,Tryz.ntmps242,iz,seval];simp only[vx,T,seval,tV,tC,eV,QsC];refine⟨fun h=>absurd h (by omega),fun _=>Lg ?_⟩;simp only[vx,T,seval,tV,tC,eV,QsC];refine Cg ca ?_;simp only[vx,T,seval];refine Cg cb ?_;simp only[vx,T,seval];refine Cg cs ?_;simp only[vx,T,seval,tV,tC,eV,QsC];refine Cg cx ?_;simp only[vx,T,seval,tV,tC,eV,QsC];refine Cg cy ?_;simp only[vx,T,seval,tV,tC,eV,QsC];refine Cg m1.rows ?_;simp only[vx,T,seval,tV,tC,eV,QsC];refine Cg m2.rows ?_;simp only[vx,T,seval,tV,tC,eV,QsC];refine Cg m5.rows ?_;simp only[vx,T,seval,tV,tC,eV,QsC];refine CallK.fresh a1 ?_;simp only[vx,T,seval,tV,tC,eV,QsC];refine Cg m3.rows ?_;simp only[vx,T,seval,tV,tC,eV,QsC];refine Cg m4.rows ?_;simp only[vx,T,seval,tV,tC,eV,QsC];refine Cg a2.rows ?_;simp only[vx,T,seval,tV,tC,eV,QsC];exact⟨⟨by omega,by omega⟩,List.length_append.symm,rfl,List.length_append.symm,fun i j _ _=>fQ_app s1 s2 i j⟩
theorem tmul_spec {t:List El}{X:Nat}(hX:X<2^37):∀{h:Nat} {a b:El},Tk h t→a.length=2^h→b.length=2^h→MlB X h t a b→
  Fr Tryz.prog 242 [tV h t,eV a,eV b] (.rows 43 4 (mulE h t a b).length (fQ (mulE h t a b))):=by
 intro h
 induction h with
 |zero=>
  intro a b _ ha hb hm;exact tmul0_spec ha hb (.of hm.1 (by omega)) (.of hm.2.1 (by omega))
 |succ h ih=>
  intro a b tk ha hb hm;have hh:=tk.le8
  by_cases za:a=zE (2^(h+1))
  ·exact tmulZ_spec (by omega) ha hb (.of hm.1 (by omega)) (.of hm.2.1 (by omega)) (.inl za)
  by_cases zb:b=zE (2^(h+1))
  ·exact tmulZ_spec (by omega) ha hb (.of hm.1 (by omega)) (.of hm.2.1 (by omega)) (.inr zb)
  exact tmulS_spec hX (fun{a b} g1 g2 g3=>ih (tk.le (Nat.le_succ h)) g1 g2 g3) tk ha hb hm za zb
end Go.Proofs.YtaihcpdpmijifaaGreat
set_option maxHeartbeats 2000000
namespace Go.Proofs.YtaihcpdpmijifaaGreat
open Go Go.Eng
open Go.Tw (El addE negE zE mulE zE_len negE_len addE_len mulE_len QB MlB len_take len_drop)
theorem VLe.cell {c c':C}(h:CLe c c'):VLe (.one c) (.one c'):=fun ok w v hr=>RepC.of_repI (h ok w v (RepI.of_loc0 hr))
theorem VLe.agg2 {a a' b b':C}(h1:CLe a a')(h2:CLe b b'):VLe (.agg [a,b]) (.agg [a',b']):=by
 intro ok w v hr;obtain⟨vs,e,hl⟩:=hr;refine⟨vs,e,?_⟩
 generalize vs.toList=l at hl⊢
 match l,hl with
 |[x,y],⟨k1,k2,_⟩=>exact⟨RepC.of_repI (h1 ok w x (RepI.of_loc0 k1)),RepC.of_repI (h2 ok w y (RepI.of_loc0 k2)),trivial⟩
theorem cmpI_z0 {a b:Int}:cmpI a b=0↔a=b:=by unfold cmpI;split;omega;split<;>omega
theorem sgn_ne {a b:Int}(h:¬sgn a=sgn b):cmpI (sgn a) (sgn b)=cmpI a b:=by
 unfold sgn cmpI at*;(repeat' split)<;>(repeat' split at h)<;>first|omega|rfl
theorem sgn_eq {a b:Int}(h:sgn a=sgn b):IntKind.i64.wrap (sgn a*cmpI (a.natAbs:Int) (b.natAbs:Int))=cmpI a b:=by
 have e:sgn a*cmpI (a.natAbs:Int) (b.natAbs:Int)=cmpI a b:=by
  rcases Int.lt_trichotomy a 0 with h0|h0|h0
  ·have e1:sgn a= -1:=by unfold sgn;rw[if_neg (by omega),if_pos h0]
   have e2:b<0:=by rw[e1]at h;unfold sgn at h;(repeat' split at h)<;>omega
   rw[e1];unfold cmpI;(repeat' split)<;>omega
  ·have e1:sgn a=0:=by unfold sgn;rw[if_pos h0]
   have e2:b=0:=by rw[e1]at h;unfold sgn at h;(repeat' split at h)<;>omega
   rw[e1];unfold cmpI;(repeat' split)<;>omega
  have e1:sgn a=1:=by unfold sgn;rw[if_neg (by omega),if_neg (by omega)]
  have e2:0<b:=by rw[e1]at h;unfold sgn at h;(repeat' split at h)<;>omega
  rw[e1];unfold cmpI;(repeat' split)<;>omega
 rw[e];refine Q4 _ ?_
 unfold cmpI;(repeat' split)<;>omega
theorem iCmp_spec (a b:Int)(ha:zn a<2^42)(hb:zn b<2^42):Pr Tryz.prog 328 [ZV a,ZV b] (.one (.int .i64 (cmpI a b))):=by
 have ca:=iSign_spec a ha;have cb:=iSign_spec b hb;have ta:=itrimZ a (by omega);have tb:=itrimZ b (by omega);refine pw Tryz.func328 ⟨[0,1,2,3,4,5,6,13],[]⟩ ?_;simp only[Tryz.f328,Tryz.ntmps328,iz,seval];simp only[vx,T,seval,ZV];refine Cg ca ?_;simp only[vx,T,seval,ZV];refine Cg cb ?_;simp only[vx,T,seval,ZV];refine⟨fun g=>Lg ?_,fun g=>Lg ?_⟩
 ·simp only[vx,T,seval,ZV];refine Cg (Compare_i64_spec _ _) ?_;simp only[vx,T,seval,ZV];exact Ve (by rw[sgn_ne g])
 simp only[vx,T,seval,ZV];refine Cg ta ?_;simp only[vx,T,seval,ZV];refine Cg tb ?_;simp only[vx,T,seval,ZV];refine Cg (icompare_spec a.natAbs b.natAbs (by unfold zn at ha;omega) (by unfold zn at hb;omega)) ?_;simp only[vx,T,seval,ZV];exact Ve (by rw[sgn_eq g])
theorem copyRat_spec (q:Rat)(hq:qm q<2^40):Pr Tryz.prog 89 [QV q] (QV q):=by
 have c1:=cloneU_spec (zm q.num) (by unfold qm at hq;rw[zm_length];omega);have c2:=cloneU_spec (zm (q.den:Int)) (by unfold qm at hq;rw[zm_length,zn_nat];omega);refine pw Tryz.func89 ⟨[0,1,2],[]⟩ ?_;simp only[Tryz.f89,Tryz.ntmps89,iz,seval];simp only[vx,T,seval,QV,QC];refine Cg c1 ?_;simp only[vx,T,seval];refine Cg c2 ?_;simp only[vx,T,seval];exact Ve rfl
theorem copyList_spec (a:El)(hl:a.length<2^38)(hq:Qk a):Fr Tryz.prog 243 [eV a] (.rows 43 4 a.length (fQ a)):=by
 refine fw Tryz.func243 ⟨[0,2,3,4,5,9,10,11,12],[]⟩ ?_;simp only[Tryz.f243,Tryz.ntmps243,iz,seval];simp only[vx,T,seval,eV,QsC];refine⟨by omega,Lk (fun y:{i:Nat//i≤a.length}=>⟨[(0,eV a),(3,.one (.own 1 4 0 a.length)),(9,eV a),(10,.one (.int .i64 a.length)),(11,.one (.int .i64 y.1))],[(1,⟨.rows 43 4 a.length (wQ a y.1),true⟩)],2,23⟩) (fun y=>a.length-y.1) ⟨0,O2 _⟩ ?_ (fun⟨i,hi⟩=>?_)⟩
 ·refine Sa ?_;simp only[ry,seval,rz,eV,QsC];exact fun i j _ _=>wQ_zero _ i j
 have i1:=wI i (by omega);simp only[vx,T,seval,eV,QsC];refine⟨fun h1=>Lg ?_,fun h1=>Lg ?_⟩
 ·have hil:i<a.length:=by omega
  have hxq:=hq.get i;obtain⟨x,hx⟩:∃x,x=a.getD i default:=⟨_,rfl⟩;rw[←hx]at hxq;simp only[vx,T,seval,eV,QsC,←hx,qC];refine⟨by omega,Cg (copyRat_spec x (by omega)) ?_⟩;simp only[vx,T,seval,QV,QC];simp only[i1];refine⟨by omega,Lq ⟨i+1,by omega⟩ ?_ ?_⟩
  ·refine Sa ?_;simp only[ry,seval,rz,eV,QsC];exact fun k j _ hj=>set_wQ _ hx.symm k j hj
  simp only;omega
 have hil:i=a.length:=by omega
 subst hil;simp only[vx,T,seval];exact ret_wQ rfl
theorem cloneQ_spec (a:El)(hl:a.length<2^38):Pr Tryz.prog 254 [eV a] (eV a):=by
 refine pw Tryz.func254 ⟨[0,2,4],[]⟩ ?_;simp only[Tryz.f254,Tryz.ntmps254,iz,seval];simp only[vx,T,seval,eV,QsC];intro b hb;refine Lg ?_;simp only[vx,T,seval];refine⟨fun g=>Lg ?_,fun g=>Lg ?_⟩
 ·simp only[vx,T,seval];have h0:a=[]:=by
   cases a with
   |nil=>rfl
   |cons x xs=>have:=hb (by simp);rw[this]at g;cases g
  subst h0;exact VLe.cell (.nil_rows _ _)
 simp only[vx,T,seval];exact⟨⟨by omega,by omega⟩,VLe.refl _⟩
end Go.Proofs.YtaihcpdpmijifaaGreat
set_option maxHeartbeats 2000000
namespace Go.Proofs.YtaihcpdpmijifaaGreat
open Go Go.Eng
open Go.Tw (El addE negE zE mulE zE_len negE_len addE_len mulE_len QB MlB len_take len_drop)
def cmpQ (a b:Rat):Int:=cmpI (a.num*b.den) (b.num*a.den)
theorem sgn_mul {a:Int}{n:Nat}(h:0<n):sgn (a*n)=sgn a:=by
 rcases Int.lt_trichotomy a 0 with h0|h0|h0
 ·have:a*n<0:=Int.mul_neg_of_neg_of_pos h0 (by omega)
  unfold sgn;rw[if_neg (by omega),if_pos this,if_neg (by omega),if_pos h0]
 ·subst h0;rw[Int.zero_mul]
 have:0<a*n:=Int.mul_pos h0 (by omega)
 unfold sgn;rw[if_neg (by omega),if_neg (by omega),if_neg (by omega),if_neg (by omega)]
theorem cmpQ_ne {a b:Rat}(h:¬sgn a.num=sgn b.num):cmpI (sgn a.num) (sgn b.num)=cmpQ a b:=by
 unfold cmpQ;rw[←sgn_mul (a:=a.num) b.den_pos,←sgn_mul (a:=b.num) a.den_pos];rw[←sgn_mul (a:=a.num) b.den_pos,←sgn_mul (a:=b.num) a.den_pos]at h;exact sgn_ne h
theorem iQCmp_spec (a b:Rat)(ha:qm a<2^38)(hb:qm b<2^38):Pr Tryz.prog 248 [QV a,QV b] (.one (.int .i64 (cmpQ a b))):=by
 have ca:=iQSign_spec a (by omega);have cb:=iQSign_spec b (by omega);have na:zn a.num<2^38∧nl a.den<2^38:=by unfold qm at ha;omega
 have nb:zn b.num<2^38∧nl b.den<2^38:=by unfold qm at hb;omega
 have ma:=iMul_spec a.num (b.den:Int) (by omega) (by rw[zn_nat];omega);have mb:=iMul_spec b.num (a.den:Int) (by omega) (by rw[zn_nat];omega);have e1:=zn_mul a.num (b.den:Int);have e2:=zn_mul b.num (a.den:Int);rw[zn_nat]at e1 e2;have cc:=iCmp_spec (a.num*b.den) (b.num*a.den) (by omega) (by omega);refine pw Tryz.func248 ⟨[0,1,2,3,4,5,6,13,16],[]⟩ ?_;simp only[Tryz.f248,Tryz.ntmps248,iz,seval];simp only[vx,T,seval,QV,QC];refine Cg ca ?_;simp only[vx,T,seval,QV,QC];refine Cg cb ?_;simp only[vx,T,seval,QV,QC];refine⟨fun g=>Lg ?_,fun g=>Lg ?_⟩
 ·simp only[vx,T,seval,QV,QC];refine⟨fun g2=>Lg ?_,fun g2=>Lg ?_⟩
  ·simp only[vx,T,seval,QV,QC];exact Ve (by rw[←cmpQ_ne g,cmpI_lt g2])
  simp only[vx,T,seval,QV,QC];exact Ve (by rw[←cmpQ_ne g,cmpI_gt (by omega)])
 simp only[vx,T,seval,QV,QC];refine Cg ma ?_;simp only[vx,T,seval,ZV];refine Cg mb ?_;simp only[vx,T,seval,ZV];refine Cg cc ?_;simp only[vx,T,seval,ZV];exact Ve rfl
end Go.Proofs.YtaihcpdpmijifaaGreat
namespace Go.Eng
open Go
end Go.Eng
namespace Go.Eng
open Go
end Go.Eng
namespace Go.Eng
open Go
theorem all_range {n:Nat}{f:Nat→Bool}:(List.range n).all f=true↔∀i,i<n→f i=true:=by
 simp[List.all_eq_true]
theorem all_range_f {n:Nat}{f:Nat→Bool}{i:Nat}(h:i<n)(hf:f i=false):(List.range n).all f=false:=by
 cases hr:(List.range n).all f with
 |false=>rfl
 |true=>have:=all_range.1 hr i h;rw[hf]at this;cases this
end Go.Eng
set_option maxHeartbeats 2000000
namespace Go.Proofs.YtaihcpdpmijifaaGreat
open Go Go.Eng
open Go.Tw (El addE negE zE mulE zE_len negE_len addE_len mulE_len QB MlB len_take len_drop)
def eqB (n m:Nat)(p:Nat→Bool):Bool:=decide (n=m)&&(List.range n).all p
theorem eqB_ne {n m:Nat}{p:Nat→Bool}(h:¬(n:Int)=m):eqB n m p=false:=by unfold eqB;rw[decide_eq_false (by omega),Bool.false_and]
theorem eqQ_spec (f:FuncId)(p:Nat→Bool)(xs ys:List Rat)(hl:xs.length<2^38)(hf:∀i,i<xs.length→Pr Tryz.prog f [QV (xs.getD i default),QV (ys.getD i default)] (.one (.bool (p i)))):
  Pr Tryz.prog 246 [eV xs,eV ys,.one (.fn f 0 (fun _=>.any))] (.one (.bool (eqB xs.length ys.length p))):=by
 refine pw Tryz.func246 ⟨[0,1,2,6,7,8,9,14,15,16,17,18,30],[]⟩ ?_;simp only[Tryz.f246,Tryz.ntmps246,iz,seval];simp only[vx,T,seval,eV,QsC];refine⟨fun g=>Lg ?_,fun g=>Lg ?_⟩
 ·simp only[vx,T,seval];exact vb (eqB_ne g).symm
 have hxy:xs.length=ys.length:=by omega
 simp only[vx,T,seval,eV,QsC];refine Lk (fun y:{i:Nat//i≤xs.length∧∀k,k<i→p k=true}=>⟨[(1,eV ys),(2,.one (.fn f 0 (fun _=>.any))),(15,eV xs),(16,.one (.int .i64 xs.length)),(17,.one (.int .i64 y.1))],[],1,32⟩) (fun y=>xs.length-y.1) ⟨0,O2 _,fun k h=>absurd h (O5 _)⟩ ?_ (fun⟨i,hi,hz⟩=>?_)
 ·refine Sa ?_;simp only[ry,seval,rz,eV,QsC]
 have i1:=wI i (by omega);simp only[vx,T,seval,eV,QsC];refine⟨fun h1=>Lg ?_,fun h1=>Lg ?_⟩
 ·have hfi:=hf i (by omega);obtain⟨a,ha⟩:∃a,a=xs.getD i default:=⟨_,rfl⟩;obtain⟨b,hb⟩:∃b,b=ys.getD i default:=⟨_,rfl⟩;rw[←ha,←hb]at hfi;simp only[vx,T,seval,eV,QsC,←ha,←hb,qC];refine⟨by omega,by omega,Cg hfi ?_⟩;simp only[vx,T,seval];refine⟨fun h2=>Lg ?_,fun h2=>Lg ?_⟩
  ·simp only[vx,T,seval];have h2:p i=false:=by simpa using h2
   exact vb (by unfold eqB;rw[all_range_f (by omega) h2,Bool.and_false])
  simp only[vx,T,seval];simp only[i1];refine Lq ⟨i+1,by omega,fun k hk=>?_⟩ ?_ ?_
  ·by_cases h3:k<i
   ·exact hz k h3
   rw[show k=i by omega];simpa using h2
  ·refine Sa ?_;simp only[ry,seval,rz,eV,QsC]
  simp only;omega
 simp only[vx,T,seval];exact vb (by unfold eqB;rw[decide_eq_true hxy,Bool.true_and];exact(all_range.2 fun k hk=>hz k (by omega)).symm)
theorem eqL_spec (f:FuncId)(p:Nat→Bool)(t u:List El)(n m:Nat)(hl:n<2^38)(hf:∀i,i<n→i<m→Pr Tryz.prog f [eV (t.getD i []),eV (u.getD i [])] (.one (.bool (p i)))):
  Pr Tryz.prog 245 [tV n t,tV m u,.one (.fn f 0 (fun _=>.any))] (.one (.bool (eqB n m p))):=by
 refine pw Tryz.func245 ⟨[0,1,2,6,7,8,9,14,15,16,17,18,30],[]⟩ ?_;simp only[Tryz.f245,Tryz.ntmps245,iz,seval];simp only[vx,T,seval,tV,tC,eV,QsC];refine⟨fun g=>Lg ?_,fun g=>Lg ?_⟩
 ·simp only[vx,T,seval];exact vb (eqB_ne g).symm
 have hxy:n=m:=by omega
 simp only[vx,T,seval,tV,tC,eV,QsC];refine Lk (fun y:{i:Nat//i≤n∧∀k,k<i→p k=true}=>⟨[(1,tV m u),(2,.one (.fn f 0 (fun _=>.any))),(15,tV n t),(16,.one (.int .i64 n)),(17,.one (.int .i64 y.1))],[],1,32⟩) (fun y=>n-y.1) ⟨0,O2 _,fun k h=>absurd h (O5 _)⟩ ?_ (fun⟨i,hi,hz⟩=>?_)
 ·refine Sa ?_;simp only[ry,seval,rz,tV,tC,eV,QsC]
 have i1:=wI i (by omega);simp only[vx,T,seval,tV,tC,eV,QsC];refine⟨fun h1=>Lg ?_,fun h1=>Lg ?_⟩
 ·have hfi:=hf i (by omega) (by omega);simp only[vx,T,seval,tV,tC,eV,QsC];refine⟨by omega,by omega,Cg hfi ?_⟩;simp only[vx,T,seval];refine⟨fun h2=>Lg ?_,fun h2=>Lg ?_⟩
  ·simp only[vx,T,seval];have h2:p i=false:=by simpa using h2
   exact vb (by unfold eqB;rw[all_range_f (by omega) h2,Bool.and_false])
  simp only[vx,T,seval];simp only[i1];refine Lq ⟨i+1,by omega,fun k hk=>?_⟩ ?_ ?_
  ·by_cases h3:k<i
   ·exact hz k h3
   rw[show k=i by omega];simpa using h2
  ·refine Sa ?_;simp only[ry,seval,rz,tV,tC,eV,QsC]
  simp only;omega
 simp only[vx,T,seval];exact vb (by unfold eqB;rw[decide_eq_true hxy,Bool.true_and];exact(all_range.2 fun k hk=>hz k (by omega)).symm)
end Go.Proofs.YtaihcpdpmijifaaGreat
set_option maxHeartbeats 2000000
namespace Go.Proofs.YtaihcpdpmijifaaGreat
open Go Go.Eng
open Go.Tw (El addE negE zE mulE zE_len negE_len addE_len mulE_len QB MlB len_take len_drop)
theorem tAdd_spec {h:Nat}{t:List El}(tk:Tk h t)(a b:El)(ha:a.length=2^h)(hb:b.length=2^h)(hq:Qk a)(hqb:Qk b):Pr Tryz.prog 170 [tV h t,eV a,eV b] (eV (addE a b)):=by
 have hp:=pow_small tk.le8;have c:=tformed_spec tk a b ha hb hq hqb;have d:=(tadd_spec a b (by omega) (by omega) hq hqb).rows;refine pw Tryz.func170 ⟨[0,1,2,6,11],[]⟩ ?_;simp only[Tryz.f170,Tryz.ntmps170,iz,seval];simp only[vx,T,seval,tV,tC,eV,QsC];refine Cg c ?_;simp only[vx,T,seval,tV,tC,eV,QsC];refine Cg d ?_;simp only[vx,T,seval,tV,tC,eV,QsC];exact Ve rfl
theorem tNeg_spec {h:Nat}{t:List El}(tk:Tk h t)(a:El)(ha:a.length=2^h)(hq:Qk a):Pr Tryz.prog 169 [tV h t,eV a] (eV (negE a)):=by
 have hp:=pow_small tk.le8;have c:=tFormed_spec tk a ha hq;have d:=(tneg_spec a (by omega) hq).rows;refine pw Tryz.func169 ⟨[0,1,4,8],[]⟩ ?_;simp only[Tryz.f169,Tryz.ntmps169,iz,seval];simp only[vx,T,seval,tV,tC,eV,QsC];refine Cg c ?_;simp only[vx,T,seval,tV,tC,eV,QsC];refine Cg d ?_;simp only[vx,T,seval,tV,tC,eV,QsC];exact Ve rfl
theorem tMul_spec {h X:Nat}{t:List El}(hX:X<2^37)(tk:Tk h t)(a b:El)(ha:a.length=2^h)(hb:b.length=2^h)(hm:MlB X h t a b):Pr Tryz.prog 166 [tV h t,eV a,eV b] (eV (mulE h t a b)):=by
 have c:=tformed_spec tk a b ha hb (.of hm.q.1 (by omega)) (.of hm.q.2.1 (by omega));have d:=(tmul_spec hX tk ha hb hm).rows;refine pw Tryz.func166 ⟨[0,1,2,6,11],[]⟩ ?_;simp only[Tryz.f166,Tryz.ntmps166,iz,seval];simp only[vx,T,seval,tV,tC,eV,QsC];refine Cg c ?_;simp only[vx,T,seval,tV,tC,eV,QsC];refine Cg d ?_;simp only[vx,T,seval,tV,tC,eV,QsC];exact Ve rfl
theorem sameQ1_spec (a b:Rat)(ha:qm a<2^38)(hb:qm b<2^38):Pr Tryz.prog 247 [QV a,QV b] (.one (.bool (decide (a=b)))):=by
 have c:=iQCmp_spec a b ha hb;refine pw Tryz.func247 ⟨[0,1,2,3,4],[]⟩ ?_;simp only[Tryz.f247,Tryz.ntmps247,iz,seval];simp only[vx,T,seval,QV,QC];refine Cg c ?_;simp only[vx,T,seval,QV,QC];refine vb (decide_eq_decide.2 ?_);unfold cmpQ;rw[cmpI_z0]
 constructor
 ·intro h;rw[←Rat.mkRat_self a,←Rat.mkRat_self b];exact(Rat.mkRat_eq_iff a.den_nz b.den_nz).2 h
 rintro rfl;rfl
end Go.Proofs.YtaihcpdpmijifaaGreat
set_option maxHeartbeats 2000000
namespace Go.Proofs.YtaihcpdpmijifaaGreat
open Go Go.Eng
open Go.Tw (El addE negE zE mulE zE_len negE_len addE_len mulE_len QB MlB len_take len_drop)
def sameB (a b:El):Bool:=eqB a.length b.length fun i=>decide (a.getD i default=b.getD i default)
theorem sameB_iff {a b:El}:sameB a b=true↔a=b:=by
 unfold sameB eqB;rw[Bool.and_eq_true,decide_eq_true_eq,all_range]
 constructor
 ·rintro⟨h1,h2⟩;refine List.ext_getElem h1 fun i g1 g2=>?_
  have:=of_decide_eq_true (h2 i g1)
  rwa [getD_eqQ g1,getD_eqQ g2]at this
 rintro rfl;exact⟨rfl,fun i _=>decide_eq_true rfl⟩
theorem same_spec (a b:El)(hl:a.length<2^38)(ha:Qk a)(hb:Qk b):Pr Tryz.prog 172 [eV a,eV b] (.one (.bool (decide (a=b)))):=by
 have c:=eqQ_spec 247 (fun i=>decide (a.getD i default=b.getD i default)) a b hl (fun i _=>sameQ1_spec _ _ (ha.get i) (hb.get i));have e:decide (a=b)=sameB a b:=by rw[Bool.eq_iff_iff,decide_eq_true_eq,sameB_iff]
 rw[e];refine pw Tryz.func172 ⟨[0,1,4],[]⟩ ?_;simp only[Tryz.f172,Tryz.ntmps172,iz,seval];simp only[vx,T,seval,eV,QsC];refine Cg c ?_;simp only[vx,T,seval];exact Ve rfl
def begB (h k:Nat)(t u:List El):Bool:=decide (k≤h)&&(List.range k).all fun i=>decide (t.getD i []=u.getD i [])
theorem begins_spec {h k:Nat}{t u:List El}(tk:Tk h t)(uk:Tk k u):Pr Tryz.prog 171 [tV h t,tV k u] (.one (.bool (begB h k t u))):=by
 have h8:=tk.le8;have k8:=uk.le8;have c:=eqL_spec 172 (fun i=>decide (t.getD i []=u.getD i [])) t u k k (by omega);refine pw Tryz.func171 ⟨[0,1,4],[]⟩ ?_;simp only[Tryz.f171,Tryz.ntmps171,iz,seval];simp only[vx,T,seval,tV,tC,eV,QsC];refine⟨fun g=>Lg ?_,fun g=>Lg ?_⟩
 ·have hf:∀i,i<k→i<k→Pr Tryz.prog 172 [eV (t.getD i []),eV (u.getD i [])] (.one (.bool (decide (t.getD i []=u.getD i [])))):=fun i hi _=>
   same_spec _ _ (by rw[tk.len i (by omega)];exact pow_small (by omega)) (tk.q i (by omega)) (uk.q i hi)
  simp only[vx,T,seval,tV,tC,eV,QsC];refine⟨by omega,Cg (c hf) ?_⟩;simp only[vx,T,seval];exact vb (by unfold begB eqB;rw[decide_eq_true rfl,decide_eq_true (by omega:k≤h)])
 simp only[vx,T,seval];exact vb (by unfold begB;rw[decide_eq_false (by omega:¬k≤h)];rfl)
end Go.Proofs.YtaihcpdpmijifaaGreat
set_option maxHeartbeats 2000000
namespace Go.Proofs.YtaihcpdpmijifaaGreat
open Go Go.Eng
open Go.Tw (El addE negE zE mulE QB MlB)
def nC (q:Rat):Nat→C
 |0=>.nil
 |1=>QsC [q]
 |_=>.any
def fN (l:List Rat)(i:Nat):Nat→C:=nC (l.getD i default)
def NsC (l:List Rat):C:=.rows 2 l.length (fN l)
def NsV (l:List Rat):V:=.one (NsC l)
def NV (q:Rat):V:=.agg [.nil,QsC [q]]
theorem Tk0:Tk 0 []:=⟨by decide,fun i h=>absurd h (O5 _),fun i h=>absurd h (O5 _)⟩
theorem Qk1 {q:Rat}{B:Nat}(h:qm q<B)(hB:B≤2^38:=by decide):Qk [q]:=fun x hx=>by obtain rfl:=List.mem_singleton.1 hx;exact Nat.lt_of_lt_of_le h hB
theorem QB1 {q:Rat}{B:Nat}(h:qm q≤B):QB B [q]:=fun x hx=>by obtain rfl:=List.mem_singleton.1 hx;exact h
theorem nil0:VLeN (.one .nil) (tV 0 []):=.cell (.nil_rows _ _)
theorem begins0:Pr Tryz.prog 171 [.one .nil,.one .nil] (.one (.bool true)):=(begins_spec Tk0 Tk0).args ⟨nil0,nil0,trivial⟩
theorem tAdd0 (a b:Rat)(ha:qm a<2^34)(hb:qm b<2^34):Pr Tryz.prog 170 [.one .nil,eV [a],eV [b]] (eV [a+b]):=(tAdd_spec Tk0 [a] [b] rfl rfl (Qk1 ha) (Qk1 hb)).args ⟨nil0,.refl _,.refl _,trivial⟩
theorem tMul0 (a b:Rat){A B:Nat}(h1:1≤A)(h2:1≤B)(ha:qm a≤A)(hb:qm b≤B)(h:A+B<2^34):Pr Tryz.prog 166 [.one .nil,eV [a],eV [b]] (eV [a*b]):=
 (tMul_spec (X:=A+B) (by omega) Tk0 [a] [b] rfl rfl ⟨QB1 (by omega),QB1 (by omega),QB1 (O0 (Go.Eng.qm_mul a b) (by omega))⟩).args ⟨nil0,.refl _,.refl _,trivial⟩
theorem nFromRat0 (q:Rat)(hq:qm q<2^36):Pr Tryz.prog 34 [QV q] (NV q):=by
 have c:=copyRat_spec q (by omega);refine pw Tryz.func34 ⟨[0,1,2],[]⟩ ?_;simp only[Tryz.f34,Tryz.ntmps34,iz,seval];simp only[vx,T,seval,QV,QC];refine Cg c ?_;simp only[vx,T,seval,QV,QC];refine VLe.agg2 (.refl _) (.rows rfl fun i j hi hj=>.of_eq ?_);obtain rfl:i=0:=by omega
 show List.getD _ (0*4+j) _=_;rw[Nat.zero_mul,Nat.zero_add];exact fQ_cells q rfl j
theorem common0 (l:List Rat)(hl:l.length<2^38):Pr Tryz.prog 249 [NsV l] (.tup [.one .nil,.one (.int .i64 0)]):=by
 refine pw Tryz.func249 ⟨[0,2,3,4,6,7,8,9,10,11,12,23,27,32],[]⟩ ?_;simp only[Tryz.f249,Tryz.ntmps249,iz,seval];simp only[vx,T,seval,NsV,NsC];refine Lk (fun y:{i:Nat//i≤l.length}=>⟨[(2,.one .nil),(3,.one (.int .i64 0)),(4,.one .nil),(9,NsV l),(10,.one (.int .i64 l.length)),(11,.one (.int .i64 y.1))],[],1,41⟩) (fun y=>l.length-y.1) ⟨0,O2 _⟩ ?_ (fun⟨i,hi⟩=>?_)
 ·refine Sa ?_;simp only[ry,seval,rz,NsV,NsC]
 have i1:=wI i (by omega);simp only[vx,T,seval,NsV,NsC];refine⟨fun g=>Lg ?_,fun g=>Lg ?_⟩
 ·obtain⟨x,hx⟩:∃x,x=l.getD i default:=⟨_,rfl⟩;simp only[vx,T,seval,NsV,NsC,fN,←hx,nC];refine⟨by omega,Cg begins0 ?_⟩;simp only[vx,T,seval,NsV,NsC];simp only[i1];refine Lq ⟨i+1,by omega⟩ ?_ ?_
  ·refine Sa ?_;simp only[ry,seval,rz,NsV,NsC]
  simp only;omega
 simp only[vx,T,seval,NsV,NsC];exact Ve rfl
theorem pad0 (q:Rat):Pr Tryz.prog 177 [.one .nil,eV [q]] (eV [q]):=by
 have c:=cloneQ_spec [q] (by simp);refine pw Tryz.func177 ⟨[0,1,4,5,13],[]⟩ ?_;simp only[Tryz.f177,Tryz.ntmps177,iz,seval];simp only[vx,T,seval,eV,QsC];refine Cg c ?_;simp only[vx,T,seval,eV,QsC];refine Lk (fun _:Unit=>⟨[(0,.one .nil),(4,.one .nil),(5,eV [q])],[],1,19⟩) (fun _=>0) () ?_ (fun _=>?_)
 ·refine Sa ?_;simp only[ry,seval,rz,eV,QsC]
 simp only[vx,T,seval,eV,QsC,List.length_cons,List.length_nil];refine⟨fun h=>absurd h (by decide),fun _=>Lg ?_⟩;simp only[vx,T,seval,eV,QsC];exact Ve rfl
theorem detach0 (q:Rat)(hq:qm q<2^38):Pr Tryz.prog 168 [NV q] (NV q):=by
 have c:=(copyList_spec [q] (by simp) (Qk1 hq)).rows;refine pw Tryz.func168 ⟨[0,1,2,3,5,11,12,13,14],[]⟩ ?_;simp only[Tryz.f168,Tryz.ntmps168,iz,seval];simp only[vx,T,seval,NV,eV,QsC];refine Cg c ?_;simp only[vx,T,seval,NV,eV,QsC];refine Lk (fun _:Unit=>⟨[(1,.one (.ptr 1 0)),(2,.one (.ptr 2 0)),(3,.one (.ptr 7 0)),(11,.one .nil),(12,.one (.int .i64 0)),(13,.one (.int .i64 0))],[(1,⟨.var [.nil,QsC [q]],true⟩),(2,⟨.var [.nil,.nil],true⟩),(7,⟨.var [.nil,QsC [q]],true⟩)],12,26⟩) (fun _=>0) () ?_ (fun _=>?_)
 ·refine Sa ?_;simp only[ry,seval,rz,QsC];exact fun _ _ _ _=>rfl
 simp only[vx,T,seval,QsC];exact VLe.refl _
theorem snocN {ks:List Rat}{k:Nat}(hk:ks.length=k)(q:Rat):∀(i j:Nat),i<k+1→j<2→
  (if i<k then fN ks i j else[C.nil,QsC [q]].getD ((i-k)*2+j) C.any)=fN (ks++[q]) i j:=by
 subst hk;intro i j hi hj
 by_cases h:i<ks.length
 ·rw[if_pos h];unfold fN;rw[X7,X7,List.getElem?_append_left h]
 have:i=ks.length:=by omega
 subst this;have e:(ks++[q]).getD ks.length default=q:=by rw[X7,List.getElem?_append_right (O1 _),Nat.sub_self];rfl
 rw[if_neg h,Nat.sub_self,Nat.zero_mul,Nat.zero_add];unfold fN;rw[e]
 match j,hj with
 |0,_=>rfl
 |1,_=>rfl
theorem joinL (l:List Rat)(hl:l.length<2^30)(hq:Qk l):Pr Tryz.prog 173 [NsV l] (.tup [NsV l,.one (.int .i64 0)]):=by
 have c:=common0 l (by omega);refine pw Tryz.func173 ⟨[0,2,3,4,5,6,8,9,10,11,18,20,21,22,23,31,45],[]⟩ ?_;simp only[Tryz.f173,Tryz.ntmps173,iz,seval];simp only[vx,T,seval,NsV,NsC];refine Cg c ?_;simp only[vx,T,seval,NsV,NsC];refine Lk (fun y:{i:Nat//i≤l.length}=>⟨[(2,.one .nil),(3,.one (.int .i64 0)),(4,.one .nil),(6,.one (.own 1 2 0 y.1)),(20,NsV l),(21,.one (.int .i64 l.length)),(22,.one (.int .i64 y.1))],[(1,⟨.rows 30 2 y.1 (fN (l.take y.1)),true⟩)],16,59⟩) (fun y=>l.length-y.1) ⟨0,O2 _⟩ ?_ (fun⟨i,hi⟩=>?_)
 ·refine Sa ?_;simp only[ry,seval,rz,NsV,NsC]
 have i1:=wI i (by omega);simp only[vx,T,seval,NsV,NsC];refine⟨fun g=>Lg ?_,fun g=>Lg ?_⟩
 ·have hil:i<l.length:=by omega
  have hst:l.take (i+1)=l.take i++[l.getD i default]:=by rw[List.take_add_one,X7,X8 hil];rfl
  have hxq:=hq.get i;obtain⟨x,hx⟩:∃x,x=l.getD i default:=⟨_,rfl⟩;rw[←hx]at hst hxq;have cp:=pad0 x;have cd:=detach0 x hxq;simp only[vx,T,seval,NsV,NsC,fN,←hx,nC];refine⟨by omega,Cg begins0 ?_⟩;simp only[vx,T,seval,NsV,NsC];refine Cg cp ?_;simp only[vx,T,seval,NsV,NsC,eV,QsC];refine Cg cd ?_;simp only[vx,T,seval,NsV,NsC,NV,QsC];simp only[i1];refine⟨⟨by omega,by omega⟩,Lq ⟨i+1,by omega⟩ ?_ ?_⟩
  ·refine Sa ?_;simp only[ry,seval,rz,NsV,NsC,QsC];rw[hst];exact snocN (by rw[X5];omega) x
  simp only;omega
 have hil:i=l.length:=by omega
 subst hil;have e:=List.take_length (l:=l);simp only[vx,T,seval,NsV,NsC,e];exact VLe.refl _
theorem lit2N (a b:Rat):CLe (.rows 2 2 (fun i j=>[.nil,QsC [a],.nil,QsC [b]].getD (i*2+j) .any)) (NsC [a,b]):=by
 refine CLe.rows rfl fun i j hi hj=>CLe.of_eq ?_
 match i,hi,j,hj with
 |0,_,0,_=>rfl
 |0,_,1,_=>rfl
 |1,_,0,_=>rfl
 |1,_,1,_=>rfl
theorem combine0 (f:FuncId)(a b c:Rat)(ha:qm a<2^34)(hb:qm b<2^34)(hf:Pr Tryz.prog f [.one .nil,eV [a],eV [b]] (eV [c])):
  Pr Tryz.prog 153 [NV a,NV b,.one (.fn f 0 (fun _=>.any))] (.tup [NV c,.one (.int .i64 0)]):=by
 have hq:Qk [a,b]:=fun x hx=>by
  rcases List.mem_cons.1 hx with rfl|hx
  ·exact Nat.lt_of_lt_of_le ha (by decide)
  obtain rfl:=List.mem_singleton.1 hx;exact Nat.lt_of_lt_of_le hb (by decide)
 have hj:=(joinL [a,b] (by simp) hq).arg1c (lit2N a b);refine pw Tryz.func153 ⟨[0,1,2,3,4,6,7,8,9,10,19],[]⟩ ?_;simp only[Tryz.f153,Tryz.ntmps153,iz,seval];simp only[vx,T,seval,NV,eV,QsC];refine Cg hj ?_
 simp(config:={maxSteps:=400000}) only[vx,T,seval,NsV,NsC,fN,nC,QsC,X0,X1]
 refine Cg hf ?_;simp only[vx,T,seval,eV,QsC];exact Ve rfl
theorem nAdd0 (a b:Rat)(ha:qm a<2^34)(hb:qm b<2^34):Pr Tryz.prog 92 [NV a,NV b] (.tup [NV (a+b),.one (.int .i64 0)]):=by
 have c:=combine0 _ a b (a+b) ha hb (tAdd0 a b ha hb);refine pw Tryz.func92 ⟨[0,1,2,3,4,5],[]⟩ ?_;simp only[Tryz.f92,Tryz.ntmps92,iz,seval];simp only[vx,T,seval,NV,eV,QsC];refine Cg c ?_;simp only[vx,T,seval,NV,eV,QsC];exact Ve rfl
theorem nMul0 (a b:Rat){A B:Nat}(h1:1≤A)(h2:1≤B)(ha:qm a≤A)(hb:qm b≤B)(h:A+B<2^34):Pr Tryz.prog 88 [NV a,NV b] (.tup [NV (a*b),.one (.int .i64 0)]):=by
 have c:=combine0 _ a b (a*b) (by omega) (by omega) (tMul0 a b h1 h2 ha hb h);refine pw Tryz.func88 ⟨[0,1,2,3,4,5],[]⟩ ?_;simp only[Tryz.f88,Tryz.ntmps88,iz,seval];simp only[vx,T,seval,NV,eV,QsC];refine Cg c ?_;simp only[vx,T,seval,NV,eV,QsC];exact Ve rfl
end Go.Proofs.YtaihcpdpmijifaaGreat
set_option maxHeartbeats 2000000
namespace Go.Proofs.YtaihcpdpmijifaaGreat
open Go Go.Eng
open Go.Tw (El addE negE zE mulE QB MlB)
theorem rQNeg_spec (q:Rat)(hq:qm q<2^40):Pr Tryz.prog 258 [QV q] (QV (-q)):=by
 have c:=rNeg_spec q.num (by unfold qm at hq;omega);refine pw Tryz.func258 ⟨[0,1,2],[]⟩ ?_;simp only[Tryz.f258,Tryz.ntmps258,iz,seval];simp only[vx,T,seval,QV,QC];refine Cg c ?_;simp only[vx,T,seval,ZV];exact Ve rfl
theorem qm_negR (q:Rat):qm (-q)=qm q:=by
 unfold qm;rw[Rat.neg_num,Rat.neg_den];unfold zn;rw[Int.natAbs_neg]
theorem snocQ {ks:El}{k:Nat}(hk:ks.length=k)(q:Rat):∀(i j:Nat),i<k+1→j<4→
  (if i<k then fQ ks i j else[C.bool (zs q.num),C.ints .u32 (zm q.num),C.bool (zs (q.den:Int)),C.ints .u32 (zm (q.den:Int))].getD ((i-k)*4+j) C.any)=fQ (ks++[q]) i j:=by
 subst hk;intro i j hi hj
 by_cases h:i<ks.length
 ·rw[if_pos h];unfold fQ;rw[X7,X7,List.getElem?_append_left h]
 have:i=ks.length:=by omega
 subst this;rw[if_neg h,Nat.sub_self,Nat.zero_mul,Nat.zero_add];exact fQ_cells q (by rw[X7,List.getElem?_append_right (O1 _),Nat.sub_self];rfl) j
theorem take_add {a b:El}{i:Nat}(h:i<a.length)(hab:b.length=a.length):(addE a b).take (i+1)=(addE a b).take i++[a.getD i default+b.getD i default]:=by
 rw[getD_eqQ h,getD_eqQ (by omega:i<b.length),List.take_add_one];show _++(List.zipWith (· + ·) a b)[i]?.toList=_;rw[List.getElem?_zipWith,X8 h,X8 (by omega:i<b.length)];rfl
theorem take_neg {a:El}{i:Nat}(h:i<a.length):(negE a).take (i+1)=(negE a).take i++[-(a.getD i default)]:=by
 rw[getD_eqQ h,List.take_add_one];show _++(List.map (- ·) a)[i]?.toList=_;rw[List.getElem?_map,X8 h];rfl
theorem r6Add (a b:El)(hl:a.length<2^30)(hab:b.length=a.length)(hqa:Qk a)(hqb:Qk b):Pr Tryz.prog 257 [.one .nil,eV a,eV b] (eV (addE a b)):=by
 have hlen:(addE a b).length=a.length:=by unfold addE;rw[List.length_zipWith];omega
 refine pw Tryz.func257 ⟨[1,2,6,7,8,12],[]⟩ ?_;simp only[Tryz.f257,Tryz.ntmps257,iz,seval];simp only[vx,T,seval,eV,QsC];refine Lk (fun y:{i:Nat//i≤a.length}=>⟨[(1,eV a),(2,eV b),(6,.one .nil),(7,.one (.own 1 4 0 y.1)),(8,.one (.int .i64 y.1))],[(1,⟨.rows 43 4 y.1 (fQ ((addE a b).take y.1)),true⟩)],2,28⟩) (fun y=>a.length-y.1) ⟨0,O2 _⟩ ?_ (fun⟨i,hi⟩=>?_)
 ·refine Sa ?_;simp only[ry,seval,rz,eV,QsC]
 have i1:=wI i (by omega);simp only[vx,T,seval,eV,QsC];refine⟨fun h1=>Lg ?_,fun h1=>Lg ?_⟩
 ·have hil:i<a.length:=by omega
  have hxq:=hqa.get i;have hyq:=hqb.get i;have hst:=take_add hil hab;obtain⟨x,hx⟩:∃x,x=a.getD i default:=⟨_,rfl⟩;obtain⟨y,hy⟩:∃y,y=b.getD i default:=⟨_,rfl⟩;rw[←hx]at hxq;rw[←hy]at hyq;rw[←hx,←hy]at hst;simp only[vx,T,seval,eV,QsC,←hx,←hy,qC];refine⟨by omega,by omega,Cg (rQAdd_spec x y hxq hyq) ?_⟩;simp only[vx,T,seval,QV,QC];simp only[i1];refine⟨⟨by omega,by omega⟩,Lq ⟨i+1,by omega⟩ ?_ ?_⟩
  ·refine Sa ?_;simp only[ry,seval,rz,eV,QsC];rw[hst];exact snocQ (by rw[X5];omega) (x+y)
  simp only;omega
 have hil:i=a.length:=by omega
 subst hil;have e:(addE a b).take a.length=addE a b:=by rw[←hlen,List.take_length]
 simp only[vx,T,seval,e];rw[hlen];exact VLe.refl _
theorem r6Neg (a:El)(hl:a.length<2^30)(hqa:Qk a):Pr Tryz.prog 190 [.one .nil,eV a] (eV (negE a)):=by
 have hlen:(negE a).length=a.length:=by unfold Go.Tw.negE;rw[List.length_map]
 refine pw Tryz.func190 ⟨[1,4,5,6,10],[]⟩ ?_;simp only[Tryz.f190,Tryz.ntmps190,iz,seval];simp only[vx,T,seval,eV,QsC];refine Lk (fun y:{i:Nat//i≤a.length}=>⟨[(1,eV a),(4,.one .nil),(5,.one (.own 1 4 0 y.1)),(6,.one (.int .i64 y.1))],[(1,⟨.rows 43 4 y.1 (fQ ((negE a).take y.1)),true⟩)],2,22⟩) (fun y=>a.length-y.1) ⟨0,O2 _⟩ ?_ (fun⟨i,hi⟩=>?_)
 ·refine Sa ?_;simp only[ry,seval,rz,eV,QsC]
 have i1:=wI i (by omega);simp only[vx,T,seval,eV,QsC];refine⟨fun h1=>Lg ?_,fun h1=>Lg ?_⟩
 ·have hil:i<a.length:=by omega
  have hxq:=hqa.get i;have hst:=take_neg hil;obtain⟨x,hx⟩:∃x,x=a.getD i default:=⟨_,rfl⟩;rw[←hx]at hxq;rw[←hx]at hst;simp only[vx,T,seval,eV,QsC,←hx,qC];refine⟨by omega,Cg (rQNeg_spec x (by omega)) ?_⟩;simp only[vx,T,seval,QV,QC];simp only[i1];refine⟨⟨by omega,by omega⟩,Lq ⟨i+1,by omega⟩ ?_ ?_⟩
  ·refine Sa ?_;simp only[ry,seval,rz,eV,QsC];rw[hst];exact snocQ (by rw[X5];omega) (-x)
  simp only;omega
 have hil:i=a.length:=by omega
 subst hil;have e:(negE a).take a.length=negE a:=by rw[←hlen,List.take_length]
 simp only[vx,T,seval,e];rw[hlen];exact VLe.refl _
theorem r7sign0 (q:Rat)(hq:qm q<2^34):Pr Tryz.prog 255 [.one .nil,eV [q]] (.one (.int .i64 (sgn q.num))):=by
 have c:=rQSign_spec q (by omega);refine pw Tryz.func255 ⟨[0,1,4,5,6,7,8,9,12,46,49],[(4,.nil)]⟩ ?_;simp only[Tryz.f255,Tryz.ntmps255,iz,seval];simp only[vx,T,seval,eV,QsC,qC,X0];refine Cg c ?_;simp only[vx,T,seval,QsC];exact Ve rfl
theorem r7Fast0 (q:Rat)(hq:qm q<2^34):Pr Tryz.prog 178 [.one .nil,eV [q]] (.one (.int .i64 (sgn q.num))):=by
 have c:=r7sign0 q hq;refine pw Tryz.func178 ⟨[0,1,4],[]⟩ ?_;simp only[Tryz.f178,Tryz.ntmps178,iz,seval];simp only[vx,T,seval,eV,QsC];refine Cg c ?_;simp only[vx,T,seval,QsC];exact Ve rfl
theorem r9Sign0 (q:Rat)(hq:qm q<2^34):Pr Tryz.prog 94 [NV q] (.one (.int .i64 (sgn q.num))):=by
 have c:=r7Fast0 q hq;refine pw Tryz.func94 ⟨[0,1,2],[]⟩ ?_;simp only[Tryz.f94,Tryz.ntmps94,iz,seval];simp only[vx,T,seval,NV,QsC];refine Cg c ?_;simp only[vx,T,seval,QsC];exact Ve rfl
theorem r9FromRat0 (q:Rat):Pr Tryz.prog 54 [QV q] (NV q):=by
 refine pw Tryz.func54 ⟨[0,1,2],[]⟩ ?_;simp only[Tryz.f54,Tryz.ntmps54,iz,seval];simp only[vx,T,seval,QV,QC];refine VLe.agg2 (.refl _) (.rows rfl fun i j hi hj=>.of_eq ?_);obtain rfl:i=0:=by omega
 show List.getD _ (0*4+j) _=_;rw[Nat.zero_mul,Nat.zero_add];exact fQ_cells q rfl j
theorem r9Neg0 (q:Rat)(hq:qm q<2^34):Pr Tryz.prog 108 [NV q] (NV (-q)):=by
 have c:Pr Tryz.prog 190 [.one .nil,eV [q]] (eV [-q]):=r6Neg [q] (by simp) (Qk1 hq);refine pw Tryz.func108 ⟨[0,1,2],[]⟩ ?_;simp only[Tryz.f108,Tryz.ntmps108,iz,seval];simp only[vx,T,seval,NV,QsC];refine Cg c ?_;simp only[vx,T,seval,eV,QsC];exact Ve rfl
theorem begins9:Pr Tryz.prog 358 [.one .nil,.one .nil] (.one (.bool true)):=by
 refine pw Tryz.func358 ⟨[0,1,4,5,10,14,26],[]⟩ ?_;simp only[Tryz.f358,Tryz.ntmps358,iz,seval];simp only[vx,T,seval];refine Lk (fun _:Unit=>⟨[(1,.one .nil),(4,.one (.bool false)),(5,.one (.int .i64 0))],[],2,27⟩) (fun _=>0) () ?_ (fun _=>?_)
 ·refine Sa ?_;simp only[ry,seval,rz]
 simp only[vx,T,seval];exact Ve rfl
theorem lift9 (q:Rat):Pr Tryz.prog 360 [.one .nil,eV [q]] (eV [q]):=by
 refine pw Tryz.func360 ⟨[0,1,4,5,14],[]⟩ ?_;simp only[Tryz.f360,Tryz.ntmps360,iz,seval];simp only[vx,T,seval,eV,QsC];refine Lk (fun _:Unit=>⟨[(0,.one .nil),(4,.one .nil),(5,.one (.own 1 4 0 1))],[(1,⟨.rows 43 4 1 (fQ [q]),true⟩)],6,20⟩) (fun _=>0) () ?_ (fun _=>?_)
 ·refine Sa ?_;simp only[ry,seval,rz,eV,QsC];exact fun i j _ _=>by rw[if_neg (O5 _),Nat.sub_zero];rfl
 simp only[vx,T,seval,eV,QsC];refine⟨fun h=>absurd h (by decide),fun _=>Lg ?_⟩;simp only[vx,T,seval,eV,QsC];exact VLe.refl _
theorem join9 (l:List Rat)(hl:l.length<2^30):Pr Tryz.prog 310 [NsV l] (.tup [NsV l,.one (.int .i64 0)]):=by
 refine pw Tryz.func310 ⟨[0,2,3,4,5,6,8,9,10,11,13,18,38,51,64,70,81],[]⟩ ?_;simp only[Tryz.f310,Tryz.ntmps310,iz,seval];simp only[vx,T,seval,NsV,NsC];refine Lk (fun y:{i:Nat//i≤l.length}=>⟨[(0,NsV l),(2,.one .nil),(3,.one (.int .i64 0)),(4,.one .nil),(5,.one (.int .i64 y.1))],[],5,115⟩) (fun y=>l.length-y.1) ⟨0,O2 _⟩ ?_ (fun⟨i,hi⟩=>?_)
 ·refine Sa ?_;simp only[ry,seval,rz,NsV,NsC]
 have i1:=wI i (by omega);simp only[vx,T,seval,NsV,NsC];refine⟨fun g=>Lg ?_,fun g=>Lg ?_⟩
 ·obtain⟨x,hx⟩:∃x,x=l.getD i default:=⟨_,rfl⟩;simp only[vx,T,seval,NsV,NsC,fN,←hx,nC];refine⟨⟨by omega,by omega⟩,⟨by omega,by omega⟩,Cg begins9 ?_⟩;simp only[vx,T,seval,NsV,NsC];simp only[i1];refine Lq ⟨i+1,by omega⟩ ?_ ?_
  ·refine Sa ?_;simp only[ry,seval,rz,NsV,NsC]
  simp only;omega
 clear g i1;simp only[vx,T,seval,NsV,NsC];refine Lk (fun y:{i:Nat//i≤l.length}=>⟨[(0,NsV l),(2,.one .nil),(3,.one (.int .i64 0)),(4,.one .nil),(9,.one (.own 1 2 0 y.1)),(10,.one (.int .i64 y.1))],[(1,⟨.rows 30 2 y.1 (fN (l.take y.1)),true⟩)],16,115⟩) (fun y=>l.length-y.1) ⟨0,O2 _⟩ ?_ (fun⟨i,hi⟩=>?_)
 ·refine Sa ?_;simp only[ry,seval,rz,NsV,NsC]
 have i1:=wI i (by omega);simp only[vx,T,seval,NsV,NsC];refine⟨fun g=>Lg ?_,fun g=>Lg ?_⟩
 ·have hil:i<l.length:=by omega
  have hst:l.take (i+1)=l.take i++[l.getD i default]:=by rw[List.take_add_one,X7,X8 hil];rfl
  obtain⟨x,hx⟩:∃x,x=l.getD i default:=⟨_,rfl⟩;rw[←hx]at hst;have cp:=lift9 x;simp only[vx,T,seval,NsV,NsC,fN,←hx,nC];refine⟨⟨by omega,by omega⟩,Cg begins9 ?_⟩;simp only[vx,T,seval,NsV,NsC,fN,←hx,nC];refine⟨⟨by omega,by omega⟩,Cg cp ?_⟩;simp only[vx,T,seval,NsV,NsC,eV,QsC];simp only[i1];refine⟨⟨by omega,by omega⟩,Lq ⟨i+1,by omega⟩ ?_ ?_⟩
  ·refine Sa ?_;simp only[ry,seval,rz,NsV,NsC,QsC];rw[hst];exact snocN (by rw[X5];omega) x
  simp only;omega
 have hil:i=l.length:=by omega
 subst hil;have e:=List.take_length (l:=l);simp only[vx,T,seval,NsV,NsC,e];exact VLe.refl _
theorem two9 (a b:Rat):Pr Tryz.prog 232 [NV a,NV b] (.tup [NV a,NV b,.one (.int .i64 0)]):=by
 have hj:=(join9 [a,b] (by simp)).arg1c (lit2N a b);refine pw Tryz.func232 ⟨[0,1,2,3,4,5,6,7,8,17],[(4,(.cons 6 [3,4,5] (.cons 7 [] (.cons 8 [] .nil .nil) .nil) .nil))]⟩ ?_;simp only[Tryz.f232,Tryz.ntmps232,iz,seval];simp only[vx,T,seval,NV,QsC];refine Cg hj ?_
 simp(config:={maxSteps:=400000}) only[vx,T,seval,NsV,NsC,fN,nC,QsC,X0,X1]
 exact Ve rfl
theorem r9Add0 (a b:Rat)(ha:qm a<2^34)(hb:qm b<2^34):Pr Tryz.prog 187 [NV a,NV b] (.tup [NV (a+b),.one (.int .i64 0)]):=by
 have c:=two9 a b;have d:Pr Tryz.prog 257 [.one .nil,eV [a],eV [b]] (eV [a+b]):=r6Add [a] [b] (by simp) rfl (Qk1 ha) (Qk1 hb);refine pw Tryz.func187 ⟨[0,1,2,3,4,5,6,15],[]⟩ ?_;simp only[Tryz.f187,Tryz.ntmps187,iz,seval];simp only[vx,T,seval,NV,QsC];refine Cg c ?_;simp only[vx,T,seval,NV,QsC];refine Cg d ?_;simp only[vx,T,seval,eV,QsC];exact Ve rfl
theorem r9Sub0 (a b:Rat)(ha:qm a<2^34)(hb:qm b<2^34):Pr Tryz.prog 182 [NV a,NV b] (.tup [NV (a+ -b),.one (.int .i64 0)]):=by
 have c:=r9Neg0 b hb;have d:=r9Add0 a (-b) ha (by rw[qm_negR];exact hb);refine pw Tryz.func182 ⟨[0,1,2,3,4,5],[]⟩ ?_;simp only[Tryz.f182,Tryz.ntmps182,iz,seval];simp only[vx,T,seval,NV,QsC];refine Cg c ?_;simp only[vx,T,seval,NV,QsC];refine Cg d ?_;simp only[vx,T,seval,NV,QsC];exact Ve rfl
end Go.Proofs.YtaihcpdpmijifaaGreat
namespace Go.Eng
end Go.Eng
namespace Go.Eng
open Go
end Go.Eng
namespace Go.Eng
open Go
end Go.Eng
namespace Go.Eng
open Go
end Go.Eng
set_option maxHeartbeats 2000000
namespace Go.Proofs.YtaihcpdpmijifaaGreat
open Go Go.Eng
end Go.Proofs.YtaihcpdpmijifaaGreat
set_option maxHeartbeats 2000000
namespace Go.Proofs.YtaihcpdpmijifaaGreat
open Go Go.Eng
end Go.Proofs.YtaihcpdpmijifaaGreat
namespace Go.Eng
open Go
theorem inv_pos {x:Rat}{d:Nat}(h:x.num=(d:Int)):x⁻¹=mkRat x.den d:=by
 rw[Rat.inv_def,h];rfl
end Go.Eng
set_option maxHeartbeats 2000000
namespace Go.Proofs.YtaihcpdpmijifaaGreat
open Go Go.Eng
theorem rMake_spec (n:Int)(d:Nat)(hn:zn n<2^40)(hd:nl d<2^40)(h0:0<d):Pr Tryz.prog 71 [ZV n,ZV (d:Int)] (QV (mkRat n d)):=by
 have hg:(0:Int)<(Int.gcd n d:Nat):=by have:=gcd_pos (n:=n) h0;omega
 have hgn:zn (Int.gcd n d)≤nl d:=zn_le (b:=(d:Int)) (by
  have:=Nat.gcd_le_right n.natAbs (show 0<(d:Int).natAbs by omega)
  exact this)
 have c:=rGCD_spec n (d:Int) (by omega) (by rw[zn_nat];omega);have s:=rSign_spec (d:Int) (by rw[zn_nat];omega);rw[show sgn (d:Int)=1 by unfold sgn;rw[if_neg (by omega),if_neg (by omega)]]at s;have q1:=rQuo_spec n (Int.gcd n d) (by omega) (by omega) (by omega);have q2:=rQuo_spec d (Int.gcd n d) (by rw[zn_nat];omega) (by omega) (by omega);rw[mk_num h0]at q1;rw[mk_den h0]at q2;refine pw Tryz.func71 ⟨[0,1,2,3,4,5,11],[]⟩ ?_;simp only[Tryz.f71,Tryz.ntmps71,iz,seval];simp only[vx,T,seval,ZV];refine Cg c ?_;simp only[vx,T,seval,ZV];refine Cg s ?_;simp only[vx,T,seval,ZV];refine Cg q1 ?_;simp only[vx,T,seval,ZV];refine Cg q2 ?_;simp only[vx,T,seval,ZV];refine Va ?_;simp only[vLe,vLeL,ry,seval,QV,QC]
theorem rFrac_spec (n:Int)(d:Nat)(hn: -9223372036854775808≤n∧n≤9223372036854775807)(hd:d≤9223372036854775807)(h0:0<d)(k1:zn n<2^39)(k2:nl d<2^39):
  Pr Tryz.prog 19 [.one (.int .i64 n),.one (.int .i64 d)] (QV (mkRat n d)):=by
 have c1:=rFromInt_spec n hn.1 hn.2;have c2:=rFromInt_spec (d:Int) (by omega) (by omega);have m:=rMake_spec n d (by omega) (by omega) h0;refine pw Tryz.func19 ⟨[0,1,4,6],[]⟩ ?_;simp only[Tryz.f19,Tryz.ntmps19,iz,seval];simp only[vx,T,seval,ZV];refine⟨fun h=>absurd h (by omega),fun _=>Lg ?_⟩;simp only[vx,T,seval,ZV];refine Cg c1 ?_;simp only[vx,T,seval,ZV];refine Cg c2 ?_;simp only[vx,T,seval,ZV];refine Cg m ?_;simp only[vx,T,seval,ZV,QV,QC];exact Ve rfl
end Go.Proofs.YtaihcpdpmijifaaGreat
set_option maxHeartbeats 2000000
namespace Go.Proofs.YtaihcpdpmijifaaGreat
open Go Go.Eng
open Go.Tw (El)
theorem sgn_num0 (q:Rat):(sgn q.num=0)=(q=0):=by
 unfold sgn
 split
 ·rename_i h;exact eq_iff_iff.2 ⟨fun _=>Rat.num_eq_zero.1 h,fun _=>rfl⟩
 rename_i h
 refine eq_iff_iff.2 ⟨fun h2=>?_,fun h2=>absurd (Rat.num_eq_zero.2 h2) h⟩
 split at h2<;>cases h2
theorem sub_zeroR (a b:Rat):(a-b=0)=(a=b):=eq_iff_iff.2 ⟨fun h=>by grind,fun h=>by grind⟩
theorem sgn_sub0 (a b:Rat):decide (sgn (a-b).num=0)=decide (a=b):=decide_eq_decide.2 (by rw[sgn_num0,sub_zeroR])
theorem qm_subR (a b:Rat):qm (a-b)≤qm a+qm b+1:=by
 rw[Rat.sub_eq_add_neg]
 have:=Go.Eng.qm_add a (-b)
 rw[qm_negR]at this;exact this
theorem r6Mul0 (a b:Rat)(ha:qm a<2^34)(hb:qm b<2^34):Pr Tryz.prog 233 [.one .nil,eV [a],eV [b]] (eV [a*b]):=by
 have c:=rQMul_spec a b (by omega) (by omega);refine pw Tryz.func233 ⟨[0,1,2,6,7,8,9,10,11,12,15,57,63,74],[(4,.nil)]⟩ ?_;simp only[Tryz.f233,Tryz.ntmps233,iz,seval];simp only[vx,T,seval,eV,QsC,qC,X0];refine Cg c ?_;simp only[vx,T,seval,QV,QC];refine VLe.cell (CLe.rows rfl fun i j hi hj=>CLe.of_eq ?_);obtain rfl:i=0:=by omega
 show List.getD _ (0*4+j) _=_;rw[Nat.zero_mul,Nat.zero_add];exact fQ_cells (a*b) rfl j
theorem r9Mul0 (a b:Rat)(ha:qm a<2^34)(hb:qm b<2^34):Pr Tryz.prog 152 [NV a,NV b] (.tup [NV (a*b),.one (.int .i64 0)]):=by
 have c:=two9 a b;have d:=r6Mul0 a b ha hb;refine pw Tryz.func152 ⟨[0,1,2,3,4,5,6,15],[]⟩ ?_;simp only[Tryz.f152,Tryz.ntmps152,iz,seval];simp only[vx,T,seval,NV,QsC];refine Cg c ?_;simp only[vx,T,seval,NV,QsC];refine Cg d ?_;simp only[vx,T,seval,eV,QsC];exact Ve rfl
theorem r9SubD (a b:Rat)(ha:qm a<2^34)(hb:qm b<2^34):Pr Tryz.prog 182 [NV a,NV b] (.tup [NV (a-b),.one (.int .i64 0)]):=by
 rw[Rat.sub_eq_add_neg];exact r9Sub0 a b ha hb
theorem r9Cmp0 (a b:Rat)(ha:qm a<2^32)(hb:qm b<2^32):Pr Tryz.prog 148 [NV a,NV b] (.tup [.one (.int .i64 (sgn (a-b).num)),.one (.int .i64 0)]):=by
 have c:=r9SubD a b (by omega) (by omega);have d:=r9Sign0 (a-b) (by have:=qm_subR a b;omega);refine pw Tryz.func148 ⟨[0,1,2,3,4,5,6,7,15],[]⟩ ?_;simp only[Tryz.f148,Tryz.ntmps148,iz,seval];simp only[vx,T,seval,NV,QsC];refine Cg c ?_;simp only[vx,T,seval,NV,QsC];refine Cg d ?_;simp only[vx,T,seval,QsC];exact Ve rfl
theorem r9Eq0 (a b:Rat)(ha:qm a<2^32)(hb:qm b<2^32):Pr Tryz.prog 73 [NV a,NV b] (.one (.bool (decide (a=b)))):=by
 have c:=r9Cmp0 a b ha hb;rw[←sgn_sub0];refine pw Tryz.func73 ⟨[0,1,2,3,4,5,6],[]⟩ ?_;simp only[Tryz.f73,Tryz.ntmps73,iz,seval];simp only[vx,T,seval,NV,QsC];refine Cg c ?_;simp only[vx,T,seval,QsC];exact Ve rfl
end Go.Proofs.YtaihcpdpmijifaaGreat
set_option maxHeartbeats 2000000
namespace Go.Proofs.YtaihcpdpmijifaaGreat
open Go Go.Eng
open Go.Tw (El)
def WV (x y:Rat):V:=.agg [.nil,QsC [x],.nil,QsC [y]]
def Sm (B:Nat)(q:Rat):Prop:=qm q≤B
theorem Sm.lt {B:Nat}{q:Rat}(h:Sm B q)(hB:B<2^30):qm q<2^34:=by unfold Sm at h;omega
theorem Sm.lt2 {B:Nat}{q:Rat}(h:Sm B q)(hB:B<2^30):qm q<2^32:=by unfold Sm at h;omega
theorem Sm.neg {B:Nat}{q:Rat}(h:Sm B q):Sm B (-q):=by unfold Sm;rw[qm_negR];exact h
theorem Sm.add {A B:Nat}{p q:Rat}(h:Sm A p)(h':Sm B q):Sm (A+B+1) (p+q):=by
 unfold Sm at*
 have:=Go.Eng.qm_add p q
 omega
theorem Sm.sub {A B:Nat}{p q:Rat}(h:Sm A p)(h':Sm B q):Sm (A+B+1) (p-q):=by
 unfold Sm at*
 have:=qm_subR p q
 omega
theorem Sm.mul {A B:Nat}{p q:Rat}(h:Sm A p)(h':Sm B q):Sm (A+B) (p*q):=by
 unfold Sm at*
 have:=Go.Eng.qm_mul p q
 omega
theorem Sm.mono {A B:Nat}{q:Rat}(h:Sm A q)(hAB:A≤B):Sm B q:=by unfold Sm at*;omega
theorem r13Make (x y:Rat):Pr Tryz.prog 18 [QV x,QV y] (WV x y):=by
 have c1:=r9FromRat0 x;have c2:=r9FromRat0 y;refine pw Tryz.func18 ⟨[0,1,2,3,4],[]⟩ ?_;simp only[Tryz.f18,Tryz.ntmps18,iz,seval];simp only[vx,T,seval,NV,WV,QsC,QV,QC];refine Cg c1 ?_;simp only[vx,T,seval,NV,WV,QsC,QV,QC];refine Cg c2 ?_;simp only[vx,T,seval,NV,WV,QsC,QV,QC];exact Ve rfl
theorem r13first:Pr Tryz.prog 189 [.one (.int .i64 0),.one (.int .i64 0)] (.one (.int .i64 0)):=by
 refine pw Tryz.func189 ⟨[0,1,4,6],[]⟩ ?_;simp only[Tryz.f189,Tryz.ntmps189,iz,seval];simp only[vx,T,seval,QsC];exact Ve rfl
theorem r13vec (x y:Rat):Pr Tryz.prog 188 [NV x,NV y,.one (.int .i64 0)] (.tup [WV x y,.one (.int .i64 0)]):=by
 refine pw Tryz.func188 ⟨[0,1,2,3,4,6,7,9],[]⟩ ?_;simp only[Tryz.f188,Tryz.ntmps188,iz,seval];simp only[vx,T,seval,WV,NV,QsC];exact Ve rfl
theorem r13Add (a b c d:Rat){B:Nat}(hB:B<2^28)(ha:Sm B a)(hb:Sm B b)(hc:Sm B c)(hd:Sm B d):Pr Tryz.prog 106 [WV a b,WV c d] (.tup [WV (a+c) (b+d),.one (.int .i64 0)]):=by
 have c1:=r9Add0 a c (ha.lt (by omega)) (hc.lt (by omega));have c2:=r9Add0 b d (hb.lt (by omega)) (hd.lt (by omega));have c3:=r13first;have c4:=r13vec (a+c) (b+d);refine pw Tryz.func106 ⟨[0,1,2,3,4,5,6,7,8,9],[]⟩ ?_;simp only[Tryz.f106,Tryz.ntmps106,iz,seval];simp only[vx,T,seval,WV,NV,QsC];refine Cg c1 ?_;simp only[vx,T,seval,WV,NV,QsC];refine Cg c2 ?_;simp only[vx,T,seval,WV,NV,QsC];refine Cg c3 ?_;simp only[vx,T,seval,WV,NV,QsC];refine Cg c4 ?_;simp only[vx,T,seval,WV,NV,QsC];exact Ve rfl
theorem r13Neg (a b:Rat){B:Nat}(hB:B<2^28)(ha:Sm B a)(hb:Sm B b):Pr Tryz.prog 186 [WV a b] (WV (-a) (-b)):=by
 have c1:=r9Neg0 a (ha.lt (by omega));have c2:=r9Neg0 b (hb.lt (by omega));refine pw Tryz.func186 ⟨[0,1,2],[]⟩ ?_;simp only[Tryz.f186,Tryz.ntmps186,iz,seval];simp only[vx,T,seval,WV,NV,QsC];refine Cg c1 ?_;simp only[vx,T,seval,WV,NV,QsC];refine Cg c2 ?_;simp only[vx,T,seval,WV,NV,QsC];exact Ve rfl
theorem r13Sub (a b c d:Rat){B:Nat}(hB:B<2^28)(ha:Sm B a)(hb:Sm B b)(hc:Sm B c)(hd:Sm B d):Pr Tryz.prog 105 [WV a b,WV c d] (.tup [WV (a-c) (b-d),.one (.int .i64 0)]):=by
 rw[Rat.sub_eq_add_neg,Rat.sub_eq_add_neg];have c1:=r13Neg c d hB hc hd;have c2:=r13Add a b (-c) (-d) hB ha hb hc.neg hd.neg;refine pw Tryz.func105 ⟨[0,1,2,3,4,5],[]⟩ ?_;simp only[Tryz.f105,Tryz.ntmps105,iz,seval];simp only[vx,T,seval,WV,NV,QsC];refine Cg c1 ?_;simp only[vx,T,seval,WV,NV,QsC];refine Cg c2 ?_;simp only[vx,T,seval,WV,NV,QsC];exact Ve rfl
theorem r13Scale (a b n:Rat){B:Nat}(hB:B<2^28)(ha:Sm B a)(hb:Sm B b)(hn:Sm B n):Pr Tryz.prog 107 [WV a b,NV n] (.tup [WV (a*n) (b*n),.one (.int .i64 0)]):=by
 have c1:=r9Mul0 a n (ha.lt (by omega)) (hn.lt (by omega));have c2:=r9Mul0 b n (hb.lt (by omega)) (hn.lt (by omega));have c3:=r13first;have c4:=r13vec (a*n) (b*n);refine pw Tryz.func107 ⟨[0,1,2,3,4,5,6,7,8,9],[]⟩ ?_;simp only[Tryz.f107,Tryz.ntmps107,iz,seval];simp only[vx,T,seval,WV,NV,QsC];refine Cg c1 ?_;simp only[vx,T,seval,WV,NV,QsC];refine Cg c2 ?_;simp only[vx,T,seval,WV,NV,QsC];refine Cg c3 ?_;simp only[vx,T,seval,WV,NV,QsC];refine Cg c4 ?_;simp only[vx,T,seval,WV,NV,QsC];exact Ve rfl
theorem r13Left (a b:Rat){B:Nat}(hB:B<2^28)(hb:Sm B b):Pr Tryz.prog 47 [WV a b] (WV (-b) a):=by
 have c1:=r9Neg0 b (hb.lt (by omega));refine pw Tryz.func47 ⟨[0,1,2],[]⟩ ?_;simp only[Tryz.f47,Tryz.ntmps47,iz,seval];simp only[vx,T,seval,WV,NV,QsC];refine Cg c1 ?_;simp only[vx,T,seval,WV,NV,QsC];exact Ve rfl
theorem r13Dot (a b c d:Rat){B:Nat}(hB:B<2^28)(ha:Sm B a)(hb:Sm B b)(hc:Sm B c)(hd:Sm B d):Pr Tryz.prog 181 [WV a b,WV c d] (.tup [NV (a*c+b*d),.one (.int .i64 0)]):=by
 have c1:=r9Mul0 a c (ha.lt (by omega)) (hc.lt (by omega));have c2:=r9Mul0 b d (hb.lt (by omega)) (hd.lt (by omega));have c3:=r9Add0 (a*c) (b*d) ((ha.mul hc).lt (by omega)) ((hb.mul hd).lt (by omega));refine pw Tryz.func181 ⟨[0,1,2,3,4,5,6,7,8,9,31],[]⟩ ?_;simp only[Tryz.f181,Tryz.ntmps181,iz,seval];simp only[vx,T,seval,WV,NV,QsC];refine Cg c1 ?_;simp only[vx,T,seval,WV,NV,QsC];refine Cg c2 ?_;simp only[vx,T,seval,WV,NV,QsC];refine Cg c3 ?_;simp only[vx,T,seval,WV,NV,QsC];exact Ve rfl
theorem r13Square (a b:Rat){B:Nat}(hB:B<2^28)(ha:Sm B a)(hb:Sm B b):Pr Tryz.prog 183 [WV a b] (.tup [NV (a*a+b*b),.one (.int .i64 0)]):=by
 have c1:=r13Dot a b a b hB ha hb ha hb;refine pw Tryz.func183 ⟨[0,1,2,3],[]⟩ ?_;simp only[Tryz.f183,Tryz.ntmps183,iz,seval];simp only[vx,T,seval,WV,NV,QsC];refine Cg c1 ?_;simp only[vx,T,seval,WV,NV,QsC];exact Ve rfl
theorem r13Equal (a b c d:Rat){B:Nat}(hB:B<2^28)(ha:Sm B a)(hb:Sm B b)(hc:Sm B c)(hd:Sm B d):Pr Tryz.prog 39 [WV a b,WV c d] (.one (.bool (decide (a=c)&&decide (b=d)))):=by
 have c1:=r9Eq0 a c (ha.lt2 (by omega)) (hc.lt2 (by omega));have c2:=r9Eq0 b d (hb.lt2 (by omega)) (hd.lt2 (by omega))
 generalize decide (a=c)=v1 at c1
 cases v1
 ·refine pw Tryz.func39 ⟨[0,1,2,3,4],[]⟩ ?_;simp only[Tryz.f39,Tryz.ntmps39,iz,seval];simp only[vx,T,seval,WV,NV,QsC];refine Cg c1 ?_;simp only[vx,T,seval,NV,QsC];exact Ve rfl
 refine pw Tryz.func39 ⟨[0,1,2,3,4],[]⟩ ?_;simp only[Tryz.f39,Tryz.ntmps39,iz,seval];simp only[vx,T,seval,WV,NV,QsC];refine Cg c1 ?_;simp only[vx,T,seval,NV,QsC];refine Cg c2 ?_;simp only[vx,T,seval,NV,QsC];exact Ve rfl
end Go.Proofs.YtaihcpdpmijifaaGreat
namespace Go.Geo
open Go Go.Eng
structure Dr where
 arc:Bool
 cw:Bool
 a0:Int
 a1:Int
 b0:Int
 b1:Int
 st:Int
 un:Int
def I8 (x:Int):Prop:= -128≤x∧x≤127
def Dr.ok (d:Dr):Prop:=(I8 d.a0∧I8 d.a1∧I8 d.b0∧I8 d.b1)∧(0≤d.st∧d.st<256)∧0≤d.un∧d.un<256
def drL (d:Dr):List C:=[.bool d.arc,.bool d.cw,.int .i8 d.a0,.int .i8 d.a1,.int .i8 d.b0,.int .i8 d.b1,.int .u8 d.st,.int .u8 d.un]
def drC (m:Nat)(f:Nat→Dr):C:=.rows 8 m (fun i j=>(drL (f i)).getD j .any)
end Go.Geo
namespace Go.Geo
open Go Go.Eng
structure Cu where
 arc:Bool
 cw:Bool
 ax:Rat
 ay:Rat
 bx:Rat
 by':Rat
 zx:Rat
 zy:Rat
instance:Inhabited Cu:=⟨⟨false,false,0,0,0,0,0,0⟩⟩
def farQ (a b c d:Rat):Rat:=(a-c)*(a-c)+(b-d)*(b-d)
def Cu.vld (c:Cu):Bool:=bif c.arc then decide (sgn (farQ c.ax c.ay c.zx c.zy).num>0)&&decide (farQ c.ax c.ay c.zx c.zy=farQ c.bx c.by' c.zx c.zy)else !(decide (c.ax=c.bx)&&decide (c.ay=c.by'))
def unL:List (Int×Int×Nat):=[(1,0,1),(3,4,5),(0,1,1),(-1,0,1),(0,-1,1),(4,3,5),(-3,4,5),(-4,3,5),(-4,-3,5),(-3,-4,5),(3,-4,5),(4,-3,5),(5,12,13),(12,5,13),(-5,12,13),(24,7,25)]
def unE (s:Nat):Int×Int×Nat:=unL.getD s (1,0,1)
def uX (s:Nat):Rat:=mkRat (unE s).1 (unE s).2.2
def uY (s:Nat):Rat:=mkRat (unE s).2.1 (unE s).2.2
def atQ (p:Int)(u:Int):Rat:=mkRat p ((u%4).toNat+1)
def Dr.cu (d:Dr):Cu:=
 bif d.arc then
  let zx:=atQ d.a0 d.un;let zy:=atQ d.a1 d.un;let ax:=atQ d.b0 d.un;let ay:=atQ d.b1 d.un
  let s:=(d.st%16).toNat
  ⟨true,d.cw,ax,ay,zx+((ax-zx)*uX s+ -(ay-zy)*uY s),zy+((ay-zy)*uX s+(ax-zx)*uY s),zx,zy⟩
 else⟨false,d.cw,atQ d.a0 d.un,atQ d.a1 d.un,atQ d.b0 d.un,atQ d.b1 d.un,0,0⟩
end Go.Geo
set_option maxHeartbeats 2000000
namespace Go.Proofs.YtaihcpdpmijifaaGreat
open Go Go.Eng Go.Geo
def nilK:V→Option V
 |.one (.ptr b off)=>some (.one (.ptr b off))
 |.one (.elt c wd i off)=>some (.one (.elt c wd i off))
 |.one (.eptr b wd i off)=>some (.one (.eptr b wd i off))
 |_=>none
theorem rOp_nilk {T:Tab}{P:Program}{e:List (Nat×V)}{o:List (Nat×Blk)}{x n:Nat}{K:Eff→Prop}{a:Operand}{nx id:Nat}{fz:Bool}:rOp T P (.nilCheck a) ⟨e,o,x,n⟩ nx id fz K=someP (nilK (St.ev ⟨e,o,x,n⟩ a)) (fun v=>K ⟨v,none,[]⟩):=by
 unfold rOp;simp only
 cases h:St.ev ⟨e,o,x,n⟩ a with
 |one c=>cases c<;>rfl
 |_=>rfl
theorem nilV_k {b off:Nat}:nilK (.one (.ptr b off))=some (.one (.ptr b off)):=rfl
def kB:Bk:=.var [.int .i64 0]
def kR (x:V)(r:V)(B:Bk):Prop:=r=x∧B=kB
theorem k_note:Mc Tryz.prog 185 [.one (.ptr 0 0),.one (.int .i64 0)] kB (kR (.tup [])):=by
 refine mw Tryz.func185 ⟨[0,1,8],[]⟩ ?_;simp only[Tryz.f185,Tryz.ntmps185,iz,seval];simp only[vx,T,seval,kB,WV,NV,QsC,rOp_nilk,nilV_k];exact⟨rfl,rfl⟩
theorem k_num (x:Rat):Mc Tryz.prog 179 [.one (.ptr 0 0),NV x,.one (.int .i64 0)] kB (kR (NV x)):=by
 have c1:=k_note;refine mw Tryz.func179 ⟨[0,1,2,4,6,11],[]⟩ ?_;simp only[Tryz.f179,Tryz.ntmps179,iz,seval];simp only[vx,T,seval,kB,WV,NV,QsC,rOp_nilk,nilV_k];refine Cm 0 (B:=kB) rfl rfl c1 ?_;rintro _ _ ⟨rfl,rfl⟩ _;simp only[vx,T,seval,kB,WV,NV,QsC,rOp_nilk,nilV_k];exact⟨rfl,rfl⟩
theorem k_vec (x y:Rat):Mc Tryz.prog 104 [.one (.ptr 0 0),WV x y,.one (.int .i64 0)] kB (kR (WV x y)):=by
 have c1:=k_note;refine mw Tryz.func104 ⟨[0,1,2,4,6,11],[]⟩ ?_;simp only[Tryz.f104,Tryz.ntmps104,iz,seval];simp only[vx,T,seval,kB,WV,NV,QsC,rOp_nilk,nilV_k];refine Cm 0 (B:=kB) rfl rfl c1 ?_;rintro _ _ ⟨rfl,rfl⟩ _;simp only[vx,T,seval,kB,WV,NV,QsC,rOp_nilk,nilV_k];exact⟨rfl,rfl⟩
theorem k_Minus (a b c d:Rat){B:Nat}(hB:B<2^28)(ha:Sm B a)(hb:Sm B b)(hc:Sm B c)(hd:Sm B d):Mc Tryz.prog 43 [.one (.ptr 0 0),WV a b,WV c d] kB (kR (WV (a-c) (b-d))):=by
 have c1:=r13Sub a b c d hB ha hb hc hd;have c2:=k_vec (a-c) (b-d);refine mw Tryz.func43 ⟨[0,1,2,4,5,6],[]⟩ ?_;simp only[Tryz.f43,Tryz.ntmps43,iz,seval];simp only[vx,T,seval,kB,WV,NV,QsC,rOp_nilk,nilV_k];refine Cg c1 ?_;simp only[vx,T,seval,kB,WV,NV,QsC,rOp_nilk,nilV_k];refine Cm 0 (B:=kB) rfl rfl c2 ?_;rintro _ _ ⟨rfl,rfl⟩ _;simp only[vx,T,seval,kB,WV,NV,QsC,rOp_nilk,nilV_k];exact⟨rfl,rfl⟩
theorem k_Plus (a b c d:Rat){B:Nat}(hB:B<2^28)(ha:Sm B a)(hb:Sm B b)(hc:Sm B c)(hd:Sm B d):Mc Tryz.prog 45 [.one (.ptr 0 0),WV a b,WV c d] kB (kR (WV (a+c) (b+d))):=by
 have c1:=r13Add a b c d hB ha hb hc hd;have c2:=k_vec (a+c) (b+d);refine mw Tryz.func45 ⟨[0,1,2,4,5,6],[]⟩ ?_;simp only[Tryz.f45,Tryz.ntmps45,iz,seval];simp only[vx,T,seval,kB,WV,NV,QsC,rOp_nilk,nilV_k];refine Cg c1 ?_;simp only[vx,T,seval,kB,WV,NV,QsC,rOp_nilk,nilV_k];refine Cm 0 (B:=kB) rfl rfl c2 ?_;rintro _ _ ⟨rfl,rfl⟩ _;simp only[vx,T,seval,kB,WV,NV,QsC,rOp_nilk,nilV_k];exact⟨rfl,rfl⟩
theorem k_Scale (a b n:Rat){B:Nat}(hB:B<2^28)(ha:Sm B a)(hb:Sm B b)(hn:Sm B n):Mc Tryz.prog 46 [.one (.ptr 0 0),WV a b,NV n] kB (kR (WV (a*n) (b*n))):=by
 have c1:=r13Scale a b n hB ha hb hn;have c2:=k_vec (a*n) (b*n);refine mw Tryz.func46 ⟨[0,1,2,4,5,6],[]⟩ ?_;simp only[Tryz.f46,Tryz.ntmps46,iz,seval];simp only[vx,T,seval,kB,WV,NV,QsC,rOp_nilk,nilV_k];refine Cg c1 ?_;simp only[vx,T,seval,kB,WV,NV,QsC,rOp_nilk,nilV_k];refine Cm 0 (B:=kB) rfl rfl c2 ?_;rintro _ _ ⟨rfl,rfl⟩ _;simp only[vx,T,seval,kB,WV,NV,QsC,rOp_nilk,nilV_k];exact⟨rfl,rfl⟩
theorem k_Square (a b:Rat){B:Nat}(hB:B<2^28)(ha:Sm B a)(hb:Sm B b):Mc Tryz.prog 98 [.one (.ptr 0 0),WV a b] kB (kR (NV (a*a+b*b))):=by
 have c1:=r13Square a b hB ha hb;have c2:=k_num (a*a+b*b);refine mw Tryz.func98 ⟨[0,1,3,4],[]⟩ ?_;simp only[Tryz.f98,Tryz.ntmps98,iz,seval];simp only[vx,T,seval,kB,WV,NV,QsC,rOp_nilk,nilV_k];refine Cg c1 ?_;simp only[vx,T,seval,kB,WV,NV,QsC,rOp_nilk,nilV_k];refine Cm 0 (B:=kB) rfl rfl c2 ?_;rintro _ _ ⟨rfl,rfl⟩ _;simp only[vx,T,seval,kB,WV,NV,QsC,rOp_nilk,nilV_k];exact⟨rfl,rfl⟩
theorem Sm.far {B:Nat}{a b c d:Rat}(ha:Sm B a)(hb:Sm B b)(hc:Sm B c)(hd:Sm B d):Sm (8*B+5) (farQ a b c d):=by
 have h1:=ha.sub hc;have h2:=hb.sub hd;exact((h1.mul h1).add (h2.mul h2)).mono (by omega)
theorem k_Far (a b c d:Rat){B:Nat}(hB:B<2^26)(ha:Sm B a)(hb:Sm B b)(hc:Sm B c)(hd:Sm B d):Mc Tryz.prog 99 [.one (.ptr 0 0),WV a b,WV c d] kB (kR (NV (farQ a b c d))):=by
 have c1:=k_Minus a b c d (by omega) ha hb hc hd;have c2:=k_Square (a-c) (b-d) (B:=B+B+1) (by omega) (ha.sub hc) (hb.sub hd);refine mw Tryz.func99 ⟨[0,1,2,4,5,6],[]⟩ ?_;simp only[Tryz.f99,Tryz.ntmps99,iz,seval];simp only[vx,T,seval,kB,WV,NV,QsC,rOp_nilk,nilV_k];refine Cm 0 (B:=kB) rfl rfl c1 ?_;rintro _ _ ⟨rfl,rfl⟩ _;simp only[vx,T,seval,kB,WV,NV,QsC,rOp_nilk,nilV_k];refine Cm 0 (B:=kB) rfl rfl c2 ?_;rintro _ _ ⟨rfl,rfl⟩ _;simp only[vx,T,seval,kB,WV,NV,QsC,rOp_nilk,nilV_k];exact⟨rfl,rfl⟩
end Go.Proofs.YtaihcpdpmijifaaGreat
namespace Go.Tw
open Go Go.Eng
theorem sgn_num (x:Rat):(if 0<x then 1 else if x<0 then-1 else 0:Int)=Go.Eng.sgn x.num:=by
 have h1:0≤x.num↔0≤x:=Rat.num_nonneg;have h2:x.num=0↔x=0:=Rat.num_eq_zero;unfold Go.Eng.sgn
 by_cases h0:x=0
 ·rw[if_pos (h2.2 h0),h0,if_neg (Rat.lt_irrefl),if_neg (Rat.lt_irrefl)]
 rw[if_neg (fun h=>h0 (h2.1 h))]
 by_cases hp:0≤x
 ·rw[if_pos (Rat.lt_of_le_of_ne hp (Ne.symm h0)),if_neg (by have:=h1.2 hp;omega)]
 rw[if_neg (fun h=>hp (Rat.le_of_lt h)),if_pos (Rat.not_le.1 hp),if_pos (by have:=mt h1.1 hp;omega)]
theorem sgnE_abs {h:Nat}{t:List El}:∀{a:El},-1≤sgnE h t a∧sgnE h t a≤1:=by
 induction h with
 |zero=>
  intro a;unfold sgnE
  split
  ·omega
  split<;>omega
 |succ h ih=>
  intro a;rw[sgnE]
  split
  ·exact ih
  split
  ·exact ih
  have h1:=@ih (a.take (2^h));have h2:=@ih (normE h t a);have e:∀x y:Int,-1≤x∧x≤1→ -1≤y∧y≤1→ -1≤x*y∧x*y≤1:=fun x y hx hy=>by
   have:x= -1∨x=0∨x=1:=by omega
   rcases this with rfl|rfl|rfl<;>omega
  exact e _ _ h1 h2
theorem norm_comm {h:Nat}{t:List El}(a:El):addE (mulE h t (a.take (2^h)) (a.take (2^h))) (negE (mulE h t (t.getD h []) (mulE h t (a.drop (2^h)) (a.drop (2^h)))))=normE h t a:=by
 unfold normE;rw[mulE_comm (t.getD h [])]
end Go.Tw
set_option maxHeartbeats 2000000
namespace Go.Proofs.YtaihcpdpmijifaaGreat
open Go Go.Eng
open Go.Tw (El addE negE zE mulE zE_len negE_len addE_len mulE_len QB MlB len_take len_drop normE normE_len NmB tB ratE ratE_len)
structure TQ (h:Nat) (t:List El):Prop where
 tk:Tk h t
 h6:h≤6
 q:∀i,i<h→QB tB (t.getD i [])
theorem TQ.le {h k:Nat}{t:List El}(W:TQ h t)(hk:k≤h):TQ k t:=⟨W.tk.le hk,by have:=W.h6;omega,fun i hi=>W.q i (by omega)⟩
theorem tSub_spec {h:Nat}{t:List El}(tk:Tk h t)(a b:El)(ha:a.length=2^h)(hb:b.length=2^h)(hq:Qk a)(hqb:Qk b):Pr Tryz.prog 154 [tV h t,eV a,eV b] (eV (addE a (negE b))):=by
 have hp:=pow_small tk.le8;have c:=tformed_spec tk a b ha hb hq hqb;have hqn:Qk (negE b):=fun x hx=>by
  obtain⟨y,hy,rfl⟩:=List.mem_map.1 hx;rw[Go.Tw.qm_neg];exact hqb y hy
 have d:=(tneg_spec b (by omega) hqb).rows;have e:=(tadd_spec a (negE b) (by omega) (by rw[negE_len];omega) hq hqn).rows;refine pw Tryz.func154 ⟨[0,1,2,6,11],[]⟩ ?_;simp only[Tryz.f154,Tryz.ntmps154,iz,seval];simp only[vx,T,seval,tV,tC,eV,QsC];refine Cg c ?_;simp only[vx,T,seval,tV,tC,eV,QsC];refine Cg d ?_;simp only[vx,T,seval,tV,tC,eV,QsC];refine Cg e ?_;simp only[vx,T,seval,tV,tC,eV,QsC];exact Ve rfl
theorem set_rat (h:Nat)(q:Rat)(k j:Nat)(hj:j<4):
  setElt (fQ (zE (2^h))) 0 0 [C.bool (zs q.num),C.ints .u32 (zm q.num),C.bool (zs (q.den:Int)),C.ints .u32 (zm (q.den:Int))] k j=fQ (ratE h q) k j:=by
 have hp:0<2^h:=Nat.pow_pos (by decide);unfold setElt
 by_cases hk:k=0
 ·subst hk;rw[if_pos rfl,if_pos (O2 _),if_pos (by simpa using hj),Nat.sub_zero];exact fQ_cells q rfl j
 rw[if_neg hk];unfold fQ ratE
 congr 1
 rw[X7,X7,List.getElem?_cons,if_neg hk];unfold zE;rw[List.getElem?_replicate,List.getElem?_replicate]
 by_cases h2:k<2^h
 ·rw[if_pos h2,if_pos (by omega)]
 rw[if_neg h2,if_neg (by omega)]
theorem tFromRat_spec {h:Nat}{t:List El}(tk:Tk h t)(q:Rat)(hq:qm q<2^38):Pr Tryz.prog 330 [tV h t,QV q] (eV (ratE h q)):=by
 have c:=radicands_spec tk;have d:=iQValid_Q q (by omega);have hp:=pow_small tk.le8;have z:=zeros_spec (2^h) hp;have w:=shl_pow tk.le8;have hz:(zE (2^h)).length=2^h:=zE_len;have hp0:0<2^h:=Nat.pow_pos (by decide);refine pw Tryz.func330 ⟨[0,1,3,4,5,13],[]⟩ ?_;simp only[Tryz.f330,Tryz.ntmps330,iz,seval];simp only[vx,T,seval,tV,tC,QV,QC];refine Cg c ?_;simp only[vx,T,seval,tV,tC];refine Cg d ?_;simp only[vx,T,seval,tV,tC,w];refine⟨Int.natCast_nonneg _,CallK.fresh z ?_⟩;simp only[vx,T,seval,tV,tC,QV,QC];exact⟨by omega,VLe.cell (CLe.rows (by rw[hz,Go.Tw.ratE_len]) (fun i j _ hj=>CLe.of_eq (set_rat h q i j hj)))⟩
end Go.Proofs.YtaihcpdpmijifaaGreat
