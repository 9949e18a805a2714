/-
  MatrixImage: for every input the law returns true, and each argument reads afterwards as it read before. No condition beyond the cells of the given rows.
  (Text 6 of 9; made by a program out of smaller texts.)
-/
import Derived.WalkKit
import Derived.Lib.AppendZerosOnto
import Derived.Lib.Walk
import Derived.Test.YthnkehdgnagmnaaGreatP5
set_option linter.unusedSimpArgs false
set_option linter.unusedVariables false
set_option maxHeartbeats 16000000
set_option maxRecDepth 10000
open Nat renaming reduceAdd→J1,reduceMul→J2,reduceSub→J3,reduceEqDiff→J4,reduceLT→J5,reduceLeDiff→J6,reduceBEq→J7,reduceDiv→J8,reduceMod→J9,reducePow→J0
open Int renaming reduceToNat→K1,reduceLE→K2,reduceLT→K3,reduceEq→K4,reducePow→K5,reduceSub→K6,reduceNeg→K7,natCast_add→X2,natCast_one→X3,natCast_zero→X4
open List renaming getD_cons_zero→X0,getD_cons_succ→X1,length_take→X5,length_append→X6,getD_eq_getElem?_getD→X7,getElem?_eq_getElem→X8
namespace Go.Proofs.YthnkehdgnagmnaaGreat
open Go.Proofs.Tryz
open Go Go.Eng
open Go.Tw (El aB aJ zE ai ar aq ao ae QB mS ah ag)
theorem dj (a:El)(hl:a.length<2^38)(hq:Qk a):Pr prog 175 [eV a] (.one (.bool (decide (a=zE a.length)))):=by
 have hc:=vT 202 (fun q=>decide (q≠0)) a hl (fun i hi=>CG _ (Nat.lt_trans (hq.get i) (by decide)));refine pw func175 ⟨[0,2],[]⟩ ?_;simp only[Tryz.f175,ntmps175,iz,seval];simp only[vx,T,seval,eV,aa];refine Cg hc ?_;simp only[vx,T,seval];refine vb ?_;rw[Bool.eq_iff_iff,Bool.not_eq_true',List.any_eq_false,decide_eq_true_eq]
 constructor
 ·intro h;refine List.eq_replicate_iff.2 ⟨rfl,fun b hb=>?_⟩
  have:=h b hb
  simpa using this
 intro h b hb;rw[h]at hb
 have:=List.eq_of_mem_replicate hb
 simp[this]
theorem dB {h:Nat}{t:List El}(tk:Tk h t)(a:El)(ha:a.length=2^h)(hq:Qk a):Pr prog 113 [tV h t,eV a] (.one (.bool true)):=by
 have hs:=dL tk.le8;have hn:=lO a (2^h) ha (aN tk.le8) hq;have hr:=jI tk;refine pw func113 ⟨[0,1,4],[]⟩ ?_;simp only[Tryz.f113,ntmps113,iz,seval];simp only[vx,T,seval,tV,tC,eV,aa];refine Cg hr ?_;simp only[vx,T,seval,hs];refine⟨Int.natCast_nonneg _,Cg hn ?_⟩;simp only[vx,T,seval];exact Ve rfl
theorem lK {h:Nat}{t:List El}(tk:Tk h t)(a b:El)(ha:a.length=2^h)(hb:b.length=2^h)(hq:Qk a)(S8:Qk b):Pr prog 183 [tV h t,eV a,eV b] (.one (.bool true)):=by
 have hs:=dL tk.le8;have hn:=lO b (2^h) hb (aN tk.le8) S8;have hr:=dB tk a ha hq;refine pw func183 ⟨[0,1,2,6],[]⟩ ?_;simp only[Tryz.f183,ntmps183,iz,seval];simp only[vx,T,seval,tV,tC,eV,aa];refine Cg hr ?_;simp only[vx,T,seval,hs];refine⟨Int.natCast_nonneg _,Cg hn ?_⟩;simp only[vx,T,seval];exact Ve rfl
theorem mo {h:Nat}{t:List El}(hh:h<2^38):Pr prog 207 [tV (h+1) t] (.aF [tV h t,eV (t.getD h [])]):=by
 have w1:IntKind.i64.wrap (((h+1:Nat):Int)-1)=(h:Int):=by rw[IntWalk.i64_in _ (by omega)];omega
 refine pw func207 ⟨[0,2,3],[(1,.nil)]⟩ ?_;simp only[Tryz.f207,ntmps207,iz,seval];simp only[vx,T,seval,tV,tC,aa,w1];exact⟨by omega,by omega,Ve rfl⟩
theorem C5 {a:El}{n i:Nat}(h:i<n)(j:Nat):fQ a i j=fQ (a.take n) i j:=by
 unfold fQ;rw[X7,X7,List.getElem?_take_of_lt h]
theorem CS {a:El}{n:Nat}(i j:Nat):fQ a (n+i) j=fQ (a.drop n) i j:=by
 unfold fQ;rw[X7,X7,List.getElem?_drop]
theorem iW {h:Nat}(hh:h<38){a:El}(ha:a.length=2^(h+1)):Pr prog 208 [eV a] (.aF [eV (a.take (2^h)),eV (a.drop (2^h))]):=by
 have hp:2^h<2^38:=Nat.pow_lt_pow_right (by decide) hh;obtain⟨n,hn⟩:∃n,n=2^h:=⟨_,rfl⟩;have RT:a.length=2*n:=by rw[ha,Nat.pow_succ,hn];omega
 rw[←hn]at hp⊢;have w1:IntKind.i64.wrap (((a.length:Nat):Int).tdiv 2)=(n:Int):=by
  rw[RT,Int.tdiv_eq_ediv_of_nonneg (by omega),IntWalk.i64_in _ (by omega)];omega
 refine pw func208 ⟨[0,2,3],[(1,.nil)]⟩ ?_;simp only[Tryz.f208,ntmps208,iz,seval];simp only[vx,T,seval,eV,aa,w1];refine⟨by omega,by omega,Va ⟨⟨rfl,by rw[X5];omega,fun i j hi _=>C5 hi j⟩,⟨rfl,by rw[List.length_drop];omega,fun i j hi _=>CS i j⟩,trivial⟩⟩
open Go Go.Eng
open Go.Tw (El aB aJ zE ai ar aq ao ae QB mS ah ag)
theorem lD (a b:El)(i j:Nat):(if i<a.length then fQ a i j else fQ b (i-a.length) j)=fQ (a++b) i j:=by
 unfold fQ
 by_cases h:i<a.length
 ·rw[if_pos h,X7,X7,List.getElem?_append_left h]
 rw[if_neg h,X7,X7,List.getElem?_append_right (by omega)]
theorem AL {a b:El}{t:List El}(ha:a.length=2^0)(hb:b.length=2^0)(qa:Qk a)(qb:Qk b):
  Fr prog 184 [tV 0 t,eV a,eV b] (.rows 62 4 (ai 0 t a b).length (fQ (ai 0 t a b))):=by
 have Uw:=qa.get 0;have V1:=qb.get 0;have em:ai 0 t a b=[a.getD 0 default*b.getD 0 default]:=rfl;obtain⟨x,hx⟩:∃x,x=a.getD 0 default:=⟨_,rfl⟩;obtain⟨y,hy⟩:∃y,y=b.getD 0 default:=⟨_,rfl⟩;rw[←hx,←hy]at em;rw[←hx]at Uw;rw[←hy]at V1;refine fw func184 ⟨[0,1,2,6,7,8,9,10,11,12,13,14,26],[]⟩ ?_;simp only[Tryz.f184,ntmps184,iz,seval];simp only[vx,T,seval,tV,tC,eV,aa,←hx,←hy,qC];refine⟨by omega,by omega,Cg (Ba x y Uw V1) ?_⟩;simp only[vx,T,seval,QV,QC];rw[em];refine⟨rfl,rfl,rfl,fun i j hi hj=>?_⟩;obtain rfl:i=0:=by omega
 show List.getD _ (0*4+j) _=_;rw[Nat.zero_mul,Nat.zero_add];exact dx (x*y) rfl j
theorem tu {a b:El}{h:Nat}{t:List El}(hh:h+1<38)(ha:a.length=2^(h+1))(hb:b.length=2^(h+1))(qa:Qk a)(qb:Qk b)(hz:a=zE (2^(h+1))∨b=zE (2^(h+1))):
  Fr prog 184 [tV (h+1) t,eV a,eV b] (.rows 62 4 (ai (h+1) t a b).length (fQ (ai (h+1) t a b))):=by
 have hp:2^(h+1)<2^38:=Nat.pow_lt_pow_right (by decide) hh;have em:ai (h+1) t a b=zE a.length:=by
  rw[ha]
  rcases hz with rfl|rfl
  ·exact Go.Tw.bG
  exact Go.Tw.gr
 rw[em];have ca:=dj a (by omega) qa;have cb:=dj b (by omega) qb;have cz:=oO a.length (by omega);obtain⟨za,XD⟩:∃za,za=decide (a=zE a.length):=⟨_,rfl⟩;rw[←XD]at ca;refine fw func184 ⟨[0,1,2,6,7,8,9,10,11,12,13,14,26],[]⟩ ?_;simp only[Tryz.f184,ntmps184,iz,seval];simp only[vx,T,seval,tV,tC,eV,aa];refine⟨fun h=>absurd h (by omega),fun _=>Lg ?_⟩;simp only[vx,T,seval,tV,tC,eV,aa];refine Cg ca ?_
 cases za with
 |true=>
  simp only[vx,T,seval];refine cH.fresh cz ?_;simp only[vx,T,seval];exact⟨rfl,rfl,fun _ _ _ _=>rfl⟩
 |false=>
  have Yj:b=zE b.length:=by
   rcases hz with rfl|rfl
   ·exact absurd XD (by rw[ar,decide_eq_true rfl];decide)
   rw[ar]
  rw[decide_eq_true Yj]at cb;simp only[vx,T,seval];refine Cg cb ?_;simp only[vx,T,seval];refine cH.fresh cz ?_;simp only[vx,T,seval];exact⟨rfl,rfl,fun _ _ _ _=>rfl⟩
theorem Bd {t:List El}{C:Nat}(hC:1≤C){h:Nat}(ih:∀{a b:El} {A B:Nat},1≤A→1≤B→a.length=2^h→b.length=2^h→QB A a→QB B b→mS h (A+B) C<2^38→
  Fr prog 184 [tV h t,eV a,eV b] (.rows 62 4 (ai h t a b).length (fQ (ai h t a b)))) {a b:El} {A B:Nat} (tk:Tk (h+1) t) (ht:∀i,i<h+1→QB C (t.getD i [])) (h1:1≤A) (h2:1≤B) (ha:a.length=2^(h+1)) (hb:b.length=2^(h+1)) (qa:QB A a) (qb:QB B b) (hs:mS (h+1) (A+B) C<2^38) (nza:a≠zE (2^(h+1))) (nzb:b≠zE (2^(h+1))):
  Fr prog 184 [tV (h+1) t,eV a,eV b] (.rows 62 4 (ai (h+1) t a b).length (fQ (ai (h+1) t a b))):=by
 have hh:=tk.le8;have hp:2^(h+1)<2^38:=Nat.pow_lt_pow_right (by decide) (by omega);have S1:=Go.Tw.il (h:=h) (S:=A+B) (C:=C);have XC:=Go.Tw.il (h:=h) (S:=mS h (A+B) C+C) (C:=C);rw[mS]at hs;have qka:Qk a:=.of qa (by omega);have qkb:Qk b:=.of qb (by omega);have ca:=dj a (by omega) qka;have cb:=dj b (by omega) qkb;rw[ha,decide_eq_false nza]at ca;rw[hb,decide_eq_false nzb]at cb;have cs:=mo (h:=h) (t:=t) (by omega);have cx:=iW (h:=h) (by omega) ha;have cy:=iW (h:=h) (by omega) hb;have Sg:=ah ha;have Sd:=ag ha;have Yk:=ah hb;have W5:=ag hb;have SO:∀i,i<h→QB C (t.getD i []):=fun i hi=>ht i (by omega);have m1:=ih h1 h2 Sg Yk (qa.take _) (qb.take _) (by omega);have m2:=ih h1 h2 Sd W5 (qa.drop _) (qb.drop _) (by omega);have g1:=QB.mul hC SO h1 h2 (qa.take (2^h)) (qb.take (2^h));have g2:=QB.mul hC SO h1 h2 (qa.drop (2^h)) (qb.drop (2^h));have g3:=QB.mul hC SO h1 h2 (qa.take (2^h)) (qb.drop (2^h));have g4:=QB.mul hC SO h1 h2 (qa.drop (2^h)) (qb.take (2^h));have m5:=ih (by omega) hC ae (tk.len h (by omega)) g2 (ht h (by omega)) (by omega);have g5:=QB.mul hC SO (by omega) hC g2 (ht h (by omega));have m3:=ih h1 h2 Sg W5 (qa.take _) (qb.drop _) (by omega);have m4:=ih h1 h2 Sd Yk (qa.drop _) (qb.take _) (by omega);have hph:2^h<2^38:=Nat.pow_lt_pow_right (by decide) (by omega);have a1:=kN _ _ (by rw[ae];omega) (by rw[ae,ae]) (Qk.of g1 (by omega)) (Qk.of g5 (by omega));have a2:=kN _ _ (by rw[ae];omega) (by rw[ae,ae]) (Qk.of g3 (by omega)) (Qk.of g4 (by omega));clear g1 g2 g3 g4 g5 ih;obtain⟨x,hx⟩:∃x,x=a.take (2^h):=⟨_,rfl⟩;obtain⟨y,hy⟩:∃y,y=a.drop (2^h):=⟨_,rfl⟩;obtain⟨u,hu⟩:∃u,u=b.take (2^h):=⟨_,rfl⟩;obtain⟨v,hv⟩:∃v,v=b.drop (2^h):=⟨_,rfl⟩;obtain⟨r,hr⟩:∃r,r=t.getD h []:=⟨_,rfl⟩;rw[←hr]at cs m5 a1;rw[←hx,←hy]at cx;rw[←hu,←hv]at cy;rw[←hx,←hu]at m1;rw[←hy,←hv]at m2 m5;rw[←hx,←hv]at m3;rw[←hy,←hu]at m4;rw[←hx,←hu,←hy,←hv]at a1;rw[←hx,←hv,←hy,←hu]at a2;have em:ai (h+1) t a b=aB (ai h t x u) (ai h t (ai h t y v) r)++aB (ai h t x v) (ai h t y u):=by rw[hx,hy,hu,hv,hr,Go.Tw.ai]
 rw[em];obtain⟨p1,TK⟩:∃p,p=ai h t x u:=⟨_,rfl⟩;obtain⟨p2,Tp⟩:∃p,p=ai h t y v:=⟨_,rfl⟩;rw[←Tp]at m2 m5 a1⊢;obtain⟨p5,XE⟩:∃p,p=ai h t p2 r:=⟨_,rfl⟩;obtain⟨p3,UP⟩:∃p,p=ai h t x v:=⟨_,rfl⟩;obtain⟨p4,XF⟩:∃p,p=ai h t y u:=⟨_,rfl⟩;rw[←TK]at m1 a1⊢;rw[←XE]at m5 a1⊢;rw[←UP]at m3 a2⊢;rw[←XF]at m4 a2⊢;obtain⟨s1,Ux⟩:∃p,p=aB p1 p5:=⟨_,rfl⟩;obtain⟨s2,TX⟩:∃p,p=aB p3 p4:=⟨_,rfl⟩;have l1:s1.length=2^h:=by rw[Ux];exact ao (by rw[TK,ae]) (by rw[XE,ae])
 have l2:s2.length=2^h:=by rw[TX];exact ao (by rw[UP,ae]) (by rw[XF,ae])
 rw[←Ux]at a1⊢;rw[←TX]at a2⊢;refine fw func184 ⟨[0,1,2,6,7,8,9,10,11,12,13,14,26],[]⟩ ?_;simp only[Tryz.f184,ntmps184,iz,seval];simp only[vx,T,seval,tV,tC,eV,aa];refine⟨fun h=>absurd h (by omega),fun _=>Lg ?_⟩;simp only[vx,T,seval,tV,tC,eV,aa];refine Cg ca ?_;simp only[vx,T,seval];refine Cg cb ?_;simp only[vx,T,seval];refine Cg cs ?_;simp only[vx,T,seval,tV,tC,eV,aa];refine Cg cx ?_;simp only[vx,T,seval,tV,tC,eV,aa];refine Cg cy ?_;simp only[vx,T,seval,tV,tC,eV,aa];refine Cg m1.rows ?_;simp only[vx,T,seval,tV,tC,eV,aa];refine Cg m2.rows ?_;simp only[vx,T,seval,tV,tC,eV,aa];refine Cg m5.rows ?_;simp only[vx,T,seval,tV,tC,eV,aa];refine cH.fresh a1 ?_;simp only[vx,T,seval,tV,tC,eV,aa];refine Cg m3.rows ?_;simp only[vx,T,seval,tV,tC,eV,aa];refine Cg m4.rows ?_;simp only[vx,T,seval,tV,tC,eV,aa];refine Cg a2.rows ?_;simp only[vx,T,seval,tV,tC,eV,aa];exact⟨⟨by omega,by omega⟩,List.length_append.symm,rfl,List.length_append.symm,fun i j _ _=>lD s1 s2 i j⟩
theorem kO {t:List El}{C:Nat}(hC:1≤C):∀{h:Nat} {a b:El} {A B:Nat},Tk h t→(∀i,i<h→QB C (t.getD i []))→1≤A→1≤B→a.length=2^h→b.length=2^h→QB A a→QB B b→mS h (A+B) C<2^38→
  Fr prog 184 [tV h t,eV a,eV b] (.rows 62 4 (ai h t a b).length (fQ (ai h t a b))):=by
 intro h
 induction h with
 |zero=>
  intro a b A B _ _ h1 h2 ha hb qa qb hs
  have:A+B<2^38:=hs
  exact AL ha hb (.of qa (by omega)) (.of qb (by omega))
 |succ h ih=>
  intro a b A B tk ht h1 h2 ha hb qa qb hs;have hh:=tk.le8;have S1:=Go.Tw.il (h:=h+1) (S:=A+B) (C:=C)
  by_cases za:a=zE (2^(h+1))
  ·exact tu (by omega) ha hb (.of qa (by omega)) (.of qb (by omega)) (.inl za)
  by_cases zb:b=zE (2^(h+1))
  ·exact tu (by omega) ha hb (.of qa (by omega)) (.of qb (by omega)) (.inr zb)
  exact Bd hC (fun{a b A B} g1 g2 g3 g4 g5 g6 g7=>ih (tk.le (Nat.le_succ h)) (fun i hi=>ht i (by omega)) g1 g2 g3 g4 g5 g6 g7) tk ht h1 h2 ha hb qa qb hs za zb
open Go Go.Eng
open Go.Tw (El aB aJ zE ai ar aq ao ae QB mS ah ag)
theorem fT.cell {c c':C}(h:dK c c'):fT (.one c) (.one c'):=fun ok w v hr=>aA.bh (h ok w v (aO.dV hr))
theorem fT.Pu {a a' b b':C}(h1:dK a a')(h2:dK b b'):fT (.agg [a,b]) (.agg [a',b']):=by
 intro ok w v hr;obtain⟨vs,e,hl⟩:=hr;refine⟨vs,e,?_⟩
 generalize vs.toList=l at hl⊢
 match l,hl with
 |[x,y],⟨k1,k2,_⟩=>exact⟨aA.bh (h1 ok w x (aO.dV k1)),aA.bh (h2 ok w y (aO.dV k2)),trivial⟩
theorem Dl {a b:Int}:eL a b=0↔a=b:=by unfold eL;split;omega;split<;>omega
theorem GH {a b:Int}(h:¬bQ a=bQ b):eL (bQ a) (bQ b)=eL a b:=by
 unfold bQ eL at*;(repeat' split)<;>(repeat' split at h)<;>first|omega|rfl
theorem Nf {a b:Int}(h:bQ a=bQ b):IntKind.i64.wrap (bQ a*eL (a.natAbs:Int) (b.natAbs:Int))=eL a b:=by
 have e:bQ a*eL (a.natAbs:Int) (b.natAbs:Int)=eL a b:=by
  rcases Int.lt_trichotomy a 0 with h0|h0|h0
  ·have e1:bQ a= -1:=by unfold bQ;rw[if_neg (by omega),if_pos h0]
   have e2:b<0:=by rw[e1]at h;unfold bQ at h;(repeat' split at h)<;>omega
   rw[e1];unfold eL;(repeat' split)<;>omega
  ·have e1:bQ a=0:=by unfold bQ;rw[if_pos h0]
   have e2:b=0:=by rw[e1]at h;unfold bQ at h;(repeat' split at h)<;>omega
   rw[e1];unfold eL;(repeat' split)<;>omega
  have e1:bQ a=1:=by unfold bQ;rw[if_neg (by omega),if_neg (by omega)]
  have e2:0<b:=by rw[e1]at h;unfold bQ at h;(repeat' split at h)<;>omega
  rw[e1];unfold eL;(repeat' split)<;>omega
 rw[e];refine IntWalk.i64_in _ ?_
 unfold eL;(repeat' split)<;>omega
theorem qA (a b:Int)(ha:zn a<2^42)(hb:zn b<2^42):Pr prog 217 [ZV a,ZV b] (.one (.int .i64 (eL a b))):=by
 have ca:=fR a ha;have cb:=fR b hb;have ta:=fO a (by omega);have tb:=fO b (by omega);refine pw func217 ⟨[0,1,2,3,4,5,6,13],[]⟩ ?_;simp only[Tryz.f217,ntmps217,iz,seval];simp only[vx,T,seval,ZV];refine Cg ca ?_;simp only[vx,T,seval,ZV];refine Cg cb ?_;simp only[vx,T,seval,ZV];refine⟨fun g=>Lg ?_,fun g=>Lg ?_⟩
 ·simp only[vx,T,seval,ZV];refine Cg (ky _ _) ?_;simp only[vx,T,seval,ZV];exact Ve (by rw[GH g])
 simp only[vx,T,seval,ZV];refine Cg ta ?_;simp only[vx,T,seval,ZV];refine Cg tb ?_;simp only[vx,T,seval,ZV];refine Cg (g9 a.natAbs b.natAbs (by unfold zn at ha;omega) (by unfold zn at hb;omega)) ?_;simp only[vx,T,seval,ZV];exact Ve (by rw[Nf g])
theorem pA (q:Rat)(hq:qm q<2^40):Pr prog 140 [QV q] (QV q):=by
 have c1:=jX (zm q.num) (by unfold qm at hq;rw[aT];omega);have c2:=jX (zm (q.den:Int)) (by unfold qm at hq;rw[aT,aC];omega);refine pw func140 ⟨[0,1,2],[]⟩ ?_;simp only[Tryz.f140,ntmps140,iz,seval];simp only[vx,T,seval,QV,QC];refine Cg c1 ?_;simp only[vx,T,seval];refine Cg c2 ?_;simp only[vx,T,seval];exact Ve rfl
theorem oi (a:El)(hl:a.length<2^38)(hq:Qk a):Fr prog 112 [eV a] (.rows 62 4 a.length (fQ a)):=by
 refine fw func112 ⟨[0,2,3,4,5,9,10,11,12],[]⟩ ?_;simp only[Tryz.f112,ntmps112,iz,seval];simp only[vx,T,seval,eV,aa];refine⟨by omega,Lk (fun y:{i:Nat//i≤a.length}=>⟨[(0,eV a),(3,.one (.own 1 4 0 a.length)),(9,eV a),(10,.one (.int .i64 a.length)),(11,.one (.int .i64 y.1))],[(1,⟨.rows 62 4 a.length (wQ a y.1),true⟩)],2,23⟩) (fun y=>a.length-y.1) ⟨0,Nat.zero_le _⟩ ?_ (fun⟨i,hi⟩=>?_)⟩
 ·refine Sa ?_;simp only[ry,seval,rz,eV,aa];exact fun i j _ _=>sE _ i j
 have i1:=wI i (by omega);simp only[vx,T,seval,eV,aa];refine⟨fun h1=>Lg ?_,fun h1=>Lg ?_⟩
 ·have RG:i<a.length:=by omega
  have Uw:=hq.get i;obtain⟨x,hx⟩:∃x,x=a.getD i default:=⟨_,rfl⟩;rw[←hx]at Uw;simp only[vx,T,seval,eV,aa,←hx,qC];refine⟨by omega,Cg (pA x (by omega)) ?_⟩;simp only[vx,T,seval,QV,QC];simp only[i1];refine⟨by omega,Lq ⟨i+1,by omega⟩ ?_ ?_⟩
  ·refine Sa ?_;simp only[ry,seval,rz,eV,aa];exact fun k j _ hj=>yf _ hx.symm k j hj
  simp only;omega
 have RG:i=a.length:=by omega
 subst RG;simp only[vx,T,seval];exact xz rfl
theorem rp (a:El)(hl:a.length<2^38):Pr prog 172 [eV a] (eV a):=by
 refine pw func172 ⟨[0,2,4],[]⟩ ?_;simp only[Tryz.f172,ntmps172,iz,seval];simp only[vx,T,seval,eV,aa];intro b hb;refine Lg ?_;simp only[vx,T,seval];refine⟨fun g=>Lg ?_,fun g=>Lg ?_⟩
 ·simp only[vx,T,seval];have h0:a=[]:=by
   cases a with
   |nil=>rfl
   |cons x xs=>have:=hb (by simp);rw[this]at g;cases g
  subst h0;exact fT.cell (.pM _ _)
 simp only[vx,T,seval];exact⟨⟨by omega,by omega⟩,fT.refl _⟩
def nV (h:Nat)(t:List El)(a:El):V:=.agg [tC h t,aa a]
theorem uQ (q:Rat)(hq:qm q<2^40)(t:List El):Pr prog 103 [QV q] (nV 0 t [q]):=by
 have c:=pA q hq;refine pw func103 ⟨[0,1,2],[]⟩ ?_;simp only[Tryz.f103,ntmps103,iz,seval];simp only[vx,T,seval,QV,QC];refine Cg c ?_;simp only[vx,T,seval,QV,QC];refine fT.Pu (.pM _ _) (.rows rfl fun i j hi hj=>.of_eq ?_);obtain rfl:i=0:=by omega
 show List.getD _ (0*4+j) _=_;rw[Nat.zero_mul,Nat.zero_add];exact dx q rfl j
open Go Go.Eng
open Go.Tw (El aB aJ zE ai ar aq ao ae QB mS ah ag)
def JQ (a b:Rat):Int:=eL (a.num*b.den) (b.num*a.den)
theorem lC {a:Int}{n:Nat}(h:0<n):bQ (a*n)=bQ a:=by
 rcases Int.lt_trichotomy a 0 with h0|h0|h0
 ·have:a*n<0:=Int.mul_neg_of_neg_of_pos h0 (by omega)
  unfold bQ;rw[if_neg (by omega),if_pos this,if_neg (by omega),if_pos h0]
 ·subst h0;rw[Int.zero_mul]
 have:0<a*n:=Int.mul_pos h0 (by omega)
 unfold bQ;rw[if_neg (by omega),if_neg (by omega),if_neg (by omega),if_neg (by omega)]
theorem Db {a b:Rat}(h:¬bQ a.num=bQ b.num):eL (bQ a.num) (bQ b.num)=JQ a b:=by
 unfold JQ;rw[←lC (a:=a.num) b.den_pos,←lC (a:=b.num) a.den_pos];rw[←lC (a:=a.num) b.den_pos,←lC (a:=b.num) a.den_pos]at h;exact GH h
theorem Br (a b:Rat)(ha:qm a<2^38)(hb:qm b<2^38):Pr prog 196 [QV a,QV b] (.one (.int .i64 (JQ a b))):=by
 have ca:=ka a (by omega);have cb:=ka b (by omega);have na:zn a.num<2^38∧nl a.den<2^38:=by unfold qm at ha;omega
 have nb:zn b.num<2^38∧nl b.den<2^38:=by unfold qm at hb;omega
 have ma:=bM a.num (b.den:Int) (by omega) (by rw[aC];omega);have mb:=bM b.num (a.den:Int) (by omega) (by rw[aC];omega);have e1:=cQ a.num (b.den:Int);have e2:=cQ b.num (a.den:Int);rw[aC]at e1 e2;have cc:=qA (a.num*b.den) (b.num*a.den) (by omega) (by omega);refine pw func196 ⟨[0,1,2,3,4,5,6,13,16],[]⟩ ?_;simp only[Tryz.f196,ntmps196,iz,seval];simp only[vx,T,seval,QV,QC];refine Cg ca ?_;simp only[vx,T,seval,QV,QC];refine Cg cb ?_;simp only[vx,T,seval,QV,QC];refine⟨fun g=>Lg ?_,fun g=>Lg ?_⟩
 ·simp only[vx,T,seval,QV,QC];refine⟨fun g2=>Lg ?_,fun g2=>Lg ?_⟩
  ·simp only[vx,T,seval,QV,QC];exact Ve (by rw[←Db g,gW g2])
  simp only[vx,T,seval,QV,QC];exact Ve (by rw[←Db g,jc (by omega)])
 simp only[vx,T,seval,QV,QC];refine Cg ma ?_;simp only[vx,T,seval,ZV];refine Cg mb ?_;simp only[vx,T,seval,ZV];refine Cg cc ?_;simp only[vx,T,seval,ZV];exact Ve rfl
end Go.Proofs.YthnkehdgnagmnaaGreat
namespace Go.Eng
open Go
end Go.Eng
namespace Go.Eng
open Go
theorem Ig {z:Int}(h:z.natAbs<18446744073709551616):qm (Rat.ofInt z)≤2:=by
 have h1:zn z≤2:=aD (by unfold BB;omega);have h2:nl 1≤1:=aD (by decide);unfold qm;rw[Rat.ofInt_num,Rat.ofInt_den];omega
end Go.Eng
namespace Go.Eng
open Go
theorem nK {n:Nat}{f:Nat→Bool}:(List.range n).all f=true↔∀i,i<n→f i=true:=by
 simp[List.all_eq_true]
theorem rE {n:Nat}{f:Nat→Bool}{i:Nat}(h:i<n)(hf:f i=false):(List.range n).all f=false:=by
 cases hr:(List.range n).all f with
 |false=>rfl
 |true=>have:=nK.1 hr i h;rw[hf]at this;cases this
end Go.Eng
namespace Go.Proofs.YthnkehdgnagmnaaGreat
open Go.Proofs.Tryz
open Go Go.Eng
open Go.Tw (El aB aJ zE ai ar aq ao ae QB mS ah ag)
def HE (n m:Nat)(p:Nat→Bool):Bool:=decide (n=m)&&(List.range n).all p
theorem GX {n m:Nat}{p:Nat→Bool}(h:¬(n:Int)=m):HE n m p=false:=by unfold HE;rw[decide_eq_false (by omega),Bool.false_and]
theorem HV (f:FuncId)(p:Nat→Bool)(xs ys:List Rat)(hl:xs.length<2^38)(hf:∀i,i<xs.length→Pr prog f [QV (xs.getD i default),QV (ys.getD i default)] (.one (.bool (p i)))):
  Pr prog 194 [eV xs,eV ys,.one (.fn f 0 (fun _=>.any))] (.one (.bool (HE xs.length ys.length p))):=by
 refine pw func194 ⟨[0,1,2,6,7,8,9,14,15,16,17,18,30],[]⟩ ?_;simp only[Tryz.f194,ntmps194,iz,seval];simp only[vx,T,seval,eV,aa];refine⟨fun g=>Lg ?_,fun g=>Lg ?_⟩
 ·simp only[vx,T,seval];exact vb (GX g).symm
 have hxy:xs.length=ys.length:=by omega
 simp only[vx,T,seval,eV,aa];refine Lk (fun y:{i:Nat//i≤xs.length∧∀k,k<i→p k=true}=>⟨[(1,eV ys),(2,.one (.fn f 0 (fun _=>.any))),(15,eV xs),(16,.one (.int .i64 xs.length)),(17,.one (.int .i64 y.1))],[],1,32⟩) (fun y=>xs.length-y.1) ⟨0,Nat.zero_le _,fun k h=>absurd h (Nat.not_lt_zero _)⟩ ?_ (fun⟨i,hi,hz⟩=>?_)
 ·refine Sa ?_;simp only[ry,seval,rz,eV,aa]
 have i1:=wI i (by omega);simp only[vx,T,seval,eV,aa];refine⟨fun h1=>Lg ?_,fun h1=>Lg ?_⟩
 ·have Vm:=hf i (by omega);obtain⟨a,ha⟩:∃a,a=xs.getD i default:=⟨_,rfl⟩;obtain⟨b,hb⟩:∃b,b=ys.getD i default:=⟨_,rfl⟩;rw[←ha,←hb]at Vm;simp only[vx,T,seval,eV,aa,←ha,←hb,qC];refine⟨by omega,by omega,Cg Vm ?_⟩;simp only[vx,T,seval];refine⟨fun h2=>Lg ?_,fun h2=>Lg ?_⟩
  ·simp only[vx,T,seval];have h2:p i=false:=by simpa using h2
   exact vb (by unfold HE;rw[rE (by omega) h2,Bool.and_false])
  simp only[vx,T,seval];simp only[i1];refine Lq ⟨i+1,by omega,fun k hk=>?_⟩ ?_ ?_
  ·by_cases h3:k<i
   ·exact hz k h3
   rw[show k=i by omega];simpa using h2
  ·refine Sa ?_;simp only[ry,seval,rz,eV,aa]
  simp only;omega
 simp only[vx,T,seval];exact vb (by unfold HE;rw[decide_eq_true hxy,Bool.true_and];exact(nK.2 fun k hk=>hz k (by omega)).symm)
theorem GL (f:FuncId)(p:Nat→Bool)(t u:List El)(n m:Nat)(hl:n<2^38)(hf:∀i,i<n→i<m→Pr prog f [eV (t.getD i []),eV (u.getD i [])] (.one (.bool (p i)))):
  Pr prog 170 [tV n t,tV m u,.one (.fn f 0 (fun _=>.any))] (.one (.bool (HE n m p))):=by
 refine pw func170 ⟨[0,1,2,6,7,8,9,14,15,16,17,18,30],[]⟩ ?_;simp only[Tryz.f170,ntmps170,iz,seval];simp only[vx,T,seval,tV,tC,eV,aa];refine⟨fun g=>Lg ?_,fun g=>Lg ?_⟩
 ·simp only[vx,T,seval];exact vb (GX g).symm
 have hxy:n=m:=by omega
 simp only[vx,T,seval,tV,tC,eV,aa];refine Lk (fun y:{i:Nat//i≤n∧∀k,k<i→p k=true}=>⟨[(1,tV m u),(2,.one (.fn f 0 (fun _=>.any))),(15,tV n t),(16,.one (.int .i64 n)),(17,.one (.int .i64 y.1))],[],1,32⟩) (fun y=>n-y.1) ⟨0,Nat.zero_le _,fun k h=>absurd h (Nat.not_lt_zero _)⟩ ?_ (fun⟨i,hi,hz⟩=>?_)
 ·refine Sa ?_;simp only[ry,seval,rz,tV,tC,eV,aa]
 have i1:=wI i (by omega);simp only[vx,T,seval,tV,tC,eV,aa];refine⟨fun h1=>Lg ?_,fun h1=>Lg ?_⟩
 ·have Vm:=hf i (by omega) (by omega);simp only[vx,T,seval,tV,tC,eV,aa];refine⟨by omega,by omega,Cg Vm ?_⟩;simp only[vx,T,seval];refine⟨fun h2=>Lg ?_,fun h2=>Lg ?_⟩
  ·simp only[vx,T,seval];have h2:p i=false:=by simpa using h2
   exact vb (by unfold HE;rw[rE (by omega) h2,Bool.and_false])
  simp only[vx,T,seval];simp only[i1];refine Lq ⟨i+1,by omega,fun k hk=>?_⟩ ?_ ?_
  ·by_cases h3:k<i
   ·exact hz k h3
   rw[show k=i by omega];simpa using h2
  ·refine Sa ?_;simp only[ry,seval,rz,tV,tC,eV,aa]
  simp only;omega
 simp only[vx,T,seval];exact vb (by unfold HE;rw[decide_eq_true hxy,Bool.true_and];exact(nK.2 fun k hk=>hz k (by omega)).symm)
open Go Go.Eng
open Go.Tw (El aB aJ zE ai ar aq ao ae QB mS ah ag)
theorem mX {h:Nat}{t:List El}(tk:Tk h t)(a b:El)(ha:a.length=2^h)(hb:b.length=2^h)(hq:Qk a)(S8:Qk b):Pr prog 176 [tV h t,eV a,eV b] (eV (aB a b)):=by
 have hp:=aN tk.le8;have c:=lK tk a b ha hb hq S8;have d:=(kN a b (by omega) (by omega) hq S8).rows;refine pw func176 ⟨[0,1,2,6,11],[]⟩ ?_;simp only[Tryz.f176,ntmps176,iz,seval];simp only[vx,T,seval,tV,tC,eV,aa];refine Cg c ?_;simp only[vx,T,seval,tV,tC,eV,aa];refine Cg d ?_;simp only[vx,T,seval,tV,tC,eV,aa];exact Ve rfl
theorem u9 {h:Nat}{t:List El}(tk:Tk h t)(a:El)(ha:a.length=2^h)(hq:Qk a):Pr prog 79 [tV h t,eV a] (eV (aJ a)):=by
 have hp:=aN tk.le8;have c:=dB tk a ha hq;have d:=(mW a (by omega) hq).rows;refine pw func79 ⟨[0,1,4,8],[]⟩ ?_;simp only[Tryz.f79,ntmps79,iz,seval];simp only[vx,T,seval,tV,tC,eV,aa];refine Cg c ?_;simp only[vx,T,seval,tV,tC,eV,aa];refine Cg d ?_;simp only[vx,T,seval,tV,tC,eV,aa];exact Ve rfl
theorem gM {h:Nat}{t:List El}{C A B:Nat}(hC:1≤C)(tk:Tk h t)(ht:∀i,i<h→QB C (t.getD i []))(h1:1≤A)(h2:1≤B)(a b:El)(ha:a.length=2^h)(hb:b.length=2^h)(qa:QB A a)(qb:QB B b)(hs:mS h (A+B) C<2^38):Pr prog 146 [tV h t,eV a,eV b] (eV (ai h t a b)):=by
 have S1:=Go.Tw.il (h:=h) (S:=A+B) (C:=C);have c:=lK tk a b ha hb (.of qa (by omega)) (.of qb (by omega));have d:=(kO hC tk ht h1 h2 ha hb qa qb hs).rows;refine pw func146 ⟨[0,1,2,6,11],[]⟩ ?_;simp only[Tryz.f146,ntmps146,iz,seval];simp only[vx,T,seval,tV,tC,eV,aa];refine Cg c ?_;simp only[vx,T,seval,tV,tC,eV,aa];refine Cg d ?_;simp only[vx,T,seval,tV,tC,eV,aa];exact Ve rfl
theorem zK (a b:Rat)(ha:qm a<2^38)(hb:qm b<2^38):Pr prog 195 [QV a,QV b] (.one (.bool (decide (a=b)))):=by
 have c:=Br a b ha hb;refine pw func195 ⟨[0,1,2,3,4],[]⟩ ?_;simp only[Tryz.f195,ntmps195,iz,seval];simp only[vx,T,seval,QV,QC];refine Cg c ?_;simp only[vx,T,seval,QV,QC];refine vb (decide_eq_decide.2 ?_);unfold JQ;rw[Dl]
 constructor
 ·intro h;rw[←Rat.mkRat_self a,←Rat.mkRat_self b];exact(Rat.mkRat_eq_iff a.den_nz b.den_nz).2 h
 rintro rfl;rfl
open Go Go.Eng
open Go.Tw (El aB aJ zE ai ar aq ao ae QB mS ah ag)
def Gd (a b:El):Bool:=HE a.length b.length fun i=>decide (a.getD i default=b.getD i default)
theorem Ex {a b:El}:Gd a b=true↔a=b:=by
 unfold Gd HE;rw[Bool.and_eq_true,decide_eq_true_eq,nK]
 constructor
 ·rintro⟨h1,h2⟩;refine List.ext_getElem h1 fun i g1 g2=>?_
  have:=of_decide_eq_true (h2 i g1)
  rwa [eY g1,eY g2]at this
 rintro rfl;exact⟨rfl,fun i _=>decide_eq_true rfl⟩
theorem Fo (a b:El)(hl:a.length<2^38)(ha:Qk a)(hb:Qk b):Pr prog 171 [eV a,eV b] (.one (.bool (decide (a=b)))):=by
 have c:=HV 195 (fun i=>decide (a.getD i default=b.getD i default)) a b hl (fun i _=>zK _ _ (ha.get i) (hb.get i));have e:decide (a=b)=Gd a b:=by rw[Bool.eq_iff_iff,decide_eq_true_eq,Ex]
 rw[e];refine pw func171 ⟨[0,1,4],[]⟩ ?_;simp only[Tryz.f171,ntmps171,iz,seval];simp only[vx,T,seval,eV,aa];refine Cg c ?_;simp only[vx,T,seval];exact Ve rfl
def fe (h k:Nat)(t u:List El):Bool:=decide (k≤h)&&(List.range k).all fun i=>decide (t.getD i []=u.getD i [])
theorem mf {h k:Nat}{t u:List El}(tk:Tk h t)(uk:Tk k u):Pr prog 136 [tV h t,tV k u] (.one (.bool (fe h k t u))):=by
 have h8:=tk.le8;have k8:=uk.le8;have c:=GL 171 (fun i=>decide (t.getD i []=u.getD i [])) t u k k (by omega);refine pw func136 ⟨[0,1,4],[]⟩ ?_;simp only[Tryz.f136,ntmps136,iz,seval];simp only[vx,T,seval,tV,tC,eV,aa];refine⟨fun g=>Lg ?_,fun g=>Lg ?_⟩
 ·have hf:∀i,i<k→i<k→Pr prog 171 [eV (t.getD i []),eV (u.getD i [])] (.one (.bool (decide (t.getD i []=u.getD i [])))):=fun i hi _=>
   Fo _ _ (by rw[tk.len i (by omega)];exact aN (by omega)) (tk.q i (by omega)) (uk.q i hi)
  simp only[vx,T,seval,tV,tC,eV,aa];refine⟨by omega,Cg (c hf) ?_⟩;simp only[vx,T,seval];exact vb (by unfold fe HE;rw[decide_eq_true rfl,decide_eq_true (by omega:k≤h)])
 simp only[vx,T,seval];exact vb (by unfold fe;rw[decide_eq_false (by omega:¬k≤h)];rfl)
end Go.Proofs.YthnkehdgnagmnaaGreat
namespace Go.Tw
open Go Go.Eng
theorem sh (x:Rat):(if 0<x then 1 else if x<0 then-1 else 0:Int)=Go.Eng.bQ x.num:=by
 have h1:0≤x.num↔0≤x:=Rat.num_nonneg;have h2:x.num=0↔x=0:=Rat.num_eq_zero;unfold Go.Eng.bQ
 by_cases h0:x=0
 ·rw[if_pos (h2.2 h0),h0,if_neg (Rat.lt_irrefl),if_neg (Rat.lt_irrefl)]
 rw[if_neg (fun h=>h0 (h2.1 h))]
 by_cases hp:0≤x
 ·rw[if_pos (Rat.lt_of_le_of_ne hp (Ne.symm h0)),if_neg (by have:=h1.2 hp;omega)]
 rw[if_neg (fun h=>hp (Rat.le_of_lt h)),if_pos (Rat.not_le.1 hp),if_pos (by have:=mt h1.1 hp;omega)]
theorem dA {h:Nat}{t:List El}:∀{a:El},-1≤bo h t a∧bo h t a≤1:=by
 induction h with
 |zero=>
  intro a;unfold bo
  split
  ·omega
  split<;>omega
 |succ h ih=>
  intro a;rw[bo]
  split
  ·exact ih
  split
  ·exact ih
  have h1:=@ih (a.take (2^h));have h2:=@ih (aP h t a);have e:∀x y:Int,-1≤x∧x≤1→ -1≤y∧y≤1→ -1≤x*y∧x*y≤1:=fun x y hx hy=>by
   have:x= -1∨x=0∨x=1:=by omega
   rcases this with rfl|rfl|rfl<;>omega
  exact e _ _ h1 h2
theorem nh {h:Nat}{t:List El}(a:El):aB (ai h t (a.take (2^h)) (a.take (2^h))) (aJ (ai h t (t.getD h []) (ai h t (a.drop (2^h)) (a.drop (2^h)))))=aP h t a:=by
 unfold aP;rw[vE (t.getD h [])]
end Go.Tw
namespace Go.Proofs.YthnkehdgnagmnaaGreat
open Go.Proofs.Tryz
open Go Go.Eng
open Go.Tw (El aB aJ zE ai ar aq ao ae QB mS ah ag aP aI tB aX aG)
theorem kZ {h S:Nat}(hh:h≤3)(hS:S≤2^32):mS h S tB<2^38:=by
 unfold tB
 match h,hh with
 |0,_=>simp only[mS];omega
 |1,_=>simp only[mS];omega
 |2,_=>simp only[mS];omega
 |3,_=>simp only[mS];omega
theorem ko {h S:Nat}(hh:h≤2):mS h S tB≤6*S+2^20:=by
 unfold tB
 match h,hh with
 |0,_=>simp only[mS];omega
 |1,_=>simp only[mS];omega
 |2,_=>simp only[mS];omega
structure TQ (h:Nat) (t:List El):Prop where
 tk:Tk h t
 h3:h≤3
 q:∀i,i<h→QB tB (t.getD i [])
theorem TQ.le {h k:Nat}{t:List El}(W:TQ h t)(hk:k≤h):TQ k t:=⟨W.tk.le hk,by have:=W.h3;omega,fun i hi=>W.q i (by omega)⟩
theorem fY:1≤tB:=by decide
theorem Mo {h X Y:Nat}{t:List El}(W:TQ h t){a b:El}(ha:a.length=2^h)(hb:b.length=2^h)(h1:1≤X)(h2:1≤Y)(hs:X+Y≤2^32)(qa:QB X a)(qb:QB Y b):
  Fr prog 184 [tV h t,eV a,eV b] (.rows 62 4 (ai h t a b).length (fQ (ai h t a b))):=kO fY W.tk W.q h1 h2 ha hb qa qb (kZ W.h3 hs)
theorem F0 {h X Y:Nat}{t:List El}(W:TQ h t){a b:El}(ha:a.length=2^h)(hb:b.length=2^h)(h1:1≤X)(h2:1≤Y)(hs:X+Y≤2^32)(qa:QB X a)(qb:QB Y b):
  Pr prog 146 [tV h t,eV a,eV b] (eV (ai h t a b)):=gM fY W.tk W.q h1 h2 a b ha hb qa qb (kZ W.h3 hs)
theorem qD {h:Nat}{t:List El}(tk:Tk h t)(a b:El)(ha:a.length=2^h)(hb:b.length=2^h)(hq:Qk a)(S8:Qk b):Pr prog 182 [tV h t,eV a,eV b] (eV (aB a (aJ b))):=by
 have hp:=aN tk.le8;have c:=lK tk a b ha hb hq S8;have W4:Qk (aJ b):=fun x hx=>by
  obtain⟨y,hy,rfl⟩:=List.mem_map.1 hx;rw[Go.Tw.AS];exact S8 y hy
 have d:=(mW b (by omega) S8).rows;have e:=(kN a (aJ b) (by omega) (by rw[aq];omega) hq W4).rows;refine pw func182 ⟨[0,1,2,6,11],[]⟩ ?_;simp only[Tryz.f182,ntmps182,iz,seval];simp only[vx,T,seval,tV,tC,eV,aa];refine Cg c ?_;simp only[vx,T,seval,tV,tC,eV,aa];refine Cg d ?_;simp only[vx,T,seval,tV,tC,eV,aa];refine Cg e ?_;simp only[vx,T,seval,tV,tC,eV,aa];exact Ve rfl
theorem um {h X:Nat}{t:List El}(W:TQ (h+1) t)(a:El)(ha:a.length=2^(h+1))(Rw:1≤X)(hX:X≤2^30)(hq:QB X a):Fr prog 210 [tV (h+1) t,eV a] (.rows 62 4 (aP h t a).length (fQ (aP h t a))):=by
 have W':=W.le (Nat.le_succ h);have h3:=W.h3;have cs:=mo (h:=h) (t:=t) (by omega);have ch:=iW (h:=h) (by omega) ha;have Sg:=ah ha;have Sd:=ag ha;have hp:=aN W'.tk.le8;have hr:=W.tk.len h (by omega);have Uo:=W.q h (by omega);have ht:=W'.q;have b1:=ko (h:=h) (S:=X+X) (by omega);have b2:=ko (h:=h) (S:=mS h (X+X) tB+tB) (by omega);have btB:tB=32769:=rfl;have m1:=kO fY W'.tk ht Rw Rw Sg Sg (hq.take _) (hq.take _) (by omega);have m2:=kO fY W'.tk ht Rw Rw Sd Sd (hq.drop _) (hq.drop _) (by omega);have g1:=QB.mul fY ht Rw Rw (hq.take (2^h)) (hq.take (2^h));have g2:=QB.mul fY ht Rw Rw (hq.drop (2^h)) (hq.drop (2^h));have S1:=Go.Tw.il (h:=h) (S:=X+X) (C:=tB);have m3:=kO fY W'.tk ht (by omega) fY ae hr g2 Uo (by omega);have g3:=QB.mul fY ht (by omega) fY g2 Uo;obtain⟨x,hx⟩:∃x,x=a.take (2^h):=⟨_,rfl⟩;obtain⟨y,hy⟩:∃y,y=a.drop (2^h):=⟨_,rfl⟩;obtain⟨r,RD⟩:∃r,r=t.getD h []:=⟨_,rfl⟩;have em:aP h t a=aB (ai h t x x) (aJ (ai h t (ai h t y y) r)):=by rw[hx,hy,RD];rfl
 rw[←hx,←hy]at ch;rw[←RD]at cs hr Uo m3 g3;rw[←hx]at m1 g1;rw[←hy]at m2 g2 m3 g3;have n1:=mW _ (by rw[ae];omega) (Qk.of g3 (by omega));have a1:=kN _ (aJ (ai h t (ai h t y y) r)) (by rw[ae];omega) (by rw[aq,ae,ae]) (Qk.of g1 (by omega)) (Qk.of g3.neg (by omega));rw[←em]at a1;clear em hq ha;have m1:=m1.rows;have m2:=m2.rows;have m3:=m3.rows;have n1:=n1.rows;refine fw func210 ⟨[0,1,4,5,6,7,8],[]⟩ ?_;simp only[Tryz.f210,ntmps210,iz,seval];simp only[vx,T,seval,tV,tC,eV,aa];refine Cg cs ?_;simp only[vx,T,seval,tV,tC,eV,aa];refine Cg ch ?_;simp only[vx,T,seval,tV,tC,eV,aa];refine Cg m1 ?_;simp only[vx,T,seval,tV,tC,eV,aa];refine Cg m2 ?_;simp only[vx,T,seval,tV,tC,eV,aa];refine Cg m3 ?_;simp only[vx,T,seval,tV,tC,eV,aa];refine Cg n1 ?_;simp only[vx,T,seval,tV,tC,eV,aa];refine cH.fresh a1 ?_;simp only[vx,T,seval,tV,tC,eV,aa];exact⟨rfl,rfl,fun _ _ _ _=>rfl⟩
theorem uJ {h X:Nat}{t:List El}(W:TQ (h+1) t)(a:El)(ha:a.length=2^(h+1))(Rw:1≤X)(hX:X≤2^30)(hq:QB X a):Pr prog 230 [tV (h+1) t,eV a] (eV (aP h t a)):=by
 have c:=dB W.tk a ha (.of hq (by omega));have d:=(um W a ha Rw hX hq).rows;refine pw func230 ⟨[0,1,4,13],[]⟩ ?_;simp only[Tryz.f230,ntmps230,iz,seval];simp only[vx,T,seval,tV,tC,eV,aa];refine Cg c ?_;simp only[vx,T,seval,tV,tC,eV,aa];refine⟨fun h=>absurd h (by omega),fun _=>Lg ?_⟩;simp only[vx,T,seval,tV,tC,eV,aa];refine Cg d ?_;simp only[vx,T,seval,tV,tC,eV,aa];exact Ve rfl
theorem Lr (h:Nat)(q:Rat)(k j:Nat)(hj:j<4):
  a8 (fQ (zE (2^h))) 0 0 [C.bool (zs q.num),C.ints .u32 (zm q.num),C.bool (zs (q.den:Int)),C.ints .u32 (zm (q.den:Int))] k j=fQ (aX h q) k j:=by
 have hp:0<2^h:=Nat.pow_pos (by decide);unfold a8
 by_cases hk:k=0
 ·subst hk;rw[if_pos rfl,if_pos (Nat.zero_le _),if_pos (by simpa using hj),Nat.sub_zero];exact dx q rfl j
 rw[if_neg hk];unfold fQ aX
 congr 1
 rw[X7,X7,List.getElem?_cons,if_neg hk];unfold zE;rw[List.getElem?_replicate,List.getElem?_replicate]
 by_cases h2:k<2^h
 ·rw[if_pos h2,if_pos (by omega)]
 rw[if_neg h2,if_neg (by omega)]
theorem eD {h:Nat}{t:List El}(tk:Tk h t)(q:Rat)(hq:qm q<2^38):Pr prog 174 [tV h t,QV q] (eV (aX h q)):=by
 have c:=jI tk;have d:=v5 q (by omega);have hp:=aN tk.le8;have z:=oO (2^h) hp;have w:=dL tk.le8;have hz:(zE (2^h)).length=2^h:=ar;have hp0:0<2^h:=Nat.pow_pos (by decide);refine pw func174 ⟨[0,1,3,4,5,13],[]⟩ ?_;simp only[Tryz.f174,ntmps174,iz,seval];simp only[vx,T,seval,tV,tC,QV,QC];refine Cg c ?_;simp only[vx,T,seval,tV,tC];refine Cg d ?_;simp only[vx,T,seval,tV,tC,w];refine⟨Int.natCast_nonneg _,cH.fresh z ?_⟩;simp only[vx,T,seval,tV,tC,QV,QC];exact⟨by omega,fT.cell (dK.rows (by rw[hz,Go.Tw.aG]) (fun i j _ hj=>dK.of_eq (Lr h q i j hj)))⟩
open Go Go.Eng
open Go.Tw (El aB aJ zE ai ar aq ao ae QB mS ah ag aP aI tB aX aG bo gT dA sh nh)
theorem fu {a:El}{n:Nat}(h:n≤a.length):dK (.rows 4 n (fun i=>qC (a.getD i default))) (aa (a.take n)):=
 dK.rows (by rw[X5];omega) fun i j hi _=>dK.of_eq (C5 hi j)
theorem eW {a:El}{n:Nat}:dK (.rows 4 (a.length-n) (fun i=>qC (a.getD (n+i) default))) (aa (a.drop n)):=
 dK.rows (by rw[List.length_drop]) fun i j _ _=>dK.of_eq (CS i j)
theorem Np {t:List El}{a:El}(ha:a.length=2^0)(hq:Qk a):Pr prog 144 [tV 0 t,eV a] (.one (.int .i64 (bo 0 t a))):=by
 obtain⟨x,rfl⟩:=Go.Tw.bA ha;have hx:qm x<2^38:=hq x (by simp);have e:bo 0 t [x]=bQ x.num:=sh x;have c:=ka x (by omega);rw[e];refine pw func144 ⟨[0,1,4,5,6,7,8,9,10,11,12,15,41,50],[(4,.nil)]⟩ ?_;simp only[Tryz.f144,ntmps144,iz,seval];simp only[vx,T,seval,tV,tC,eV,aa,qC,X0];refine Cg c ?_;simp only[vx,T,seval,aa];exact Ve rfl
theorem jr {X:Nat}(Rw:1≤X)(hX:X≤2^30){t:List El}:∀{h:Nat} {a:El},TQ h t→a.length=2^h→gT X h t a→Pr prog 144 [tV h t,eV a] (.one (.int .i64 (bo h t a)))
 |0,a,_,ha,hi=>Np ha (.of hi.qb (by omega))
 |h+1,a,W,ha,hi=>by
  have W':=W.le (Nat.le_succ h);obtain⟨Tc,i1,i2,i3⟩:=hi;have Sg:=ah ha;have Sd:=ag ha;have v1:=jr Rw hX W' Sg i1;have v2:=jr Rw hX W' Sd i2;have v3:=jr Rw hX W' aI i3;have h3:=W.h3;have hp:=aN W'.tk.le8;have q1:=i1.qb;have q2:=i2.qb;have hr:=W.tk.len h (by omega);have Uo:=W.q h (by omega);have btB:tB=32769:=rfl;have b1:=Go.Proofs.YthnkehdgnagmnaaGreat.ko (h:=h) (S:=X+X) (by omega);have b2:=Go.Proofs.YthnkehdgnagmnaaGreat.ko (h:=h) (S:=tB+mS h (X+X) tB) (by omega);have S1:=Go.Tw.il (h:=h) (S:=X+X) (C:=tB);have m1:=gM fY W'.tk W'.q Rw Rw _ _ Sg Sg q1 q1 (by omega);have m2:=gM fY W'.tk W'.q Rw Rw _ _ Sd Sd q2 q2 (by omega);have g1:=QB.mul fY W'.q Rw Rw q1 q1;have g2:=QB.mul fY W'.q Rw Rw q2 q2;have m3:=gM fY W'.tk W'.q fY (by omega) _ _ hr ae Uo g2 (by omega);have g3:=QB.mul fY W'.q fY (by omega) Uo g2;have su:=qD W'.tk _ _ ae ae (Qk.of g1 (by omega)) (Qk.of g3 (by omega));rw[nh]at su;have hn:(2^h:Nat)≤a.length:=by rw[ha,Nat.pow_succ];omega
  have Rv:a.length-2^h=(a.drop (2^h)).length:=by rw[List.length_drop]
  have cT:=fu hn;have cD:=eW (a:=a) (n:=2^h);have v1:=v1.args (xs:=[tV h t,.one (.rows 4 (2^h) (fun i=>qC (a.getD i default)))]) ⟨.refl _,.cell cT,trivial⟩;have v2:=v2.args (xs:=[tV h t,.one (.rows 4 (a.length-2^h) (fun i=>qC (a.getD (2^h+i) default)))]) ⟨.refl _,.cell cD,trivial⟩;have m1:=m1.args (xs:=[tV h t,.one (.rows 4 (2^h) (fun i=>qC (a.getD i default))),.one (.rows 4 (2^h) (fun i=>qC (a.getD i default)))]) ⟨.refl _,.cell cT,.cell cT,trivial⟩;have m2:=m2.args (xs:=[tV h t,.one (.rows 4 (a.length-2^h) (fun i=>qC (a.getD (2^h+i) default))),.one (.rows 4 (a.length-2^h) (fun i=>qC (a.getD (2^h+i) default)))]) ⟨.refl _,.cell cD,.cell cD,trivial⟩;obtain⟨n,RK⟩:∃n,n=2^h:=⟨_,rfl⟩;have RT:a.length=2*n:=by rw[ha,Nat.pow_succ,RK];omega
  have e:bo (h+1) t a=if bo h t (a.drop (2^h))=0∨bo h t (a.take (2^h))=bo h t (a.drop (2^h))then bo h t (a.take (2^h))else if bo h t (a.take (2^h))=0 then bo h t (a.drop (2^h))else bo h t (a.take (2^h))*bo h t (aP h t a):=rfl
  have r1:=@dA h t (a.take (2^h));have r3:=@dA h t (aP h t a);obtain⟨s1,Ux⟩:∃s,s=bo h t (a.take (2^h)):=⟨_,rfl⟩;obtain⟨s2,TX⟩:∃s,s=bo h t (a.drop (2^h)):=⟨_,rfl⟩;obtain⟨s3,XG⟩:∃s,s=bo h t (aP h t a):=⟨_,rfl⟩;rw[←Ux,←TX,←XG]at e;rw[←Ux]at v1 r1;rw[←TX]at v2;rw[←XG]at v3 r3;rw[e];rw[←RK]at v1 v2 m1 m2 su m3 hp;have w1:IntKind.i64.wrap (((h+1:Nat):Int)-1)=(h:Int):=by rw[IntWalk.i64_in _ (by omega)];omega
  have w2:IntKind.i64.wrap (((a.length:Nat):Int).tdiv 2)=(n:Int):=by
   rw[RT,Int.tdiv_eq_ediv_of_nonneg (by omega),IntWalk.i64_in _ (by omega)];omega
  have w4:((a.length:Int)-(n:Int)).toNat=a.length-n:=by omega
  have w3:IntKind.i64.wrap (s1*s3)=s1*s3:=by
   rw[IntWalk.i64_in]
   have:s1= -1∨s1=0∨s1=1:=by omega
   rcases this with h|h|h<;>rw [h]<;>omega
  obtain⟨r,RD⟩:∃r,r=t.getD h []:=⟨_,rfl⟩;rw[←RD]at m3 su;clear Tc i1 i2 i3 Sg Sd q1 q2 g1 g2 g3 b1 b2 S1 hr Uo Ux TX XG cT cD W;refine pw func144 ⟨[0,1,4,5,6,7,8,9,10,11,12,15,41,50],[(4,.nil)]⟩ ?_;simp only[Tryz.f144,ntmps144,iz,seval];simp only[vx,T,seval,tV,tC,eV,aa,w1,w2];refine⟨fun h=>absurd h (by omega),fun _=>Lg ?_⟩;simp only[vx,T,seval,tV,tC,eV,aa,w1,w2];refine⟨⟨by omega,by omega⟩,⟨by omega,by omega⟩,⟨by omega,by omega,by omega⟩,Cg v1 ?_⟩;simp only[vx,T,seval,tV,tC,eV,aa,w1,w2,w4];refine Cg v2 ?_;simp only[vx,T,seval,tV,tC,eV,aa,w1,w2,w4];refine⟨fun k2=>Lg ?_,fun k2=>Lg ?_⟩
  ·rw[if_pos (.inl k2)];simp only[vx,T,seval,tV,tC,eV,aa,w1,w2,w4];exact Ve rfl
  simp only[vx,T,seval,tV,tC,eV,aa,w1,w2,w4];refine⟨fun k3=>Lg ?_,fun k3=>Lg ?_⟩
  ·rw[if_pos (.inr k3)];simp only[vx,T,seval,tV,tC,eV,aa,w1,w2,w4];exact Ve rfl
  rw[if_neg (not_or.2 ⟨k2,k3⟩)];simp only[vx,T,seval,tV,tC,eV,aa,w1,w2,w4];refine⟨fun k1=>Lg ?_,fun k1=>Lg ?_⟩
  ·rw[if_pos k1];simp only[vx,T,seval,tV,tC,eV,aa,w1,w2,w4];exact Ve rfl
  rw[if_neg k1];simp only[vx,T,seval,tV,tC,eV,aa,w1,w2,w4];refine Cg m1 ?_;simp only[vx,T,seval,tV,tC,eV,aa,w1,w2,w4,←RD];refine⟨⟨by omega,by omega⟩,Cg m2 ?_⟩;simp only[vx,T,seval,tV,tC,eV,aa,w1,w2,w4,←RD];refine Cg m3 ?_;simp only[vx,T,seval,tV,tC,eV,aa,w1,w2,w4,←RD];refine Cg su ?_;simp only[vx,T,seval,tV,tC,eV,aa,w1,w2,w4,←RD];refine Cg v3 ?_;simp only[vx,T,seval,tV,tC,eV,aa,w1,w2,w4,w3,←RD];exact Ve rfl
open Go Go.Eng
open Go.Tw (El aB aJ zE ai ar aq ao ae QB mS ah ag aP aI tB aX aG bo gT dA Rl val)
structure wW (X h:Nat) (t:List El):Prop where
 tq:TQ h t
 s:∀i,i<h→gT X i t (t.getD i [])
 p:∀i,i<h→0<bo i t (t.getD i [])
theorem wW.le {X h k:Nat}{t:List El}(W:wW X h t)(hk:k≤h):wW X k t:=⟨W.tq.le hk,fun i hi=>W.s i (by omega),fun i hi=>W.p i (by omega)⟩
theorem EJ {X h:Nat}(Rw:1≤X)(hX:X≤2^30){t:List El}(W:wW X h t):Pr prog 180 [tV h t] (.one (.bool true)):=by
 have h3:=W.tq.h3;have z:=cP 0 (by decide) (by decide);have f:=eD W.tq.tk (Rat.ofInt 0) (by decide+kernel);have hqz:Qk (aX h (Rat.ofInt 0)):=fun x hx=>by
  unfold aX at hx
  rcases List.mem_cons.1 hx with rfl|hx
  ·decide+kernel
  rw[List.eq_of_mem_replicate hx];decide+kernel
 have g:=dB W.tq.tk (aX h (Rat.ofInt 0)) aG hqz;have v:∀i,i<h→Pr prog 144 [tV i t,eV (t.getD i [])] (.one (.int .i64 (bo i t (t.getD i [])))):=fun i hi=>
  jr Rw hX (W.tq.le (by omega)) (W.tq.tk.len i hi) (W.s i hi)
 refine pw func180 ⟨[0,2,3,4,10,11,12,13,14,23],[]⟩ ?_;simp only[Tryz.f180,ntmps180,iz,seval];simp only[vx,T,seval,tV,tC,aa];refine Cg z ?_;simp only[vx,T,seval,tV,tC,QV,QC];refine Cg f ?_;simp only[vx,T,seval,tV,tC,eV,aa];refine Cg g ?_;simp only[vx,T,seval,tV,tC,eV,aa];have h0:h<2^60:=by omega
 refine Lk (fun y:{i:Nat//i≤h}=>⟨[(0,tV h t),(2,.one (.bool false)),(11,tV h t),(12,.one (.int .i64 h)),(13,.one (.int .i64 y.1))],[],2,25⟩) (fun y=>h-y.1) ⟨0,Nat.zero_le _⟩ ?_ (fun⟨i,hi⟩=>?_)
 ·refine Sa ?_;simp only[ry,seval,rz,tV,tC,aa]
 simp only;have wi:=wI i (by omega);simp only[vx,T,seval,tV,tC,aa];refine⟨fun k=>Lg ?_,fun k=>Lg ?_⟩
 ·have Ru:i<h:=by omega
  have vi:=v i Ru;have pi:=W.p i Ru;simp only[vx,T,seval,tV,tC,aa];refine⟨⟨by omega,by omega⟩,⟨by omega,by omega⟩,Cg vi ?_⟩;simp only[vx,T,seval,tV,tC,aa];refine⟨fun hh=>absurd hh (by omega),fun _=>Lg ?_⟩;simp only[vx,T,seval,tV,tC,aa,wi];refine Lq ⟨i+1,by omega⟩ ?_ (by show h-(i+1)<h-i;omega);refine Sa ?_;simp only[ry,seval,rz,tV,tC,aa]
 simp only[vx,T,seval,tV,tC,aa];exact Ve rfl
theorem Ep {X h:Nat}(Rw:1≤X)(hX:X≤2^30){t l:List El}(W:wW X h t)(hl:l.length<2^60)(hf:∀i,i<l.length→(l.getD i []).length=2^h∧Qk (l.getD i [])):Pr prog 143 [tV h t,tV l.length l] (.one (.bool true)):=by
 have r:=EJ Rw hX W;have v:∀i,i<l.length→Pr prog 113 [tV h t,eV (l.getD i [])] (.one (.bool true)):=fun i hi=>dB W.tq.tk _ (hf i hi).1 (hf i hi).2;clear hf;refine pw func143 ⟨[0,1,4,6,7,8,9,10,16],[]⟩ ?_;simp only[Tryz.f143,ntmps143,iz,seval];simp only[vx,T,seval,tV,tC,aa];refine Lk (fun y:{i:Nat//i≤l.length}=>⟨[(0,tV h t),(1,tV l.length l),(4,.one (.bool false)),(7,tV l.length l),(8,.one (.int .i64 l.length)),(9,.one (.int .i64 y.1))],[],2,20⟩) (fun y=>l.length-y.1) ⟨0,Nat.zero_le _⟩ ?_ (fun⟨i,hi⟩=>?_)
 ·refine Sa ?_;simp only[ry,seval,rz,tV,tC,aa]
 simp only;have wi:=wI i (by omega);simp only[vx,T,seval,tV,tC,aa];refine⟨fun k=>Lg ?_,fun k=>Lg ?_⟩
 ·have Ru:i<l.length:=by omega
  have vi:=v i Ru;simp only[vx,T,seval,tV,tC,aa];refine⟨⟨by omega,by omega⟩,Cg vi ?_⟩;simp only[vx,T,seval,tV,tC,aa,wi];refine Lq ⟨i+1,by omega⟩ ?_ (by show l.length-(i+1)<l.length-i;omega);refine Sa ?_;simp only[ry,seval,rz,tV,tC,aa]
 simp only[vx,T,seval,tV,tC,aa];refine Cg r ?_;simp only[vx,T,seval,tV,tC,aa];exact Ve rfl
theorem kD {X h:Nat}(Rw:1≤X)(hX:X≤2^30){t:List El}{a:El}(W:wW X h t)(ha:a.length=2^h)(hs:gT X h t a):Pr prog 105 [tV h t,eV a] (.one (.int .i64 (bo h t a))):=by
 have v:=jr Rw hX W.tq ha hs;have g:=Ep Rw hX (l:=[a]) W (by show(1:Nat)<2^60;decide) (fun i hi=>by
  obtain rfl:i=0:=by
               have:i<1:=hi
               omega
  exact⟨ha,.of hs.qb (by omega)⟩)
 refine pw func105 ⟨[0,1,4,9],[]⟩ ?_;simp only[Tryz.f105,ntmps105,iz,seval];simp only[vx,T,seval,tV,tC,eV,aa];refine Cg (g.args ⟨.refl _,.cell (.rows rfl fun i j hi hj=>.of_eq ?_),trivial⟩) ?_
 ·obtain rfl:i=0:=by omega
  obtain rfl:j=0:=by omega
  rfl
 simp only[vx,T,seval,tV,tC,eV,aa];refine Cg v ?_;simp only[vx,T,seval,tV,tC,eV,aa];exact Ve rfl
end Go.Proofs.YthnkehdgnagmnaaGreat
namespace Go.Eng
def cJ:Nat→Nat
 |0=>0
 |n+1=>if(cJ n+1)*(cJ n+1)≤n+1 then cJ n+1 else cJ n
theorem jJ:∀n,cJ n*cJ n≤n∧n<(cJ n+1)*(cJ n+1)
 |0=>by decide
 |n+1=>by
  have⟨h1,h2⟩:=jJ n
  rw[cJ]
  split
  ·rename_i h
   refine⟨h,?_⟩;have e:(cJ n+1+1)*(cJ n+1+1)=(cJ n+1)*(cJ n+1)+2*cJ n+3:=by
    simp only[Nat.mul_add,Nat.add_mul,Nat.mul_one,Nat.one_mul];omega
   rw[e];omega
  rename_i h
  exact⟨by omega,by omega⟩
theorem uE {n s:Nat}(h1:s*s≤n)(h2:n<(s+1)*(s+1)):cJ n=s:=by
 have⟨k1,k2⟩:=jJ n
 rcases Nat.lt_trichotomy (cJ n) s with h|h|h
 ·have:=Nat.mul_le_mul (show cJ n+1≤s by omega) (show cJ n+1≤s by omega)
  omega
 ·exact h
 have:=Nat.mul_le_mul (show s+1≤cJ n by omega) (show s+1≤cJ n by omega)
 omega
theorem GV (s:Nat):cJ (s*s)=s:=uE (Nat.le_refl _) (Nat.mul_lt_mul'' (Nat.lt_succ_self s) (Nat.lt_succ_self s))
theorem Bm (n:Nat):cJ n≤n:=by
 have:=(jJ n).1
 rcases Nat.eq_zero_or_pos (cJ n)with h|h
 ·omega
 exact Nat.le_trans (Nat.le_mul_of_pos_left _ h) this
theorem vD {a x:Nat}(hx:0<x):cJ a≤(x+a/x)/2:=by
 have h:=(jJ a).1;obtain⟨s,hs⟩:∃s,s=cJ a:=⟨_,rfl⟩;rw[←hs]at h⊢;have key:2*s-x≤a/x:=by
  rw[Nat.le_div_iff_mul_le hx];refine Nat.le_trans ?_ h
  by_cases h0:2*s≤x
  ·rw[show 2*s-x=0 by omega,Nat.zero_mul];exact Nat.zero_le _
  by_cases h1:x≤s
  ·obtain⟨d,rfl⟩:=Nat.exists_eq_add_of_le h1;rw[show 2*(x+d)-x=x+2*d by omega];simp only[Nat.mul_add,Nat.add_mul,Nat.mul_assoc,Nat.two_mul]
   have:=Nat.mul_comm x d
   omega
  obtain⟨d,rfl⟩:=Nat.exists_eq_add_of_le (show s≤x by omega);obtain⟨e,rfl⟩:=Nat.exists_eq_add_of_le (show d≤s by omega);rw[show 2*(d+e)-(d+e+d)=e by omega];simp only[Nat.mul_add,Nat.add_mul]
  have:=Nat.mul_comm d e
  omega
 omega
theorem zk {a x:Nat}(hx:0<x)(h:x≤(x+a/x)/2):x*x≤a:=by
 have:x≤a/x:=by omega
 exact(Nat.le_div_iff_mul_le hx).1 this
theorem N0 {n b:Nat}(h:n<b*b):cJ n<b:=by
 refine Nat.lt_of_not_le fun hl=>?_
 have:=Nat.mul_le_mul hl hl
 have:=(jJ n).1
 omega
end Go.Eng
namespace Go.Eng
open Go
theorem qc (k:Nat):BB^k=2^(32*k):=by
 rw[show BB=2^32 from rfl,←Nat.pow_mul]
def kE (n:Nat):Nat:=32*(nl n-1)+bl (fj n)
theorem Dq {n:Nat}(h:0<n):n<2^kE n:=by
 have h1:=(gS h).1;have h2:=(wV _ h1).2.1;unfold kE;rw[Nat.pow_add,←qc];have h3:n<(fj n+1)*BB^(nl n-1):=by
  unfold fj;rw[Nat.add_mul,Nat.one_mul,Nat.mul_comm];exact Nat.lt_mul_div_succ n (Nat.pow_pos (by decide))
 refine Nat.lt_of_lt_of_le h3 ?_;rw[Nat.mul_comm];exact Nat.mul_le_mul_left _ (by omega)
theorem xg {n:Nat}(h:0<n):kE n≤32*nl n:=by
 have h1:=gS h;have h2:bl (fj n)≤32:=yC h1.2;have h3:=eF.2 h;unfold kE;omega
theorem Fe {n:Nat}(h:0<n):cJ n<2^(kE n/2+1):=by
 refine N0 (Nat.lt_of_lt_of_le (Dq h) ?_);rw[←Nat.pow_add];exact Nat.pow_le_pow_right (by decide) (by omega)
theorem E8 (n:Nat):(List.replicate (n/32+1) (0:Int)).set (n/32) ((2^(n%32):Nat):Int)=aj (2^n):=by
 have hw:2^(n%32)<2^32:=Nat.pow_lt_pow_right (by decide) (Nat.mod_lt _ (by decide));have hp:0<2^(n%32):=Nat.pow_pos (by decide);have R6:bL ((List.replicate (n/32+1) (0:Int)).set (n/32) ((2^(n%32):Nat):Int)):=(bL.replicate _).set _ ⟨by omega,by omega⟩;have hl:n/32<(List.replicate (n/32+1) (0:Int)).length:=by simp
 have hv:=dM (xs:=List.replicate (n/32+1) (0:Int)) (i:=n/32) (x:=((2^(n%32):Nat):Int)) hl;rw[cM,X7,List.getElem?_replicate]at hv;rw[if_pos (by omega),Int.toNat_natCast]at hv;have h0:((some (0:Int)).getD 0).toNat=0:=rfl;rw[h0,Nat.mul_zero,Nat.add_zero,Nat.zero_add,qc,←Nat.pow_add,Nat.div_add_mod]at hv;rw[←hv]
 refine(cA R6 (.inr ?_)).symm
 rw[List.length_set,List.length_replicate,Nat.add_sub_cancel,X7,List.getElem?_set];rw[if_pos rfl,if_pos hl]
 show((2^(n%32):Nat):Int)≠0
 omega
end Go.Eng
namespace Go.Eng
open Go
def zu (x:Rat):Option Rat:=
 if 0≤x.num∧cJ x.num.natAbs*cJ x.num.natAbs=x.num.natAbs∧cJ x.den*cJ x.den=x.den then some (mkRat (cJ x.num.natAbs) (cJ x.den))else none
theorem HT {a b n d:Nat}(ha:a*a=n)(hb:b*b=d)(h:n.Coprime d):a.Coprime b:=by
 subst ha hb;exact Nat.Coprime.coprime_dvd_left (Nat.dvd_mul_right a a) (Nat.Coprime.coprime_dvd_right (Nat.dvd_mul_right b b) h)
theorem N9 {a b:Nat}(h:a.Coprime b):(a*a).Coprime (b*b):=
 Nat.Coprime.mul_left (Nat.Coprime.mul_right h h) (Nat.Coprime.mul_right h h)
theorem pQ {x r:Rat}(h:zu x=some r):r*r=x∧0≤x.num∧cJ x.num.natAbs*cJ x.num.natAbs=x.num.natAbs∧cJ x.den*cJ x.den=x.den∧r.num=(cJ x.num.natAbs:Int)∧r.den=cJ x.den:=by
 unfold zu at h
 split at h
 ·rename_i hc
  obtain⟨h0,h1,h2⟩:=hc;obtain rfl:=Option.some.inj h;have hb:cJ x.den≠0:=fun e=>by rw[e]at h2;exact x.den_nz h2.symm
  have XH:(cJ x.num.natAbs).Coprime (cJ x.den):=HT h1 h2 x.reduced;obtain⟨r0,SZ⟩:∃r0:Rat,r0=⟨(cJ x.num.natAbs:Int),cJ x.den,hb,by simpa using XH⟩:=⟨_,rfl⟩;have e1:r0.num=(cJ x.num.natAbs:Int):=by rw[SZ]
  have e2:r0.den=cJ x.den:=by rw[SZ]
  have e3:mkRat (cJ x.num.natAbs) (cJ x.den)=r0:=by rw[←e1,←e2];exact Rat.mkRat_self r0
  rw[e3];refine⟨?_,h0,h1,h2,e1,e2⟩;have e4:r0*r0=mkRat (r0.num*r0.num) (r0.den*r0.den):=Rat.mul_def' r0 r0;rw[e4,e1,e2,h2,←Int.natCast_mul,h1,Int.natAbs_of_nonneg h0];exact Rat.mkRat_self x
 cases h
theorem zD {x:Rat}(h:zu x=none)(r:Rat):r*r≠x:=by
 rintro rfl;have XH:(r.num.natAbs*r.num.natAbs).Coprime (r.den*r.den):=N9 r.reduced;obtain⟨r1,T7⟩:∃r1:Rat,r1=⟨r.num*r.num,r.den*r.den,Nat.mul_ne_zero r.den_nz r.den_nz,by rw[Int.natAbs_mul];exact XH⟩:=⟨_,rfl⟩;have e1:r1.num=r.num*r.num:=by rw[T7]
 have e2:r1.den=r.den*r.den:=by rw[T7]
 have e3:r*r=r1:=by rw[Rat.mul_def',←e1,←e2];exact Rat.mkRat_self r1
 unfold zu at h;rw[e3,if_pos]at h
 ·cases h
 rw[e1,e2,Int.natAbs_mul,GV,GV];refine⟨?_,rfl,rfl⟩
 rcases Int.le_total 0 r.num with h|h
 ·exact Int.mul_nonneg h h
 exact Int.mul_nonneg_of_nonpos_of_nonpos h h
end Go.Eng
namespace Go.Proofs.YthnkehdgnagmnaaGreat
open Go.Proofs.Tryz
open Go Go.Proofs Go.Eng
theorem AP (x:Nat)(hx:x<BB):Pr prog 249 [.one (.int .u32 x)] (.one (.int .i64 (bl x:Nat))):=by
 refine⟨⟨_,func249,by rfl,by rfl⟩,fun ok w vs RW hr=>?_⟩;obtain⟨vs⟩:=vs
 match vs,hr with
 |[v],hr=>
  obtain⟨hv,_⟩:=hr;have hv:v= .int .u32 x:=hv;subst hv
  refine(Tryz.tF x w (by omega) (by unfold BB at hx;omega)).mono ?_
  rintro e W' ⟨rfl,rfl⟩;refine⟨_,rfl,Go.RowKit.Below.refl _ _,?_⟩;show Value.int .i64 ((Lib.bitLen (x:Int).toNat:Nat):Int)= .int .i64 ((bl x:Nat):Int);rw[Int.toNat_natCast,vh x (by unfold BB at hx;omega)]
theorem Bw (z:Int)(h0:z≠0)(hz:zn z<2^42):Pr prog 254 [ZV z] (.one (.int .i64 (kE z.natAbs:Nat))):=by
 have hp:0<z.natAbs:=by omega
 have c:=fO z (by omega);have ht:=gS hp;have d:=AP (fj z.natAbs) ht.2;have Us:=kt hp;have hl:nl z.natAbs<2^42:=hz;have Tl:=eF.2 hp;have hg:(aj z.natAbs).getD (nl z.natAbs-1) 0=((fj z.natAbs:Nat):Int):=by rw[lG,Us]
 have hb:=xg hp;have w1:IntKind.i64.wrap ((nl z.natAbs:Int)-1)=((nl z.natAbs-1:Nat):Int):=by rw[IntWalk.i64_in _ (by omega)];omega
 have w2:IntKind.i64.wrap (32*((nl z.natAbs-1:Nat):Int))=((32*(nl z.natAbs-1):Nat):Int):=by rw[IntWalk.i64_in _ (by omega)];omega
 have w3:IntKind.i64.wrap (((32*(nl z.natAbs-1):Nat):Int)+(bl (fj z.natAbs):Nat))=((kE z.natAbs:Nat):Int):=by
  unfold kE at hb⊢;rw[IntWalk.i64_in _ (by omega)];omega
 refine pw func254 ⟨[0,1,2,3,9],[]⟩ ?_;simp only[Tryz.f254,ntmps254,iz,seval];simp only[vx,T,seval,ZV];refine Cg c ?_;simp only[vx,T,seval,ZV];refine⟨fun h=>absurd h (by omega),fun _=>Lg ?_⟩;simp only[vx,T,seval,ZV,w1,w2,hg,Int.toNat_natCast];refine⟨⟨by omega,by omega⟩,Cg d ?_⟩;simp only[vx,T,seval,ZV,w3];exact Ve rfl
theorem x7 (n:Nat)(hn:n<2^50):Pr prog 255 [.one (.int .i64 n)] (.one (.ints .u32 (aj (2^n)))):=by
 have hlp:=E8 n;have hw:2^(n%32)<2^32:=Nat.pow_lt_pow_right (by decide) (Nat.mod_lt _ (by decide));have w1:IntKind.i64.wrap ((n:Int).tdiv 32)=((n/32:Nat):Int):=by rw[Int.tdiv_eq_ediv_of_nonneg (by omega),IntWalk.i64_in _ (by omega)];omega
 have w2:IntKind.i64.wrap (((n/32:Nat):Int)+1)=((n/32+1:Nat):Int):=by rw[IntWalk.i64_in _ (by omega)];omega
 have w3:(n:Int).tmod 32=((n%32:Nat):Int):=rfl;have w4:IntKind.u32.wrap (1*2^(if n%32≤32 then n%32 else 32))=((2^(n%32):Nat):Int):=by
  have e:(2:Int)^(n%32)=((2^(n%32):Nat):Int):=by rw[Int.natCast_pow];rfl
  rw[if_pos (by omega),Int.one_mul,e]
  generalize 2^(n%32)=k at hw
  rw[IntWalk.u32_in _ (by omega)]
 refine pw func255 ⟨[0,2,3],[]⟩ ?_;simp only[Tryz.f255,ntmps255,iz,seval];simp only[vx,T,seval,w1,w2,w3,Int.toNat_natCast];refine⟨⟨by omega,by omega,by omega,by omega⟩,by omega,⟨by omega,by omega⟩,Ve ?_⟩;rw[w4,List.take_of_length_le (by simp),hlp]
theorem EN (a:Nat)(ha:nl a<2^43):Pr prog 256 [.one (.ints .u32 (aj a))] (.one (.ints .u32 (aj (a/2)))):=by
 have c:=(kB a 1 (by omega) (by decide)).ints;have Ru:a/2^1<BB^nl a:=Nat.lt_of_le_of_lt (Nat.div_le_self _ _) (cF a);have d:=dh (iE (nl a) (a/2^1)) (gk _ _) (by rw[aM];omega);rw[jO,Nat.mod_eq_of_lt Ru]at d;refine pw func256 ⟨[0,2],[]⟩ ?_;simp only[Tryz.f256,ntmps256,iz,seval];simp only[vx,T,seval];refine Cg c ?_;simp only[vx,T,seval];refine Cg d ?_;simp only[vx,T,seval];exact Ve rfl
theorem EU {a x:Nat}(h1:cJ a≤x)(hx:0<x)(h:x≤(x+a/x)/2):x=cJ a:=by
 have h2:=zk hx h;have h3:=(jJ a).2;refine Nat.le_antisymm ?_ h1;refine Nat.le_of_lt_succ (Nat.lt_of_not_le fun h4=>?_)
 have:(cJ a+1)*(cJ a+1)≤x*x:=Nat.mul_le_mul h4 h4
 omega
theorem KF {a:Nat}(h:0<a):0<cJ a:=by
 have h3:=(jJ a).2
 rcases Nat.eq_zero_or_pos (cJ a)with h0|h0
 ·rw[h0]at h3;omega
 exact h0
theorem Cl (z:Int)(h0:0<z)(hz:zn z<2^40):Pr prog 252 [ZV z] (.aF [ZV (cJ z.natAbs:Nat),.one (.int .i64 0)]):=by
 have hs:bQ z=1:=by unfold bQ;rw[if_neg (by omega),if_neg (by omega)]
 have cs:=fR z (by omega);rw[hs]at cs;have cb:=Bw z (by omega) (by omega);have ct:=fO z (by omega);obtain⟨a,ha⟩:∃a,a=z.natAbs:=⟨_,rfl⟩;have Sy:zs z=false:=dz.2 (by omega);have Zo:0<a:=by omega
 have hal:nl a<2^40:=by rw[ha];exact hz
 rw[←ha]at cb ct⊢;have hb:=xg Zo;have RM:=Fe Zo;have V3:=KF Zo;have w1:IntKind.i64.wrap (((kE a:Nat):Int).tdiv 2)=((kE a/2:Nat):Int):=by rw[Int.tdiv_eq_ediv_of_nonneg (by omega),IntWalk.i64_in _ (by omega)];omega
 have w2:IntKind.i64.wrap (((kE a/2:Nat):Int)+1)=((kE a/2+1:Nat):Int):=by rw[IntWalk.i64_in _ (by omega)];omega
 have csh:=x7 (kE a/2+1) (by omega);have TR:nl (2^(kE a/2+1))<2^42:=by
  have:2^(kE a/2+1)<BB^(nl a+1):=by
   rw[qc];exact Nat.pow_lt_pow_right (by decide) (by omega)
  have:=aD this
  omega
 refine pw func252 ⟨[0,1,2,3,4,5,6,8,10,11,14,38],[]⟩ ?_;simp only[Tryz.f252,ntmps252,iz,seval];simp only[vx,T,seval,ZV];refine Cg cs ?_;simp only[vx,T,seval,ZV];refine Cg cb ?_;simp only[vx,T,seval,ZV,w1,w2];refine Cg csh ?_;simp only[vx,T,seval,ZV];refine Lk (fun y:{x:Nat//cJ a≤x∧0<x∧nl x<2^42}=>⟨[(0,ZV z),(1,.one (.ptr 1 0)),(2,.one (.ptr 2 0)),(3,.one (.int .i64 0)),(4,.one (.int .i64 (kE a/2+1:Nat))),(5,.one (.ints .u32 (aj y.1)))],[(1,⟨.var [.bool (zs z),.ints .u32 (zm z)],true⟩),(2,⟨.var [.bool false,.nil],true⟩)],3,42⟩) (fun y=>y.1) ⟨2^(kE a/2+1),Nat.le_of_lt RM,Nat.pow_pos (by decide),TR⟩ ?_ (fun⟨x,WA,Vx,U5⟩=>?_)
 ·refine Sa ?_;simp only[ry,seval,rz,ZV]
 simp only;have Sn:nl (a/x)≤nl a:=bg (Nat.div_le_self _ _);simp only[vx,T,seval,ZV];refine Cg ct ?_;simp only[vx,T,seval,ZV];refine Cg (je a x Vx (by omega) (by omega)) ?_;simp only[vx,T,seval,ZV];have U0:=td x (a/x);have hhl:nl ((x+a/x)/2)≤nl (x+a/x):=bg (Nat.div_le_self _ _);refine Cg (ow x (a/x) (by omega) (by omega)) ?_;simp only[vx,T,seval,ZV];refine Cg (EN (x+a/x) (by omega)) ?_;simp only[vx,T,seval,ZV];refine Cg (g9 ((x+a/x)/2) x (by omega) (by omega)) ?_;simp only[vx,T,seval,ZV];have XS:0≤eL ((x+a/x)/2:Nat) (x:Nat)↔x≤(x+a/x)/2:=by
  unfold eL
  constructor
  ·intro h
   by_cases h2:(((x+a/x)/2:Nat):Int)<(x:Int)
   ·rw[if_pos h2]at h;omega
   omega
  intro h;rw[if_neg (by omega)]
  split<;>omega
 refine⟨fun k1=>Lg ?_,fun k1=>Lg ?_⟩
 ·have hx:=EU WA Vx (XS.1 k1);simp only[vx,T,seval,ZV];refine Cg (b5 false x (by omega)) ?_;have e2:fJ false x=((cJ a:Nat):Int):=by rw[←hx];rfl
  rw[e2];simp only[vx,T,seval,ZV];refine Va ?_;simp only[cV,aW,ry,seval,ZV]
 simp only[vx,T,seval,ZV];have Ru:(x+a/x)/2<x:=by
  refine Nat.lt_of_not_le fun h=>k1 (XS.2 h)
 refine Lq ⟨(x+a/x)/2,vD Vx,Nat.lt_of_lt_of_le V3 (vD Vx),Nat.lt_of_le_of_lt (bg (Nat.le_of_lt Ru)) U5⟩ ?_ Ru;refine Sa ?_;simp only[ry,seval,rz,ZV]
end Go.Proofs.YthnkehdgnagmnaaGreat
namespace Go.Eng
open Go
theorem pV (a b:Int):a.fdiv (-b)=(-a).fdiv b:=by
 have:=Int.neg_fdiv_neg (a:= -a) (b:=b)
 rwa [Int.neg_neg]at this
theorem tW (n d:Int):Int.gcd n (-d)=Int.gcd n d:=by unfold Int.gcd;rw[Int.natAbs_neg]
theorem od (n d:Int):Int.gcd (-n) d=Int.gcd n d:=by unfold Int.gcd;rw[Int.natAbs_neg]
theorem LA {n:Int}{d:Nat}(hd:0<d):n.fdiv (-(Int.gcd n d:Int))=(mkRat (-n) d).num:=by
 rw[pV,←xw hd,od]
theorem Lu {n:Int}{d:Nat}(hd:0<d):(-(d:Int)).fdiv (-(Int.gcd n d:Int))=((mkRat (-n) d).den:Int):=by
 rw[pV,Int.neg_neg,←xy hd,od]
theorem inv_pos {x:Rat}{d:Nat}(h:x.num=(d:Int)):x⁻¹=mkRat x.den d:=by
 rw[Rat.inv_def,h];rfl
theorem inv_neg {x:Rat}{d:Nat}(h:x.num= -(d:Int)):x⁻¹=mkRat (-(x.den:Int)) d:=by
 rw[Rat.inv_def,h]
 cases d with
 |zero=>rfl
 |succ d=>rfl
end Go.Eng
namespace Go.Proofs.YthnkehdgnagmnaaGreat
open Go.Proofs.Tryz
open Go Go.Eng
open Go.Tw (El aB aJ zE ai ar aq ao ae QB mS ah ag aP aI tB aX aG cC lY)
theorem uS (n:Int)(d:Nat)(hn:zn n<2^40)(hd:nl d<2^40)(h0:0<d):Pr prog 221 [ZV n,ZV (-(d:Int))] (QV (mkRat (-n) d)):=by
 have hg:(0:Int)<(Int.gcd n d:Nat):=by have:=yt (n:=n) h0;omega
 have Yi:zn (Int.gcd n d)≤nl d:=rM (b:=(d:Int)) (by
  have:=Nat.gcd_le_right n.natAbs (show 0<(d:Int).natAbs by omega)
  exact this)
 have WB:zs (-(d:Int))=true:=lF.2 (by omega);have S9:zn (-(d:Int))=nl d:=by unfold zn;rw[Int.natAbs_neg];rfl
 have c:=qH n (-(d:Int)) (by omega) (by rw[S9];omega);rw[tW]at c;have cn:=v8 (Int.gcd n d) (by omega);have UW:zn (-(Int.gcd n d:Int))≤nl d:=by unfold zn at Yi⊢;rw[Int.natAbs_neg];exact Yi
 refine pw func221 ⟨[0,1,2,3,4,5,10],[]⟩ ?_;simp only[Tryz.f221,ntmps221,iz,seval];simp only[vx,T,seval,ZV];refine Cg c ?_;simp only[vx,T,seval,ZV];refine⟨fun _=>Lg ?_,fun h=>absurd (WB.symm.trans h) (by decide)⟩;simp only[vx,T,seval,ZV];refine Cg cn ?_;simp only[vx,T,seval,ZV];refine Cg (nm n (-(Int.gcd n d:Int)) (by omega) (by omega) (by omega)) ?_;rw[LA h0];simp only[vx,T,seval,ZV];refine Cg (nm (-(d:Int)) (-(Int.gcd n d:Int)) (by rw[S9];omega) (by omega) (by omega)) ?_;rw[Lu h0];simp only[vx,T,seval,ZV];refine Va ?_;simp only[cV,aW,ry,seval,QV,QC]
theorem mq (z:Int):Pr prog 222 [ZV z] (.one (.bool (decide (z=0)))):=by
 refine pw func222 ⟨[0,1,2],[]⟩ ?_;simp only[Tryz.f222,ntmps222,iz,seval];simp only[vx,T,seval,ZV];refine Ve ?_;rw[aT]
 congr 2
 by_cases h:z=0
 ·rw[decide_eq_true h,decide_eq_true];rw[h,dW.2 rfl];rfl
 rw[decide_eq_false h,decide_eq_false];intro e;exact h (dW.1 (by omega))
theorem EH (x:Rat)(hx:qm x<2^38)(h0:x≠0):Pr prog 209 [QV 1,QV x] (.aF [QV x⁻¹,.one (.int .i64 0)]):=by
 have z:=mq x.num;have hn:x.num≠0:=fun h=>h0 (Rat.num_eq_zero.1 h);rw[decide_eq_false hn]at z;have q1:(1:Rat).num=1:=rfl;have q2:((1:Rat).den:Int)=1:=rfl;unfold qm at hx;have m1:=bM (1:Rat).num (x.den:Int) (by decide+kernel) (by rw[aC];omega);have m2:=bM ((1:Rat).den:Int) x.num (by decide+kernel) (by omega);rw[q1,Int.one_mul]at m1;rw[q2,Int.one_mul]at m2;have lo:Pr prog 221 [ZV (x.den:Int),ZV x.num] (QV x⁻¹):=by
  by_cases hp:0<x.num
  ·obtain⟨d,hd⟩:∃d:Nat,x.num=d:=⟨x.num.toNat,by omega⟩;rw[inv_pos hd,hd];rw[hd]at hx hp;rw[aC]at hx;exact fg _ d (by rw[aC];omega) (by omega) (by omega)
  obtain⟨d,hd⟩:∃d:Nat,x.num= -(d:Int):=⟨(-x.num).toNat,by omega⟩;rw[inv_neg hd,hd];have S9:zn (-(d:Int))=nl d:=by unfold zn;rw[Int.natAbs_neg];rfl
  rw[hd,S9]at hx;exact uS _ d (by rw[aC];omega) (by omega) (by omega)
 refine pw func209 ⟨[0,1,2,3,4,5,8],[]⟩ ?_;simp only[Tryz.f209,ntmps209,iz,seval];simp only[vx,T,seval,QV,QC];refine Cg z ?_;simp only[vx,T,seval,QV,QC];refine Cg m1 ?_;simp only[vx,T,seval,QV,QC,ZV];refine Cg m2 ?_;simp only[vx,T,seval,QV,QC,ZV];refine Cg lo ?_;simp only[vx,T,seval,QV,QC,ZV];exact Ve rfl
theorem Er (a x:Rat)(h0:x=0):Pr prog 209 [QV a,QV x] (.aF [.agg [.bool false,.nil,.bool false,.nil],.one (.int .i64 6)]):=by
 have z:=mq x.num;have hn:x.num=0:=by rw[h0];rfl
 rw[decide_eq_true hn]at z;refine pw func209 ⟨[0,1,2,3,4,5,8],[]⟩ ?_;simp only[Tryz.f209,ntmps209,iz,seval];simp only[vx,T,seval,QV,QC];refine Cg z ?_;simp only[vx,T,seval,QV,QC];exact Ve rfl
theorem fT.aF {xs ys:List V}(h:yr xs ys):fT (.aF xs) (.aF ys):=fun _ _ _ ⟨vs,e,hl⟩=>⟨vs,e,h.rep hl⟩
theorem jm {t:List El}:∀{h:Nat} {a n:El},cC h t a=some n→n.length=2^h
 |0,a,n,e=>by
  unfold cC at e
  split at e
  ·cases e
  obtain rfl:=Option.some.inj e;rfl
 |h+1,a,n,e=>by
  have e':((cC h t (aP h t a)).map fun n=>ai h t (a.take (2^h)) n++aJ (ai h t (a.drop (2^h)) n))=some n:=e;obtain⟨m,_,rfl⟩:=Option.map_eq_some_iff.1 e';rw[X6,aq,ae,ae,Nat.pow_succ];omega
def zR:C:=.rows 4 1 (fun i j=>[C.bool false,.nil,.bool false,.nil].getD (i*4+j) .any)
def QU (c:C):Prop:=c= .nil∨c=zR
def CW (h:Nat)(t:List El)(a:El)(f:FuncId):Prop:=
 (∀n,cC h t a=some n→Pr prog f [tV h t,eV a] (.aF [eV n,.one (.bool true)]))∧
 (cC h t a=none→∃c,QU c∧Pr prog f [tV h t,eV a] (.aF [.one c,.one (.bool false)]))
theorem Hn {X:Nat}{t:List El}(hX:X≤2^30){a:El}(ha:a.length=2^0)(hq:QB X a):CW 0 t a 185:=by
 obtain⟨x,rfl⟩:=Go.Tw.bA ha;have hx:qm x≤X:=hq x (by simp);have one:=cP 1 (by decide) (by decide);have e:cC 0 t [x]=if x=0 then none else some [x⁻¹]:=rfl
 unfold CW;rw[e]
 by_cases h0:x=0
 ·rw[if_pos h0];refine⟨fun n h=>(by cases h),fun _=>?_⟩;have d:=Er 1 x h0;refine⟨_,.inr rfl,?_⟩;refine pw func185 ⟨[0,1,4,5,6,7,8,10,11,12,13,16,43],[(2,(.cons 9 [7] (.cons 10 [] .nil .nil) .nil))]⟩ ?_;simp only[Tryz.f185,ntmps185,iz,seval];simp only[vx,T,seval,tV,tC,eV,aa];refine Cg one ?_;simp only[vx,T,seval,QV,QC,tV,tC,eV,aa,qC,X0];refine Cg d ?_;simp only[vx,T,seval,QV,QC,tV,tC,eV,aa,qC,X0];exact Ve rfl
 rw[if_neg h0];refine⟨fun n h=>?_,fun h=>(by cases h)⟩;obtain rfl:=Option.some.inj h;have d:=EH x (by omega) h0;refine pw func185 ⟨[0,1,4,5,6,7,8,10,11,12,13,16,43],[(2,(.cons 9 [7] (.cons 10 [] .nil .nil) .nil))]⟩ ?_;simp only[Tryz.f185,ntmps185,iz,seval];simp only[vx,T,seval,tV,tC,eV,aa];refine Cg one ?_;simp only[vx,T,seval,QV,QC,tV,tC,eV,aa,qC,X0];refine Cg d ?_;simp only[vx,T,seval,QV,QC,tV,tC,eV,aa,qC,X0];refine fT.aF ⟨.cell (.rows rfl fun i j hi _=>.of_eq ?_),.refl _,trivial⟩;obtain rfl:i=0:=by omega
 rw[Nat.zero_mul,Nat.zero_add];exact dx x⁻¹ rfl j
theorem oT {X:Nat}(Rw:1≤X)(hX:X≤2^30){t:List El}:∀{h:Nat} {a:El},TQ h t→a.length=2^h→lY X h t a→CW h t a 185
 |0,a,_,ha,hi=>Hn hX ha hi
 |h+1,a,W,ha,hi=>by
  have W':=W.le (Nat.le_succ h);have Tc:=hi.qb;obtain⟨_,_,i3,_,i5⟩:=hi;have ih:=oT Rw hX W' aI i3;have h3:=W.h3;have hp:=aN W'.tk.le8;have cs:=mo (h:=h) (t:=t) (by omega);have ch:=iW (h:=h) (by omega) ha;have cn:=(um W a ha Rw hX Tc).rows;have Sg:=ah ha;have Sd:=ag ha;have e:cC (h+1) t a=(cC h t (aP h t a)).map fun n=>ai h t (a.take (2^h)) n++aJ (ai h t (a.drop (2^h)) n):=rfl;unfold CW at ih⊢;rw[e]
  cases hn:cC h t (aP h t a)with
  |none=>
   refine⟨fun n h=>(by cases h),fun _=>?_⟩;obtain⟨c,UZ,hc⟩:=ih.2 hn;refine⟨.nil,.inl rfl,?_⟩
   rcases UZ with rfl|rfl
   ·refine pw func185 ⟨[0,1,4,5,6,7,8,10,11,12,13,16,43],[(2,(.cons 9 [7] (.cons 10 [] .nil .nil) .nil))]⟩ ?_;simp only[Tryz.f185,ntmps185,iz,seval];simp only[vx,T,seval,tV,tC,eV,aa];refine⟨fun h=>absurd h (by omega),fun _=>Lg ?_⟩;simp only[vx,T,seval,tV,tC,eV,aa];refine Cg cs ?_;simp only[vx,T,seval,tV,tC,eV,aa];refine Cg cn ?_;simp only[vx,T,seval,tV,tC,eV,aa];refine Cg hc ?_;simp only[vx,T,seval,tV,tC,eV,aa];exact Ve rfl
   refine pw func185 ⟨[0,1,4,5,6,7,8,10,11,12,13,16,43],[(2,(.cons 9 [7] (.cons 10 [] .nil .nil) .nil))]⟩ ?_;simp only[Tryz.f185,ntmps185,iz,seval];simp only[vx,T,seval,tV,tC,eV,aa];refine⟨fun h=>absurd h (by omega),fun _=>Lg ?_⟩;simp only[vx,T,seval,tV,tC,eV,aa];refine Cg cs ?_;simp only[vx,T,seval,tV,tC,eV,aa];refine Cg cn ?_;simp only[vx,T,seval,tV,tC,eV,aa];refine Cg hc ?_;simp only[vx,T,seval,tV,tC,eV,aa,zR];exact Ve rfl
  |some n=>
   refine⟨fun n' hh=>?_,fun hh=>(by cases hh)⟩;obtain rfl:=Option.some.inj hh;have hc:=ih.1 n hn;have W4:=i5 n hn;have ln:=jm hn;have m1:=Mo W' Sg ln Rw Rw (by omega) (Tc.take _) W4;have m2:=(Mo W' Sd ln Rw Rw (by omega) (Tc.drop _) W4).rows;have g2:=QB.mul fY W'.q Rw Rw (Tc.drop (2^h)) W4;have b2:=kZ W'.h3 (S:=X+X) (by omega);have nn:=(mW _ (by rw[ae];omega) (Qk.of g2 (by omega))).rows;obtain⟨x,hx⟩:∃x,x=a.take (2^h):=⟨_,rfl⟩;obtain⟨y,hy⟩:∃y,y=a.drop (2^h):=⟨_,rfl⟩;rw[←hx,←hy]at ch⊢;rw[←hx]at m1;rw[←hy]at m2 nn;refine pw func185 ⟨[0,1,4,5,6,7,8,10,11,12,13,16,43],[(2,(.cons 9 [7] (.cons 10 [] .nil .nil) .nil))]⟩ ?_;simp only[Tryz.f185,ntmps185,iz,seval];simp only[vx,T,seval,tV,tC,eV,aa];refine⟨fun h=>absurd h (by omega),fun _=>Lg ?_⟩;simp only[vx,T,seval,tV,tC,eV,aa];refine Cg cs ?_;simp only[vx,T,seval,tV,tC,eV,aa];refine Cg cn ?_;simp only[vx,T,seval,tV,tC,eV,aa];refine Cg hc ?_;simp only[vx,T,seval,tV,tC,eV,aa];refine Cg ch ?_;simp only[vx,T,seval,tV,tC,eV,aa];refine cH.fresh m1 ?_;simp only[vx,T,seval,tV,tC,eV,aa];refine Cg m2 ?_;simp only[vx,T,seval,tV,tC,eV,aa];refine Cg nn ?_;simp only[vx,T,seval,tV,tC,eV,aa];exact⟨by rw[ae,aq,ae];omega,fT.aF ⟨.cell (.rows List.length_append.symm fun i j _ _=>.of_eq (lD _ _ i j)),.refl _,trivial⟩⟩
open Go Go.Proofs Go.Eng
theorem Ey {a a' b b':C}(h1:dK a a')(h2:dK b b'):ti (.agg [a,b]) (.agg [a',b']):=by
 intro ok w v hr;obtain⟨vs,e,hl⟩:=hr;refine⟨vs,e,?_⟩
 generalize vs.toList=l at hl⊢
 match l,hl with
 |[x,y],⟨k1,k2,_⟩=>exact⟨aA.bh (h1 ok w x (aO.dV k1)),aA.bh (h2 ok w y (aO.dV k2)),trivial⟩
theorem QO:ti (.agg [.bool false,.nil]) (ZV 0):=Ey (.refl _) (by
 have:zm 0=[]:=by decide+kernel
 rw[this];exact .zo _)
theorem HC (z:Int)(h0:0<z)(hz:zn z<2^38):Pr prog 243 [ZV z] (.aF [ZV (cJ z.natAbs:Nat),.one (.bool (decide (cJ z.natAbs*cJ z.natAbs=z.natAbs)))]):=by
 have c:=Cl z h0 (by omega);obtain⟨s,hs⟩:∃s,s=cJ z.natAbs:=⟨_,rfl⟩;have Sx:zn (s:Int)≤zn z:=rM (by rw[hs];exact Bm _);rw[←hs]at c⊢;have m:=bM (s:Int) (s:Int) (by omega) (by omega);have hm:zn ((s:Int)*s)≤zn (s:Int)+zn (s:Int):=cQ _ _;have cc:=qA ((s:Int)*s) z (by omega) (by omega);have e:decide (eL ((s:Int)*s) z=0)=decide (s*s=z.natAbs):=decide_eq_decide.2 (by rw[Dl];omega);refine pw func243 ⟨[0,1,2,3,4,5],[(2,(.cons 11 [9,10] (.cons 12 [] .nil .nil) .nil))]⟩ ?_;simp only[Tryz.f243,ntmps243,iz,seval];simp only[vx,T,seval,ZV];refine Cg c ?_;simp only[vx,T,seval,ZV];refine Cg m ?_;simp only[vx,T,seval,ZV];refine Cg cc ?_;simp only[vx,T,seval,ZV];rw[e];exact Ve rfl
theorem Bg:Pr prog 252 [ZV 0] (.aF [.agg [.bool false,.nil],.one (.int .i64 0)]):=by
 have cs:=fR 0 (by decide+kernel);have hs:bQ 0=0:=rfl;rw[hs]at cs;refine pw func252 ⟨[0,1,2,3,4,5,6,8,10,11,14,38],[]⟩ ?_;simp only[Tryz.f252,ntmps252,iz,seval];simp only[vx,T,seval,ZV];refine Cg cs ?_;simp only[vx,T,seval,ZV];exact Ve rfl
theorem Ef (z:Int)(h0:z<0)(hz:zn z<2^38):Pr prog 252 [ZV z] (.aF [.agg [.bool false,.nil],.one (.int .i64 7)]):=by
 have cs:=fR z (by omega);have hs:bQ z= -1:=by unfold bQ;rw[if_neg (by omega),if_pos h0]
 rw[hs]at cs;refine pw func252 ⟨[0,1,2,3,4,5,6,8,10,11,14,38],[]⟩ ?_;simp only[Tryz.f252,ntmps252,iz,seval];simp only[vx,T,seval,ZV];refine Cg cs ?_;simp only[vx,T,seval,ZV];exact Ve rfl
theorem GR (z:Int)(h0:z<0)(hz:zn z<2^38):Pr prog 243 [ZV z] (.aF [.agg [.bool false,.nil],.one (.bool false)]):=by
 have c:=Ef z h0 hz;refine pw func243 ⟨[0,1,2,3,4,5],[(2,(.cons 11 [9,10] (.cons 12 [] .nil .nil) .nil))]⟩ ?_;simp only[Tryz.f243,ntmps243,iz,seval];simp only[vx,T,seval,ZV];refine Cg c ?_;simp only[vx,T,seval,ZV];exact Ve rfl
theorem D7:Pr prog 243 [ZV 0] (.aF [.agg [.bool false,.nil],.one (.bool true)]):=by
 have c:=Bg;have m:=bM 0 0 (by decide+kernel) (by decide+kernel);have m:=m.args (xs:=[.agg [.bool false,.nil],.agg [.bool false,.nil]]) ⟨QO,QO,trivial⟩;have cc:=qA 0 0 (by decide+kernel) (by decide+kernel);rw[oZ rfl]at cc;rw[Int.mul_zero]at m;refine pw func243 ⟨[0,1,2,3,4,5],[(2,(.cons 11 [9,10] (.cons 12 [] .nil .nil) .nil))]⟩ ?_;simp only[Tryz.f243,ntmps243,iz,seval];simp only[vx,T,seval,ZV];refine Cg c ?_;simp only[vx,T,seval,ZV];refine Cg m ?_;simp only[vx,T,seval,ZV];refine Cg cc ?_;simp only[vx,T,seval,ZV];exact Ve rfl
theorem mZ (z:Int)(hz:zn z<2^38):∃m,(m= .nil∨∃xs,m= .ints .u32 xs)∧Pr prog 243 [ZV z] (.aF [.agg [.bool false,m],.one (.bool (decide (0≤z∧cJ z.natAbs*cJ z.natAbs=z.natAbs)))])∧
  (0≤z→dK m (.ints .u32 (zm (cJ z.natAbs:Nat)))):=by
 rcases Int.lt_trichotomy z 0 with h|h|h
 ·refine⟨.nil,.inl rfl,?_,fun h2=>absurd h2 (by omega)⟩;rw[decide_eq_false (by omega)];exact GR z h hz
 ·subst h;refine⟨.nil,.inl rfl,?_,fun _=>?_⟩
  ·rw[decide_eq_true (by decide)];exact D7
  have:zm (cJ (0:Int).natAbs:Nat)=[]:=by decide+kernel
  rw[this];exact .zo _
 refine⟨_,.inr ⟨_,rfl⟩,?_,fun _=>.refl _⟩;have e:decide (0≤z∧cJ z.natAbs*cJ z.natAbs=z.natAbs)=decide (cJ z.natAbs*cJ z.natAbs=z.natAbs):=decide_eq_decide.2 ⟨fun h=>h.2,fun h2=>⟨by omega,h2⟩⟩;rw[e];have r:=HC z h hz;have Sy:zs (cJ z.natAbs:Nat)=false:=dz.2 (by omega);unfold ZV at r⊢;rw[Sy]at r;exact r
theorem yT {a b c d a' b' c' d':C}(h1:dK a a')(h2:dK b b')(h3:dK c c')(h4:dK d d'):ti (.agg [a,b,c,d]) (.agg [a',b',c',d']):=by
 intro ok w v hr;obtain⟨vs,e,hl⟩:=hr;refine⟨vs,e,?_⟩
 generalize vs.toList=l at hl⊢
 match l,hl with
 |[x,y,z,u],⟨k1,k2,k3,k4,_⟩=>exact⟨aA.bh (h1 ok w x (aO.dV k1)),aA.bh (h2 ok w y (aO.dV k2)),aA.bh (h3 ok w z (aO.dV k3)),aA.bh (h4 ok w u (aO.dV k4)),trivial⟩
theorem IE {x:Rat}{b1 b2:Bool}{m1 m2:C}(k1:m1= .nil∨∃xs,m1= .ints .u32 xs)(k2:m2= .nil∨∃xs,m2= .ints .u32 xs)(c1:Pr prog 243 [ZV x.num] (.aF [.agg [.bool false,m1],.one (.bool b1)]))
  (c2:Pr prog 243 [ZV (x.den:Int)] (.aF [.agg [.bool false,m2],.one (.bool b2)])) (h:¬(b1=true∧b2=true)):Pr prog 228 [QV x] (.aF [.agg [.bool false,.nil,.bool false,.nil],.one (.bool false)]):=by
 rcases k1 with rfl|⟨x1,rfl⟩<;>rcases k2 with rfl|⟨x2,rfl⟩<;>cases b1<;>cases b2
 ·refine pw func228 ⟨[0,1,2,3,4,5,6,7,25],[]⟩ ?_;simp only[Tryz.f228,ntmps228,iz,seval];simp only[vx,T,seval,QV,QC,ZV];refine Cg c1 ?_;simp only[vx,T,seval,QV,QC,ZV];refine Cg c2 ?_;simp only[vx,T,seval,QV,QC,ZV];exact Ve rfl
 ·refine pw func228 ⟨[0,1,2,3,4,5,6,7,25],[]⟩ ?_;simp only[Tryz.f228,ntmps228,iz,seval];simp only[vx,T,seval,QV,QC,ZV];refine Cg c1 ?_;simp only[vx,T,seval,QV,QC,ZV];refine Cg c2 ?_;simp only[vx,T,seval,QV,QC,ZV];exact Ve rfl
 ·refine pw func228 ⟨[0,1,2,3,4,5,6,7,25],[]⟩ ?_;simp only[Tryz.f228,ntmps228,iz,seval];simp only[vx,T,seval,QV,QC,ZV];refine Cg c1 ?_;simp only[vx,T,seval,QV,QC,ZV];refine Cg c2 ?_;simp only[vx,T,seval,QV,QC,ZV];exact Ve rfl
 ·exact absurd ⟨rfl,rfl⟩ h
 ·refine pw func228 ⟨[0,1,2,3,4,5,6,7,25],[]⟩ ?_;simp only[Tryz.f228,ntmps228,iz,seval];simp only[vx,T,seval,QV,QC,ZV];refine Cg c1 ?_;simp only[vx,T,seval,QV,QC,ZV];refine Cg c2 ?_;simp only[vx,T,seval,QV,QC,ZV];exact Ve rfl
 ·refine pw func228 ⟨[0,1,2,3,4,5,6,7,25],[]⟩ ?_;simp only[Tryz.f228,ntmps228,iz,seval];simp only[vx,T,seval,QV,QC,ZV];refine Cg c1 ?_;simp only[vx,T,seval,QV,QC,ZV];refine Cg c2 ?_;simp only[vx,T,seval,QV,QC,ZV];exact Ve rfl
 ·refine pw func228 ⟨[0,1,2,3,4,5,6,7,25],[]⟩ ?_;simp only[Tryz.f228,ntmps228,iz,seval];simp only[vx,T,seval,QV,QC,ZV];refine Cg c1 ?_;simp only[vx,T,seval,QV,QC,ZV];refine Cg c2 ?_;simp only[vx,T,seval,QV,QC,ZV];exact Ve rfl
 ·exact absurd ⟨rfl,rfl⟩ h
 ·refine pw func228 ⟨[0,1,2,3,4,5,6,7,25],[]⟩ ?_;simp only[Tryz.f228,ntmps228,iz,seval];simp only[vx,T,seval,QV,QC,ZV];refine Cg c1 ?_;simp only[vx,T,seval,QV,QC,ZV];refine Cg c2 ?_;simp only[vx,T,seval,QV,QC,ZV];exact Ve rfl
 ·refine pw func228 ⟨[0,1,2,3,4,5,6,7,25],[]⟩ ?_;simp only[Tryz.f228,ntmps228,iz,seval];simp only[vx,T,seval,QV,QC,ZV];refine Cg c1 ?_;simp only[vx,T,seval,QV,QC,ZV];refine Cg c2 ?_;simp only[vx,T,seval,QV,QC,ZV];exact Ve rfl
 ·refine pw func228 ⟨[0,1,2,3,4,5,6,7,25],[]⟩ ?_;simp only[Tryz.f228,ntmps228,iz,seval];simp only[vx,T,seval,QV,QC,ZV];refine Cg c1 ?_;simp only[vx,T,seval,QV,QC,ZV];refine Cg c2 ?_;simp only[vx,T,seval,QV,QC,ZV];exact Ve rfl
 ·exact absurd ⟨rfl,rfl⟩ h
 ·refine pw func228 ⟨[0,1,2,3,4,5,6,7,25],[]⟩ ?_;simp only[Tryz.f228,ntmps228,iz,seval];simp only[vx,T,seval,QV,QC,ZV];refine Cg c1 ?_;simp only[vx,T,seval,QV,QC,ZV];refine Cg c2 ?_;simp only[vx,T,seval,QV,QC,ZV];exact Ve rfl
 ·refine pw func228 ⟨[0,1,2,3,4,5,6,7,25],[]⟩ ?_;simp only[Tryz.f228,ntmps228,iz,seval];simp only[vx,T,seval,QV,QC,ZV];refine Cg c1 ?_;simp only[vx,T,seval,QV,QC,ZV];refine Cg c2 ?_;simp only[vx,T,seval,QV,QC,ZV];exact Ve rfl
 ·refine pw func228 ⟨[0,1,2,3,4,5,6,7,25],[]⟩ ?_;simp only[Tryz.f228,ntmps228,iz,seval];simp only[vx,T,seval,QV,QC,ZV];refine Cg c1 ?_;simp only[vx,T,seval,QV,QC,ZV];refine Cg c2 ?_;simp only[vx,T,seval,QV,QC,ZV];exact Ve rfl
 exact absurd ⟨rfl,rfl⟩ h
theorem AN {x:Rat}(hx:qm x<2^38)(h:zu x=none):Pr prog 228 [QV x] (.aF [.agg [.bool false,.nil,.bool false,.nil],.one (.bool false)]):=by
 unfold qm at hx;obtain⟨m1,k1,c1,_⟩:=mZ x.num (by omega);obtain⟨m2,k2,c2,_⟩:=mZ (x.den:Int) (by rw[aC];omega);refine IE k1 k2 c1 c2 fun⟨h1,h2⟩=>?_;have h1:=of_decide_eq_true h1;have h2:=of_decide_eq_true h2;unfold zu at h;rw[if_pos ⟨h1.1,h1.2,h2.2⟩]at h;cases h
theorem BW {x r:Rat}(hx:qm x<2^38)(h:zu x=some r):Pr prog 228 [QV x] (.aF [QV r,.one (.bool true)]):=by
 obtain⟨_,s1,s2,s3,s4,s5⟩:=pQ h;unfold qm at hx;obtain⟨m1,k1,c1,l1⟩:=mZ x.num (by omega);obtain⟨m2,k2,c2,l2⟩:=mZ (x.den:Int) (by rw[aC];omega);rw[decide_eq_true ⟨s1,s2⟩]at c1;rw[decide_eq_true ⟨by omega,s3⟩]at c2;have l1:=l1 s1;have l2:=l2 (by omega);have hz1:zs r.num=false:=dz.2 (by omega);have Ye:zs (r.den:Int)=false:=dz.2 (by omega);have fin:fT (.aF [.agg [.bool false,m1,.bool false,m2],.one (.bool true)]) (.aF [QV r,.one (.bool true)]):=by
  refine fT.aF ⟨?_,.refl _,trivial⟩;unfold QV QC;rw[hz1,Ye,s4,s5];exact yT (.refl _) l1 (.refl _) l2
 rcases k1 with rfl|⟨x1,rfl⟩<;>rcases k2 with rfl|⟨x2,rfl⟩
 ·refine pw func228 ⟨[0,1,2,3,4,5,6,7,25],[]⟩ ?_;simp only[Tryz.f228,ntmps228,iz,seval];simp only[vx,T,seval,QV,QC,ZV];refine Cg c1 ?_;simp only[vx,T,seval,QV,QC,ZV];refine Cg c2 ?_;simp only[vx,T,seval,QV,QC,ZV];exact fin
 ·refine pw func228 ⟨[0,1,2,3,4,5,6,7,25],[]⟩ ?_;simp only[Tryz.f228,ntmps228,iz,seval];simp only[vx,T,seval,QV,QC,ZV];refine Cg c1 ?_;simp only[vx,T,seval,QV,QC,ZV];refine Cg c2 ?_;simp only[vx,T,seval,QV,QC,ZV];exact fin
 ·refine pw func228 ⟨[0,1,2,3,4,5,6,7,25],[]⟩ ?_;simp only[Tryz.f228,ntmps228,iz,seval];simp only[vx,T,seval,QV,QC,ZV];refine Cg c1 ?_;simp only[vx,T,seval,QV,QC,ZV];refine Cg c2 ?_;simp only[vx,T,seval,QV,QC,ZV];exact fin
 refine pw func228 ⟨[0,1,2,3,4,5,6,7,25],[]⟩ ?_;simp only[Tryz.f228,ntmps228,iz,seval];simp only[vx,T,seval,QV,QC,ZV];refine Cg c1 ?_;simp only[vx,T,seval,QV,QC,ZV];refine Cg c2 ?_;simp only[vx,T,seval,QV,QC,ZV];exact fin
open Go Go.Eng
open Go.Tw (El aB aJ zE ai ar aq ao ae QB mS ah ag aP aI tB aX aG cC lY)
theorem qy {X h:Nat}(Rw:1≤X)(hX:X≤2^30){t:List El}{a n:El}(W:TQ h t)(ha:a.length=2^h)(hi:lY X h t a)(hn:cC h t a=some n):
  Pr prog 147 [tV h t,eV a] (.aF [eV n,.one (.int .i64 0)]):=by
 have f:=dB W.tk a ha (.of hi.qb (by omega));have c:=(oT Rw hX W ha hi).1 n hn;refine pw func147 ⟨[0,1,4,5,6,7,11,19],[]⟩ ?_;simp only[Tryz.f147,ntmps147,iz,seval];simp only[vx,T,seval,tV,tC,eV,aa];refine Cg f ?_;simp only[vx,T,seval,tV,tC,eV,aa];refine Cg c ?_;simp only[vx,T,seval,tV,tC,eV,aa];exact Ve rfl
open Go Go.Eng
open Go.Tw (El aB aJ zE ai ar aq ao ae QB mS ah ag aP aI tB aX aG)
theorem tD (z:Int)(hz:zn z<2^40):Pr prog 257 [ZV z] (ZV z):=by
 have c:=fO z (by omega);have d:=xR z.natAbs (by show nl z.natAbs<_;unfold zn at hz;omega);have s:=b5 (zs z) z.natAbs (by unfold zn at hz;omega);have e:fJ (zs z) z.natAbs=z:=b9 z;rw[e]at s;refine pw func257 ⟨[0,1,2],[]⟩ ?_;simp only[Tryz.f257,ntmps257,iz,seval];simp only[vx,T,seval,ZV];refine Cg c ?_;simp only[vx,T,seval,ZV];refine Cg d ?_;simp only[vx,T,seval,ZV];refine Cg s ?_;simp only[vx,T,seval,ZV];exact Ve rfl
theorem BF (n:Int)(d:Nat)(hn:zn n<2^39)(hd:nl d<2^39)(h0:0<d):Pr prog 253 [ZV n,ZV (d:Int)] (.aF [QV (mkRat n d),.one (.int .i64 0)]):=by
 have n1:=tD n (by omega);have n2:=tD (d:Int) (by rw[aC];omega);have z:=mq (d:Int);rw[decide_eq_false (by omega)]at z;have lo:=fg n d (by omega) (by omega) h0;refine pw func253 ⟨[0,1,2,3,4,5,11],[]⟩ ?_;simp only[Tryz.f253,ntmps253,iz,seval];simp only[vx,T,seval,ZV];refine Cg n1 ?_;simp only[vx,T,seval,ZV];refine Cg n2 ?_;simp only[vx,T,seval,ZV];refine Cg z ?_;simp only[vx,T,seval,ZV];refine Cg lo ?_;simp only[vx,T,seval,ZV,QV,QC];exact Ve rfl
theorem BN (n:Int)(d:Nat)(hn: -9223372036854775808≤n∧n≤9223372036854775807)(hd:d≤9223372036854775807)(h0:0<d)(k1:zn n<2^39)(k2:nl d<2^39):
  Pr prog 245 [.one (.int .i64 n),.one (.int .i64 d)] (QV (mkRat n d)):=by
 have c1:=gX n hn.1 hn.2;have c2:=gX (d:Int) (by omega) (by omega);have m:=BF n d k1 k2 h0;refine pw func245 ⟨[0,1,4,5,6,16],[]⟩ ?_;simp only[Tryz.f245,ntmps245,iz,seval];simp only[vx,T,seval,ZV];refine Cg c1 ?_;simp only[vx,T,seval,ZV];refine Cg c2 ?_;simp only[vx,T,seval,ZV];refine Cg m ?_;simp only[vx,T,seval,ZV,QV,QC];exact Ve rfl
theorem GZ {X h:Nat}{q:Rat}(h0:qm 0≤X)(hq:qm q≤X):QB X (aX h q):=fun x hx=>by
 unfold aX at hx
 rcases List.mem_cons.1 hx with rfl|hx
 ·exact hq
 rw[List.eq_of_mem_replicate hx];exact h0
theorem Cn {X h:Nat}{t:List El}{a:El}(Rw:1≤X)(hX:X≤2^31)(W:TQ h t)(ha:a.length=2^h)(hq:QB X a):
  Pr prog 231 [tV h t,eV a] (eV (ai h t a (aX h (mkRat 1 2)))):=by
 have c:=BN 1 2 (by decide) (by decide) (by decide) (by decide+kernel) (by decide+kernel);have f:=eD W.tk (mkRat 1 2) (by decide+kernel);have m:=F0 W ha aG Rw (by decide) (by omega) hq (GZ (X:=8) (h:=h) (q:=mkRat 1 2) (by decide+kernel) (by decide+kernel));refine pw func231 ⟨[0,1,4],[]⟩ ?_;simp only[Tryz.f231,ntmps231,iz,seval];simp only[vx,T,seval,tV,tC,eV,aa];refine Cg c ?_;simp only[vx,T,seval,tV,tC,eV,aa,QV,QC];refine Cg f ?_;simp only[vx,T,seval,tV,tC,eV,aa];refine Cg m ?_;simp only[vx,T,seval,tV,tC,eV,aa];exact Ve rfl
open Go Go.Proofs Go.RowKit Go.Eng
set_option maxRecDepth 100000 in
theorem AT (k:Nat)(h0:0<k)(hb:k*64≤140737488355328)(w:World)(i:TypeInfo)(z:Value)(hi:prog.info? 62=some i)(hz:i.zero=some z)(hs:i.size=4)(V4:i.bytes=64):
  Calls prog 244 #[.slice none 0 0,.int .i64 k] w fun e w'=>e= .returned (.slice (some ⟨w.heap.size,0,none⟩) 0 (grownCap w k 0 62))∧
   w'=w.drew.alloc (.cells (Builtin.zeroCells z.cells k++Builtin.zeroCells z.cells (grownCap w k 0 62-k)) 62):=by
 have h1:¬((k:Int)<0):=by omega
 have h3:wrap64 ((k:Int)-(((0:Nat):Int)-((0:Nat):Int)))=(k:Int):=by unfold wrap64;omega
 have h4:(k:Int)>0:=by omega
 have Zp:∀ty,(Builtin.append_ #[35,3] ty #[.slice none 0 0,.int .i64 (k:Int)]).run prog w=
   .ok (.slice (some ⟨w.heap.size,0,none⟩) k (grownCap w k 0 62)) (w.drew.alloc (.cells (Builtin.zeroCells z.cells k++Builtin.zeroCells z.cells (grownCap w k 0 62-k)) 62)):=fun ty=>
  Lib.run_append_nil_zeros w 35 3 ty 62 i z .i64 .i64 (by rfl) (by rfl) hi hz k h0 (by omega) (by omega) (by rw[V4];omega)
 obtain⟨G,hG⟩:∃G,G=grownCap w k 0 62:=⟨_,rfl⟩;rw[←hG]at Zp⊢;have hGn:k≤G:=by rw[hG];exact grownCap_ge w _ _ _
 clear hG
 go_enter func244,ntmps244
 go_wp2_with (at_builtin;refine Lib.wpList_append_run _ rfl _ _ _ _ rfl _ _ rfl rfl _ _ (Zp _) ?_)
 all_goals(go_ret;exact⟨rfl,rfl⟩)
set_option maxRecDepth 100000 in
theorem BX (w:World):Calls prog 244 #[.slice none 0 0,.int .i64 0] w fun e w'=>e= .returned (.slice none 0 0)∧w'=w:=by
 go_enter func244,ntmps244
 go_wp2
 go_ret
 exact⟨rfl,rfl⟩
theorem CB (k:Nat)(hb:k*64≤140737488355328):Fr prog 244 [.one .nil,.one (.int .i64 k)] (.rows 62 4 0 (fun _ _=>.any)):=by
 obtain⟨i,d,z,hi,hu,hz,_,hs,V4,SF,_⟩:=bD BU (show T 62=some _ from rfl);have hs:i.size=4:=hs.symm;have V4:i.bytes=64:=V4.symm;refine⟨⟨_,func244,by rfl,by rfl⟩,trivial,fun ok w vs RW hr=>?_⟩;obtain⟨vs⟩:=vs
 match vs,hr with
 |[v,u],hr=>
  obtain⟨hv,hu,_⟩:=hr;have hv:v= .slice none 0 0:=hv;have hu:u= .int .i64 k:=hu;subst hv hu
  by_cases h0:k=0
  ·subst h0
   refine(BX w).mono ?_
   rintro e w' ⟨rfl,rfl⟩;exact⟨_,⟨none,0⟩,rfl,Go.RowKit.Below.refl _ _,rfl,(fun g o h=>by cases h),(fun j=>by simp[Bk.cell]),trivial,Nat.le_refl _,0,Nat.le_refl _,.inr ⟨rfl,rfl,rfl,rfl⟩⟩
  refine(AT k (by omega) hb w i z hi hz hs V4).mono ?_
  rintro e w' ⟨rfl,rfl⟩;have Tn:z.cells.size=4:=by
   have:=congrArg List.length SF
   simpa[T]using this.symm
  have hGn:k≤grownCap w k 0 62:=grownCap_ge w _ _ _;refine⟨_,⟨some (w.heap.size,0),0⟩,rfl,((Go.RowKit.Below.refl _ w).drew).alloc (Nat.le_refl _) _,rfl,fun g o h=>?_,?_,trivial,Nat.le_refl _,grownCap w k 0 62,Nat.zero_le _,.inl ⟨w.heap.size,0,0,rfl,rfl,.inr (by simp),?_⟩⟩
  ·have:w.heap.size=g:=by simpa using congrArg (Option.map Prod.fst) h
   subst this;exact⟨Nat.le_refl _,by simp⟩
  ·unfold aL;refine⟨_,62,heap_alloc_new w.drew _,fun j c hj=>?_⟩
   simp[Bk.cell]at hj
  have SR:cd (w.drew.alloc (.cells (Builtin.zeroCells z.cells k++Builtin.zeroCells z.cells (grownCap w k 0 62-k)) 62)) w.heap.size=(Builtin.zeroCells z.cells k++Builtin.zeroCells z.cells (grownCap w k 0 62-k)).size:=dH (heap_alloc_new w.drew _);rw[SR];simp only[Array.size_append,size_zeroCells,Tn,Bk.wd];omega
end Go.Proofs.YthnkehdgnagmnaaGreat
namespace Go.Eng
open Go
theorem fV {P:Program}{f:FuncId}{xs ys:List V}{B:Bk}(h:Fr P f ys B)(ha:yr xs ys):Fr P f xs B:=
 ⟨h.1,h.2.1,fun ok w vs RW R1=>h.2.2 ok w vs RW (ha.rep R1)⟩
theorem nf {α:Type}{ps:List (List α)}{i:Nat}(h:i<ps.length):(ps.take (i+1)).flatten=(ps.take i).flatten++ps.getD i default:=by
 rw[List.take_add_one,List.flatten_append,X7,X8 h];simp
theorem jQ {α:Type}(ps:List (List α))(i:Nat):(ps.take i).flatten.length≤ps.flatten.length:=by
 conv=>rhs;rw[←List.take_append_drop i ps,List.flatten_append,X6]
 exact Nat.le_add_right _ _
end Go.Eng
namespace Go.Proofs.YthnkehdgnagmnaaGreat
open Go.Proofs.Tryz
open Go Go.Eng
open Go.Tw (El)
def fG (l:List (Nat→C))(i j:Nat):C:=l.getD i (fun _=>.any) j
def GC (l:List (Nat→C)):C:=.rows 4 l.length (fG l)
theorem PR (p q:List (Nat→C)):∀(i j:Nat),i<p.length+q.length→j<4→(if i<p.length then fG p i j else fG q (i-p.length) j)=fG (p++q) i j:=by
 intro i j _ _;unfold fG
 by_cases h:i<p.length
 ·rw[if_pos h,X7,X7,List.getElem?_append_left h]
 rw[if_neg h,X7,X7,List.getElem?_append_right (by omega)]
theorem xr (ps:List (List (Nat→C)))(hl:ps.flatten.length<2^38)(hk:ps.length<2^38):Fr prog 229 [.one (.rows 1 ps.length (fun i _=>GC (ps.getD i default)))] (.rows 62 4 (ps.flatten).length (fG (ps.flatten))):=by
 refine fw func229 ⟨[0,2,3,5,6,8,9,10,11,12,20,25,26,27,28],[]⟩ ?_;simp only[Tryz.f229,ntmps229,iz,seval];simp only[vx,T,seval];refine Lk (fun y:{i:Nat//i≤ps.length}=>⟨[(0,.one (.rows 1 ps.length (fun i _=>GC (ps.getD i default)))),(3,.one (.int .i64 (ps.take y.1).flatten.length)),(9,.one (.rows 1 ps.length (fun i _=>GC (ps.getD i default)))),(10,.one (.int .i64 ps.length)),(11,.one (.int .i64 y.1))],[],1,36⟩) (fun y=>ps.length-y.1) ⟨0,Nat.zero_le _⟩ ?_ (fun⟨i,hi⟩=>?_)
 ·refine Sa ?_;simp only[ry,seval,rz]
 have h0:=jQ ps i;have i1:=wI i (by omega);simp only[vx,T,seval];refine⟨fun h1=>Lg ?_,fun h1=>Lg ?_⟩
 ·have hs:=nf (ps:=ps) (i:=i) (by omega);have h2:=jQ ps (i+1);have U0:(ps.take (i+1)).flatten.length=(ps.take i).flatten.length+(ps.getD i default).length:=by rw[hs,X6]
  obtain⟨a,ha⟩:∃a,a=ps.getD i default:=⟨_,rfl⟩;rw[←ha]at U0;have w1:IntKind.i64.wrap (((ps.take i).flatten.length:Int)+a.length)=((ps.take (i+1)).flatten.length:Int):=by rw[IntWalk.i64_in _ (by omega)];omega
  simp only[vx,T,seval,GC,←ha];simp only[w1];refine⟨by omega,fun h=>absurd h (by omega),fun _=>Lg ?_⟩;simp only[vx,T,seval,GC,←ha];simp only[i1];refine Lq ⟨i+1,by omega⟩ ?_ ?_
  ·refine Sa ?_;simp only[ry,seval,rz]
  simp only;omega
 have V3:i=ps.length:=by omega
 subst V3;rw[List.take_length];simp only[vx,T,seval];refine cH.fresh (CB ps.flatten.length (by omega)) ?_;simp only[vx,T,seval];refine Lk (fun y:{i:Nat//i≤ps.length}=>⟨[(0,.one (.rows 1 ps.length (fun i _=>GC (ps.getD i default)))),(6,.one (.own 1 4 0 (ps.take y.1).flatten.length)),(25,.one (.rows 1 ps.length (fun i _=>GC (ps.getD i default)))),(26,.one (.int .i64 ps.length)),(27,.one (.int .i64 y.1))],[(1,⟨(.rows 62 4 ((ps.take y.1).flatten).length (fG ((ps.take y.1).flatten))),true⟩)],2,36⟩) (fun y=>ps.length-y.1) ⟨0,Nat.zero_le _⟩ ?_ (fun⟨i,hi⟩=>?_)
 ·refine Sa ?_;simp only[ry,seval,rz];exact fun i j h=>absurd h (by omega)
 have h0:=jQ ps i;have i1:=wI i (by omega);simp only[vx,T,seval];refine⟨fun h1=>Lg ?_,fun h1=>Lg ?_⟩
 ·have hs:=nf (ps:=ps) (i:=i) (by omega);have h2:=jQ ps (i+1);have U0:(ps.take (i+1)).flatten.length=(ps.take i).flatten.length+(ps.getD i default).length:=by rw[hs,X6]
  obtain⟨a,ha⟩:∃a,a=ps.getD i default:=⟨_,rfl⟩;rw[←ha]at U0 hs;simp only[vx,T,seval,GC,←ha];simp only[i1];refine⟨by omega,by rw[←X6,←hs];omega,Lq ⟨i+1,by omega⟩ ?_ ?_⟩
  ·refine Sa ?_;simp only[ry,seval,rz,hs];exact⟨by simp,by simp,PR _ _⟩
  simp only;omega
 have V3:i=ps.length:=by omega
 subst V3;rw[List.take_length];simp only[vx,T,seval];exact⟨rfl,rfl,fun _ _ _ _=>rfl⟩
theorem x5 (l:El):dK (aa l) (GC (l.map qC)):=dK.rows (List.length_map _).symm fun i j hi _=>.of_eq (by
 unfold fG;rw[X7,X7,List.getElem?_map,X8 hi];rfl)
theorem FF (l:El):dK (GC (l.map qC)) (aa l):=dK.rows (List.length_map _) fun i j hi _=>.of_eq (by
 have hi:i<l.length:=by rw[List.length_map]at hi;exact hi
 unfold fG;rw[X7,X7,List.getElem?_map,X8 hi];rfl)
theorem C6 {x y:C}{p q:List (Nat→C)}(hx:dK x (GC p))(hy:dK y (GC q))(hl:p.length+q.length<2^38):
  Pr prog 229 [.one (.rows 1 2 (fun i j=>[x,y].getD (i*1+j) .any))] (.one (GC (p++q))):=by
 have c:=(xr [p,q] (by simpa using hl) (by simp)).rows;have e:[p,q].flatten=p++q:=by simp
 rw[e]at c;refine c.args ⟨.cell (.rows rfl fun i j hi hj=>?_),trivial⟩;obtain rfl:j=0:=by omega
 match i,hi with
 |0,_=>exact hx
 |1,_=>exact hy
theorem Pz (a b:El)(hl:a.length+b.length<2^38):Pr prog 229 [.one (.rows 1 2 (fun i j=>[aa a,aa b].getD (i*1+j) .any))] (eV (a++b)):=by
 have c:=C6 (x5 a) (x5 b) (by simpa using hl);rw[←List.map_append]at c;exact c.res (fT.cell (FF _))
open Go Go.Eng
open Go.Tw (El aB aJ zE ai ar aq ao ae QB mS ah ag aP aI tB aX aG cC lY kU gT val In)
def JK (h:Nat)(t:List El)(a:El)(f:FuncId):Prop:=
 (∃b,b.length=2^h∧val h t b*val h t b=val h t a∧Pr prog f [tV h t,eV a] (.aF [eV b,.one (.bool true)]))∨
 (Go.Tw.l6 h t (val h t a)∧∃l:List (Nat→C),l.length≤2^h∧Pr prog f [tV h t,eV a] (.aF [.one (GC l),.one (.bool false)]))
theorem xd {t:List El}{x r:Rat}(hx:qm x<2^38)(h:zu x=some r):Pr prog 219 [tV 0 t,eV [x]] (.aF [eV [r],.one (.bool true)]):=by
 have c:=BW hx h;refine pw func219 ⟨[0,1,4,5,6,7,8,9,10,11,12,13,14,15,16,17,18,19,21,22,23,24,28,61,68,82,108,117,118,119,120,136],[(4,.nil),(5,.nil)]⟩ ?_;simp only[Tryz.f219,ntmps219,iz,seval];simp only[vx,T,seval,QV,QC,tV,tC,eV,aa,qC,X0];refine Cg c ?_;simp only[vx,T,seval,QV,QC,tV,tC,eV,aa,qC,X0];refine fT.aF ⟨.cell (.rows rfl fun i j hi _=>.of_eq ?_),.refl _,trivial⟩;obtain rfl:i=0:=by omega
 rw[Nat.zero_mul,Nat.zero_add];exact dx r rfl j
theorem wX {t:List El}{x:Rat}(hx:qm x<2^38)(h:zu x=none):Pr prog 219 [tV 0 t,eV [x]] (.aF [.one zR,.one (.bool false)]):=by
 have c:=AN hx h;refine pw func219 ⟨[0,1,4,5,6,7,8,9,10,11,12,13,14,15,16,17,18,19,21,22,23,24,28,61,68,82,108,117,118,119,120,136],[(4,.nil),(5,.nil)]⟩ ?_;simp only[Tryz.f219,ntmps219,iz,seval];simp only[vx,T,seval,QV,QC,tV,tC,eV,aa,qC,X0];refine Cg c ?_;simp only[vx,T,seval,QV,QC,tV,tC,eV,aa,qC,X0];exact Ve rfl
theorem KG {t:List El}{a:El}(ha:a.length=2^0)(hq:Qk a):JK 0 t a 219:=by
 obtain⟨x,rfl⟩:=Go.Tw.bA ha;have hx:qm x<2^38:=hq x (by simp)
 cases h:zu x with
 |some r=>
  refine .inl ⟨[r],rfl,?_,xd hx h⟩;show R.q r*R.q r=R.q x;rw[←R.dU,(pQ h).1]
 |none=>
  refine .inr ⟨?_,[fun j=>[C.bool false,.nil,.bool false,.nil].getD j .any],Nat.le_refl _,(wX hx h).res (fT.aF ⟨.cell (.rows rfl fun i j hi _=>.of_eq ?_),.refl _,trivial⟩)⟩
  rotate_left
  ·obtain rfl:i=0:=by omega
   rw[Nat.zero_mul,Nat.zero_add];rfl
  rintro z ⟨b,hb,rfl⟩ e;obtain⟨y,rfl⟩:=Go.Tw.bA hb;have e:R.q y*R.q y=R.q x:=e;rw[←R.dU]at e;exact zD h y (R.kr e)
open Go Go.Eng
open Go.Tw (El aB aJ zE ai ar aq ao ae QB mS ah ag aP aI tB aX aG cC lY kU gT val In)
theorem BL {h:Nat}:aX h (Rat.ofInt 0)=zE (2^h):=by
 have:=Nat.two_pow_pos h
 show(0:Rat)::List.replicate (2^h-1) 0=List.replicate (2^h) 0
 rw[←List.replicate_succ];congr 1;omega
theorem Mn {f:FuncId}{r:V}{h n:Nat}{t:List El}{a:El}(c:Pr prog f [tV h t,eV (a.take n)] r)(hn:n≤a.length):Pr prog f [tV h t,.one (.rows 4 n (fun i=>qC (a.getD i default)))] r:=
 c.args ⟨.refl _,.cell (fu hn),trivial⟩
theorem Fb {X h:Nat}(hX:X≤2^30){t:List El}{a w:El}(W:TQ (h+1) t)(ha:a.length=2^(h+1))(hq:QB X a)(hv:a.drop (2^h)=zE (2^h))(hw:w.length=2^h)
  (c:Pr prog 219 [tV h t,eV (a.take (2^h))] (.aF [eV w,.one (.bool true)])):
  Pr prog 219 [tV (h+1) t,eV a] (.aF [eV (w++zE (2^h)),.one (.bool true)]):=by
 have W':=W.le (Nat.le_succ h);have h3:=W.h3;have hp:2^h≤8:=Nat.pow_le_pow_right (n:=2) (by decide) (show h≤3 by omega);have z:=dj (a.drop (2^h)) (by rw[ag ha];omega) (.of (hq.drop _) (by omega));rw[decide_eq_true (by rw[ag ha];exact hv)]at z;have i0:=cP 0 (by decide) (by decide);have f:=eD W'.tk (Rat.ofInt 0) (by decide+kernel);rw[BL]at f;have k:=Pz w (zE (2^h)) (by rw[hw,ar];omega);have hn:(2^h:Nat)≤a.length:=by rw[ha,Nat.pow_succ];omega
 have z:=z.args (xs:=[.one (.rows 4 (a.length-2^h) (fun i=>qC (a.getD (2^h+i) default)))]) ⟨.cell eW,trivial⟩;have c:=Mn c hn;obtain⟨n,RK⟩:∃n,n=2^h:=⟨_,rfl⟩;have RT:a.length=2*n:=by rw[ha,Nat.pow_succ,RK];omega
 have w1:IntKind.i64.wrap (((h+1:Nat):Int)-1)=(h:Int):=by rw[IntWalk.i64_in _ (by omega)];omega
 have w2:IntKind.i64.wrap (((a.length:Nat):Int).tdiv 2)=(n:Int):=by
  rw[RT,Int.tdiv_eq_ediv_of_nonneg (by omega),IntWalk.i64_in _ (by omega)];omega
 have w4:((a.length:Int)-(n:Int)).toNat=a.length-n:=by omega
 rw[←RK]at z f c k hp⊢;refine pw func219 ⟨[0,1,4,5,6,7,8,9,10,11,12,13,14,15,16,17,18,19,21,22,23,24,28,61,68,82,108,117,118,119,120,136],[(4,.nil),(5,.nil)]⟩ ?_;simp only[Tryz.f219,ntmps219,iz,seval];simp only[vx,T,seval,tV,tC,eV,aa,QV,QC,w1,w2,w4];refine⟨fun h=>absurd h (by omega),fun _=>Lg ?_⟩;simp only[vx,T,seval,tV,tC,eV,aa,QV,QC,w1,w2,w4];refine⟨⟨by omega,by omega⟩,⟨by omega,by omega⟩,⟨by omega,by omega⟩,⟨by omega,by omega,by omega⟩,Cg z ?_⟩;simp only[vx,T,seval,tV,tC,eV,aa,QV,QC,w1,w2,w4];refine Cg c ?_;simp only[vx,T,seval,tV,tC,eV,aa,QV,QC,w1,w2,w4];refine Cg i0 ?_;simp only[vx,T,seval,tV,tC,eV,aa,QV,QC,w1,w2,w4];refine Cg f ?_;simp only[vx,T,seval,tV,tC,eV,aa,QV,QC,w1,w2,w4];refine Cg k ?_;simp only[vx,T,seval,tV,tC,eV,aa,QV,QC,w1,w2,w4];exact Ve rfl
theorem vp {X h:Nat}(hX:X≤2^30){t:List El}{a i:El}(W:TQ (h+1) t)(ha:a.length=2^(h+1))(hq:QB X a)(hv:a.drop (2^h)=zE (2^h)){p l:List (Nat→C)}{b:Bool}(TR:p.length≤2^h)(Rw:1≤X)
  (c:Pr prog 219 [tV h t,eV (a.take (2^h))] (.aF [.one (GC l),.one (.bool false)])) (hr:lY X h t (t.getD h [])) (hi:cC h t (t.getD h [])=some i) (qi:QB X i)
  (c2:Pr prog 219 [tV h t,eV (ai h t (a.take (2^h)) i)] (.aF [.one (GC p),.one (.bool b)])):
  Pr prog 219 [tV (h+1) t,eV a] (.aF [.one (GC ((zE (2^h)).map qC++p)),.one (.bool b)]):=by
 have W':=W.le (Nat.le_succ h);have h3:=W.h3;have hp:2^h≤8:=Nat.pow_le_pow_right (n:=2) (by decide) (show h≤3 by omega);have z:=dj (a.drop (2^h)) (by rw[ag ha];omega) (.of (hq.drop _) (by omega));rw[decide_eq_true (by rw[ag ha];exact hv)]at z;have i0:=cP 0 (by decide) (by decide);have f:=eD W'.tk (Rat.ofInt 0) (by decide+kernel);rw[BL]at f;have k:=C6 (x5 (zE (2^h))) (dK.refl (GC p)) (by rw[List.length_map,ar];omega);have lr:=W.tk.len h (by omega);have iv:=qy Rw hX W' lr hr hi;have m:=F0 W' (ah ha) (Go.Proofs.YthnkehdgnagmnaaGreat.jm hi) Rw Rw (by omega) (hq.take _) qi;have hn:(2^h:Nat)≤a.length:=by rw[ha,Nat.pow_succ];omega
 have z:=z.args (xs:=[.one (.rows 4 (a.length-2^h) (fun i=>qC (a.getD (2^h+i) default)))]) ⟨.cell eW,trivial⟩;have c:=Mn c hn;have m:=m.args (xs:=[tV h t,.one (.rows 4 (2^h) (fun i=>qC (a.getD i default))),eV i]) ⟨.refl _,.cell (fu hn),.refl _,trivial⟩;obtain⟨n,RK⟩:∃n,n=2^h:=⟨_,rfl⟩;have RT:a.length=2*n:=by rw[ha,Nat.pow_succ,RK];omega
 have w1:IntKind.i64.wrap (((h+1:Nat):Int)-1)=(h:Int):=by rw[IntWalk.i64_in _ (by omega)];omega
 have w2:IntKind.i64.wrap (((a.length:Nat):Int).tdiv 2)=(n:Int):=by
  rw[RT,Int.tdiv_eq_ediv_of_nonneg (by omega),IntWalk.i64_in _ (by omega)];omega
 have w4:((a.length:Int)-(n:Int)).toNat=a.length-n:=by omega
 obtain⟨r,RD⟩:∃r,r=t.getD h []:=⟨_,rfl⟩;rw[←RD]at iv;obtain⟨y,hy⟩:∃y,y=ai h t (a.take (2^h)) i:=⟨_,rfl⟩;rw[←hy]at m c2;rw[←RK]at z f c k m hp⊢;refine pw func219 ⟨[0,1,4,5,6,7,8,9,10,11,12,13,14,15,16,17,18,19,21,22,23,24,28,61,68,82,108,117,118,119,120,136],[(4,.nil),(5,.nil)]⟩ ?_;simp only[Tryz.f219,ntmps219,iz,seval];simp only[vx,T,seval,tV,tC,eV,aa,QV,QC,w1,w2,w4,←RD,GC];refine⟨fun h=>absurd h (by omega),fun _=>Lg ?_⟩;simp only[vx,T,seval,tV,tC,eV,aa,QV,QC,w1,w2,w4,←RD,GC];refine⟨⟨by omega,by omega⟩,⟨by omega,by omega⟩,⟨by omega,by omega⟩,⟨by omega,by omega,by omega⟩,Cg z ?_⟩;simp only[vx,T,seval,tV,tC,eV,aa,QV,QC,w1,w2,w4,←RD,GC];refine Cg c ?_;simp only[vx,T,seval,tV,tC,eV,aa,QV,QC,w1,w2,w4,←RD,GC];refine Cg iv ?_;simp only[vx,T,seval,tV,tC,eV,aa,QV,QC,w1,w2,w4,←RD,GC];refine Cg m ?_;simp only[vx,T,seval,tV,tC,eV,aa,QV,QC,w1,w2,w4,←RD,GC];refine Cg c2 ?_;simp only[vx,T,seval,tV,tC,eV,aa,QV,QC,w1,w2,w4,←RD,GC];refine Cg i0 ?_;simp only[vx,T,seval,tV,tC,eV,aa,QV,QC,w1,w2,w4,←RD,GC];refine Cg f ?_;simp only[vx,T,seval,tV,tC,eV,aa,QV,QC,w1,w2,w4,←RD,GC];refine Cg k ?_;simp only[vx,T,seval,tV,tC,eV,aa,QV,QC,w1,w2,w4,←RD,GC];exact Ve rfl
theorem Ew {X h:Nat}(hX:X≤2^30){t:List El}{a:El}(W:TQ (h+1) t)(ha:a.length=2^(h+1))(hq:QB X a)(hv:a.drop (2^h)≠zE (2^h)){l:List (Nat→C)}(Rw:1≤X)
  (c:Pr prog 219 [tV h t,eV (aP h t a)] (.aF [.one (GC l),.one (.bool false)])):
  Pr prog 219 [tV (h+1) t,eV a] (.aF [.one .nil,.one (.bool false)]):=by
 have W':=W.le (Nat.le_succ h);have h3:=W.h3;have hp:2^h≤8:=Nat.pow_le_pow_right (n:=2) (by decide) (show h≤3 by omega);have z:=dj (a.drop (2^h)) (by rw[ag ha];omega) (.of (hq.drop _) (by omega));rw[decide_eq_false (by rw[ag ha];exact hv)]at z;have cn:=uJ W a ha Rw hX hq;have hn:(2^h:Nat)≤a.length:=by rw[ha,Nat.pow_succ];omega
 have z:=z.args (xs:=[.one (.rows 4 (a.length-2^h) (fun i=>qC (a.getD (2^h+i) default)))]) ⟨.cell eW,trivial⟩;obtain⟨n,RK⟩:∃n,n=2^h:=⟨_,rfl⟩;have RT:a.length=2*n:=by rw[ha,Nat.pow_succ,RK];omega
 have w1:IntKind.i64.wrap (((h+1:Nat):Int)-1)=(h:Int):=by rw[IntWalk.i64_in _ (by omega)];omega
 have w2:IntKind.i64.wrap (((a.length:Nat):Int).tdiv 2)=(n:Int):=by
  rw[RT,Int.tdiv_eq_ediv_of_nonneg (by omega),IntWalk.i64_in _ (by omega)];omega
 have w4:((a.length:Int)-(n:Int)).toNat=a.length-n:=by omega
 rw[←RK]at z;refine pw func219 ⟨[0,1,4,5,6,7,8,9,10,11,12,13,14,15,16,17,18,19,21,22,23,24,28,61,68,82,108,117,118,119,120,136],[(4,.nil),(5,.nil)]⟩ ?_;simp only[Tryz.f219,ntmps219,iz,seval];simp only[vx,T,seval,tV,tC,eV,aa,QV,QC,w1,w2,w4,GC];refine⟨fun h=>absurd h (by omega),fun _=>Lg ?_⟩;simp only[vx,T,seval,tV,tC,eV,aa,QV,QC,w1,w2,w4,GC];refine⟨⟨by omega,by omega⟩,⟨by omega,by omega⟩,⟨by omega,by omega⟩,⟨by omega,by omega,by omega⟩,Cg z ?_⟩;simp only[vx,T,seval,tV,tC,eV,aa,QV,QC,w1,w2,w4,GC];refine Cg cn ?_;simp only[vx,T,seval,tV,tC,eV,aa,QV,QC,w1,w2,w4,GC];refine Cg c ?_;simp only[vx,T,seval,tV,tC,eV,aa,QV,QC,w1,w2,w4,GC];exact Ve rfl
def uX (u n:El)(j:Nat):El:=[aB u n,aB u (aJ n)].getD j []
theorem qS {X h:Nat}(hX:X≤2^30){t:List El}{a m w i:El}(W:TQ (h+1) t)(ha:a.length=2^(h+1))(hq:QB X a)(hv:a.drop (2^h)≠zE (2^h))(Rw:1≤X){k:Nat}{r:V}(hk:k≤2)
  (c:Pr prog 219 [tV h t,eV (aP h t a)] (.aF [eV m,.one (.bool true)])) (hm:m.length=2^h) (qm:QB X m) (qx:∀j,j<2→QB X (uX (a.take (2^h)) m j))
  (no:∀j,j<k→∃l:List (Nat→C),Pr prog 219 [tV h t,eV (ai h t (uX (a.take (2^h)) m j) (aX h (mkRat 1 2)))] (.aF [.one (GC l),.one (.bool false)]))
  (yes:k<2→r= .aF [eV (w++ai h t (a.drop (2^h)) i),.one (.bool true)]∧w.length=2^h∧w≠zE (2^h)∧QB X w∧lY X h t (aB w w)∧cC h t (aB w w)=some i∧QB X i∧
   Pr prog 219 [tV h t,eV (ai h t (uX (a.take (2^h)) m k) (aX h (mkRat 1 2)))] (.aF [eV w,.one (.bool true)]))
  (end':k=2→r= .aF [.one .nil,.one (.bool false)]):
  Pr prog 219 [tV (h+1) t,eV a] r:=by
 have W':=W.le (Nat.le_succ h);have h3:=W.h3;have hp:2^h≤8:=Nat.pow_le_pow_right (n:=2) (by decide) (show h≤3 by omega);have z:=dj (a.drop (2^h)) (by rw[ag ha];omega) (.of (hq.drop _) (by omega));rw[decide_eq_false (by rw[ag ha];exact hv)]at z;have cn:=uJ W a ha Rw hX hq;have lu:=ah ha;have sa:=mX W'.tk (a.take (2^h)) m lu hm (.of (hq.take _) (by omega)) (.of qm (by omega));have sb:=qD W'.tk (a.take (2^h)) m lu hm (.of (hq.take _) (by omega)) (.of qm (by omega));have lx:∀j,j<2→(uX (a.take (2^h)) m j).length=2^h:=fun j hj=>by
  match j,hj with
  |0,_=>exact ao lu hm
  |1,_=>exact ao lu (by rw[aq,hm])
 have hf:∀j,j<2→Pr prog 231 [tV h t,eV (uX (a.take (2^h)) m j)] (eV (ai h t (uX (a.take (2^h)) m j) (aX h (mkRat 1 2)))):=fun j hj=>Cn Rw (by omega) W' (lx j hj) (qx j hj);have hn:(2^h:Nat)≤a.length:=by rw[ha,Nat.pow_succ];omega
 have z:=z.args (xs:=[.one (.rows 4 (a.length-2^h) (fun i=>qC (a.getD (2^h+i) default)))]) ⟨.cell eW,trivial⟩;have sa:=sa.args (xs:=[tV h t,.one (.rows 4 (2^h) (fun i=>qC (a.getD i default))),eV m]) ⟨.refl _,.cell (fu hn),.refl _,trivial⟩;have sb:=sb.args (xs:=[tV h t,.one (.rows 4 (2^h) (fun i=>qC (a.getD i default))),eV m]) ⟨.refl _,.cell (fu hn),.refl _,trivial⟩;obtain⟨n,RK⟩:∃n,n=2^h:=⟨_,rfl⟩;have RT:a.length=2*n:=by rw[ha,Nat.pow_succ,RK];omega
 have w1:IntKind.i64.wrap (((h+1:Nat):Int)-1)=(h:Int):=by rw[IntWalk.i64_in _ (by omega)];omega
 have w2:IntKind.i64.wrap (((a.length:Nat):Int).tdiv 2)=(n:Int):=by
  rw[RT,Int.tdiv_eq_ediv_of_nonneg (by omega),IntWalk.i64_in _ (by omega)];omega
 have w4:((a.length:Int)-(n:Int)).toNat=a.length-n:=by omega
 obtain⟨u,hu⟩:∃u,u=a.take (2^h):=⟨_,rfl⟩;rw[←hu]at sa sb hf no yes lx qx;rw[←RK]at z sa sb;refine pw func219 ⟨[0,1,4,5,6,7,8,9,10,11,12,13,14,15,16,17,18,19,21,22,23,24,28,61,68,82,108,117,118,119,120,136],[(4,.nil),(5,.nil)]⟩ ?_;simp only[Tryz.f219,ntmps219,iz,seval];simp only[vx,T,seval,tV,tC,eV,aa,QV,QC,w1,w2,w4,GC];refine⟨fun h=>absurd h (by omega),fun _=>Lg ?_⟩;simp only[vx,T,seval,tV,tC,eV,aa,QV,QC,w1,w2,w4,GC];refine⟨⟨by omega,by omega⟩,⟨by omega,by omega⟩,⟨by omega,by omega⟩,⟨by omega,by omega,by omega⟩,Cg z ?_⟩;simp only[vx,T,seval,tV,tC,eV,aa,QV,QC,w1,w2,w4,GC];refine Cg cn ?_;simp only[vx,T,seval,tV,tC,eV,aa,QV,QC,w1,w2,w4,GC];refine Cg c ?_;simp only[vx,T,seval,tV,tC,eV,aa,QV,QC,w1,w2,w4,GC];refine Cg sa ?_;simp only[vx,T,seval,tV,tC,eV,aa,QV,QC,w1,w2,w4,GC];refine Cg sb ?_;simp only[vx,T,seval,tV,tC,eV,aa,QV,QC,w1,w2,w4,GC];refine Lk (fun y:{j:Nat//j≤k}=>⟨[(4,.one .nil),(5,.one (.bool false)),(8,tV h t),(11,.one (.rows 4 (a.length-n) (fun i=>qC (a.getD (n+i) default)))),(117,.one (.own 1 1 0 2)),(118,.one (.int .i64 2)),(119,.one (.int .i64 y.1))],[(1,⟨.rows 35 1 2 (fun j _=>aa (uX u m j)),true⟩)],2,154⟩) (fun y=>k-y.1) ⟨0,Nat.zero_le _⟩ ?_ (fun⟨j,hj⟩=>?_)
 ·refine Sa ?_;simp only[ry,seval,rz,tV,tC,eV,aa,GC];refine fun i j hi hj=>?_;obtain rfl:j=0:=by omega
  match i,hi with
  |0,_=>rfl
  |1,_=>rfl
 simp only;have wi:=wI j (by omega);simp only[vx,T,seval,tV,tC,eV,aa,QV,QC,w1,w2,w4,GC];refine⟨fun g=>Lg ?_,fun g=>Lg ?_⟩
 ·have Z3:=hf j (by omega);have Uy:=no j;obtain⟨x,hx⟩:∃x,x=uX u m j:=⟨_,rfl⟩;rw[←hx]at Z3 Uy;obtain⟨y,hy⟩:∃y,y=ai h t x (aX h (mkRat 1 2)):=⟨_,rfl⟩;rw[←hy]at Z3 Uy
  by_cases U9:j<k
  ·obtain⟨l,hl⟩:=Uy U9;simp only[vx,T,seval,tV,tC,eV,aa,QV,QC,w1,w2,w4,wi,←hx,GC];refine⟨⟨by omega,by omega⟩,Cg Z3 ?_⟩;simp only[vx,T,seval,tV,tC,eV,aa,QV,QC,w1,w2,w4,wi,←hx,GC];refine Cg hl ?_;simp only[vx,T,seval,tV,tC,eV,aa,QV,QC,w1,w2,w4,wi,←hx,GC];refine Lq ⟨j+1,by omega⟩ ?_ (by show k-(j+1)<k-j;omega);refine Sa ?_;simp only[ry,seval,rz,tV,tC,eV,aa,GC]
  obtain rfl:j=k:=by omega
  obtain⟨hr,hw,hw0,qw,iw,hi,qi,cw⟩:=yes (by omega);rw[←hx,←hy]at cw;rw[hr];have zw:=dj w (by omega) (.of qw (by omega));rw[decide_eq_false (by rw[hw];exact hw0)]at zw;have aw:=mX W'.tk w w hw hw (.of qw (by omega)) (.of qw (by omega));have iv:=qy Rw hX W' (ao hw hw) iw hi;have mw:=F0 W' (ag ha) (Go.Proofs.YthnkehdgnagmnaaGreat.jm hi) Rw Rw (by omega) (hq.drop _) qi;have mw:=mw.args (xs:=[tV h t,.one (.rows 4 (a.length-2^h) (fun i=>qC (a.getD (2^h+i) default))),eV i]) ⟨.refl _,.cell eW,.refl _,trivial⟩;have kw:=Pz w (ai h t (a.drop (2^h)) i) (by rw[hw,ae];omega);rw[←RK]at mw kw⊢;simp only[vx,T,seval,tV,tC,eV,aa,QV,QC,w1,w2,w4,wi,←hx,GC];refine⟨⟨by omega,by omega⟩,Cg Z3 ?_⟩;simp only[vx,T,seval,tV,tC,eV,aa,QV,QC,w1,w2,w4,wi,←hx,GC];refine Cg cw ?_;simp only[vx,T,seval,tV,tC,eV,aa,QV,QC,w1,w2,w4,wi,←hx,GC];refine Cg zw ?_;simp only[vx,T,seval,tV,tC,eV,aa,QV,QC,w1,w2,w4,wi,←hx,GC];refine Cg aw ?_;simp only[vx,T,seval,tV,tC,eV,aa,QV,QC,w1,w2,w4,wi,←hx,GC];refine Cg iv ?_;simp only[vx,T,seval,tV,tC,eV,aa,QV,QC,w1,w2,w4,wi,←hx,GC];refine Cg mw ?_;simp only[vx,T,seval,tV,tC,eV,aa,QV,QC,w1,w2,w4,wi,←hx,GC];refine Cg kw ?_;simp only[vx,T,seval,tV,tC,eV,aa,QV,QC,w1,w2,w4,wi,←hx,GC];exact Ve rfl
 have SX:k=2:=by omega
 rw[end' SX];simp only[vx,T,seval,tV,tC,eV,aa,QV,QC,w1,w2,w4,GC];exact Ve rfl
theorem Ax {h:Nat}:Go.Tw.wL h=aX h (mkRat 1 2):=by
 unfold Go.Tw.wL;rw[show (2:Rat)⁻¹=mkRat 1 2 from by decide+kernel]
theorem Qp {f:FuncId}{zs:List V}{w:El}{b:Bool}(c:Pr prog f zs (.aF [eV w,.one (.bool b)])):Pr prog f zs (.aF [.one (GC (w.map qC)),.one (.bool b)]):=
 c.res (fT.aF ⟨.cell (x5 w),.refl _,trivial⟩)
theorem Qw {f:FuncId}{zs:List V}{w:El}{b:Bool}(c:Pr prog f zs (.aF [.one (GC (w.map qC)),.one (.bool b)])):Pr prog f zs (.aF [eV w,.one (.bool b)]):=
 c.res (fT.aF ⟨.cell (FF w),.refl _,trivial⟩)
theorem Ea {f:FuncId}{zs:List V}(c:Pr prog f zs (.aF [.one .nil,.one (.bool false)])):Pr prog f zs (.aF [.one (GC []),.one (.bool false)]):=
 c.res (fT.aF ⟨.cell (.pM _ _),.refl _,trivial⟩)
theorem mA {X:Nat}(Rw:1≤X)(hX:X≤2^30){t:List El}:∀{h:Nat} {a:El},TQ h t→Go.Tw.Rd h t→a.length=2^h→kU X h t a→JK h t a 219
 |0,a,_,_,ha,hs=>KG ha (.of hs.qb (by omega))
 |h+1,a,W,D,ha,hs=>by
  have W':=W.le (Nat.le_succ h);have D':=D.le (Nat.le_succ h);have ih:=fun{b:El} (hb:b.length=2^h) (k:kU X h t b)=>mA Rw hX (a:=b) W' D' hb k;have hq:=hs.qb;have lz:(zE (2^h)).length=2^h:=ar;have eP:2^(h+1)=2^h+2^h:=by rw[Nat.pow_succ];omega
  obtain⟨_,s2,s3⟩:=hs
  by_cases hv:a.drop (2^h)=zE (2^h)
  ·obtain⟨g1,g2,g3⟩:=s2 hv
   rcases ih (ah ha) g1 with⟨w,lw,ew,cw⟩|⟨n1,l,hl,c⟩
   ·obtain⟨k1,k2⟩:=Go.Tw.Am hv lw ew;exact .inl ⟨_,k1,k2,Fb hX W ha hq hv lw cw⟩
   obtain⟨i,hi,_,_⟩:=Go.Tw.jn D' (D.rl h (by omega)).1 (R.ly (D.rl h (by omega)).2);obtain⟨qi,sq⟩:=g3 i hi
   rcases ih ae sq with⟨w,lw,ew,cw⟩|⟨n2,p,hp,c2⟩
   ·obtain⟨k1,k2⟩:=Go.Tw.yA D.rl ha hv hi lw ew;refine .inl ⟨_,k1,k2,Qw ?_⟩;rw[List.map_append];exact vp hX W ha hq hv (by rw[List.length_map,lw];exact Nat.le_refl _) Rw c g2 hi qi (Qp cw)
   refine .inr ⟨Go.Tw.Ak D ha hv hi n1 n2,_,?_,vp hX W ha hq hv hp Rw c g2 hi qi c2⟩;rw[X6,List.length_map,lz];omega
  obtain⟨g1,g2⟩:=s3 hv
  rcases ih aI g1 with⟨n,ln,en,cn⟩|⟨n1,l,hl,c⟩
  ·have lm:(aJ n).length=2^h:=by rw[aq,ln]
   have em:val h t (aJ n)*val h t (aJ n)=val h t (aP h t a):=by rw[Go.Tw.val_neg ln,R.neg_mul,R.mul_neg,R.neg_neg,en]
   obtain⟨k1,k2,k3,k4⟩:=g2 n ln en;obtain⟨k1',k2',Zq,Zr⟩:=g2 (aJ n) lm em;rw[Ax]at k3 k4 Zq Zr;have qx:∀j,j<2→QB X (uX (a.take (2^h)) n j):=fun j hj=>by
    match j,hj with
    |0,_=>exact k2
    |1,_=>exact k2'
   have fin:∀{m w:El},m.length=2^h→val h t m*val h t m=val h t (aP h t a)→w.length=2^h→val h t w*val h t w=val h t (ai h t (aB (a.take (2^h)) m) (aX h (mkRat 1 2)))→
     w≠zE (2^h)∧∃i,cC h t (aB w w)=some i∧(w++ai h t (a.drop (2^h)) i).length=2^(h+1)∧
      val (h+1) t (w++ai h t (a.drop (2^h)) i)*val (h+1) t (w++ai h t (a.drop (2^h)) i)=val (h+1) t a:=by
    intro m w lm em lw ew;have h0:=Go.Tw.xu D ha hv lm em ew;have h1:val h t (aB w w)≠R.q 0:=by
     rw[Go.Tw.val_add lw lw];exact fun e=>h0 (R.IY e)
    obtain⟨i,hi,li,vi⟩:=Go.Tw.jn D' (ao lw lw) h1;refine⟨fun e=>h0 (by rw[e,Go.Tw.val_zero]),i,hi,Go.Tw.wH D ha hv lm em lw ew ae ?_⟩;rw[Go.Tw.val_add lw lw]at vi;rw[Go.Tw.val_mul D'.rl (ag ha) li,←R.add_mul,R.mul_comm (val h t (a.drop (2^h))),←R.mul_assoc,vi,R.one_mul]
   rcases ih ae k3 with⟨w,lw,ew,cw⟩|⟨n1,l1,_,c1⟩
   ·obtain⟨w0,i,hi,f1,f2⟩:=fin ln en lw ew;obtain⟨m1,_,m3,_,m5⟩:=k4 w lw ew;exact .inl ⟨_,f1,f2,qS hX W ha hq hv Rw (k:=0) (by omega) cn ln k1 qx (fun j hj=>absurd hj (Nat.not_lt_zero _)) (fun _=>⟨rfl,lw,w0,m1,m3,hi,m5 i hi,cw⟩) (fun e=>absurd e (by decide))⟩
   have no1:∀j,j<1→∃l:List (Nat→C),Pr prog 219 [tV h t,eV (ai h t (uX (a.take (2^h)) n j) (aX h (mkRat 1 2)))] (.aF [.one (GC l),.one (.bool false)]):=fun j hj=>by
    obtain rfl:j=0:=by omega
    exact⟨l1,c1⟩
   rcases ih ae Zq with⟨w,lw,ew,cw⟩|⟨n2,l2,_,c2⟩
   ·obtain⟨w0,i,hi,f1,f2⟩:=fin lm em lw ew;obtain⟨m1,_,m3,_,m5⟩:=Zr w lw ew;exact .inl ⟨_,f1,f2,qS hX W ha hq hv Rw (k:=1) (by omega) cn ln k1 qx no1 (fun _=>⟨rfl,lw,w0,m1,m3,hi,m5 i hi,cw⟩) (fun e=>absurd e (by decide))⟩
   refine .inr ⟨Go.Tw.wO D ha hv ln en n1 n2,[],Nat.zero_le _,Ea (qS (w:=[]) (i:=[]) hX W ha hq hv Rw (k:=2) (by omega) cn ln k1 qx (fun j hj=>?_) (fun e=>absurd e (by decide)) (fun _=>rfl))⟩
   match j,hj with
   |0,_=>exact⟨l1,c1⟩
   |1,_=>exact⟨l2,c2⟩
  exact .inr ⟨Go.Tw.vk D ha hv n1,[],Nat.zero_le _,Ea (Ew hX W ha hq hv Rw c)⟩
end Go.Proofs.YthnkehdgnagmnaaGreat
namespace Go.Tw
open Go Go.R
def dI (h:Nat):El:=zE (2^h)++aX h 1
theorem kJ {h:Nat}:(dI h).length=2^(h+1):=by unfold dI;rw[X6,ar,aG,Nat.pow_succ];omega
theorem qG {T:List El}{e:El}:val (T.length+1) (T++[e]) (dI T.length)=R.sqrt (val T.length T e):=by
 unfold dI;rw[gu ar,val_zero,cG,zero_add,one_mul,fM,eA (Nat.le_refl _)]
def cE (H:Nat)(a:El):El:=a++zE (2^H-a.length)
theorem Bz (m n:Nat):zE m++zE n=zE (m+n):=by unfold zE;rw[List.replicate_append_replicate]
theorem bC {H:Nat}{a:El}(h:a.length≤2^H):(cE H a).length=2^H:=by unfold cE;rw[X6,ar];omega
theorem wD {H:Nat}{a:El}(h:a.length=2^H):cE H a=a:=by unfold cE;rw[h,Nat.sub_self];exact List.append_nil _
theorem EA {H:Nat}{a:El}(h:a.length≤2^H):cE (H+1) a=cE H a++zE (2^H):=by
 unfold cE;rw[List.append_assoc,Bz,Nat.pow_succ];congr 2;omega
theorem sF {T:List El}{m:Nat}{a:El}(ha:a.length=2^m):∀{H:Nat},m≤H→val H T (cE H a)=val m T a
 |0,h=>by
        obtain rfl:m=0:=by omega
        rw[wD ha]
 |H+1,h=>by
  by_cases e:m=H+1
  ·subst e;rw[wD ha]
  have hl:a.length≤2^H:=by rw[ha];exact Nat.pow_le_pow_right (by decide) (by omega)
  rw[EA hl,lQ (bC hl),sF ha (by omega)]
theorem QB.pad {B H:Nat}{a:El}(h1:1≤B)(h:QB B a):QB B (cE H a):=h.app (QB.zero.mono h1)
def a9 (H:Nat)(T rs:List El):Nat→El→El
 |0,a=>aX H (a.getD 0 0)
 |k+1,a=>aB (a9 H T rs k (a.take (2^k))) (ai H T (a9 H T rs k (a.drop (2^k))) (cE H (rs.getD k [])))
theorem a5 {H:Nat}{T rs:List El}:∀{k:Nat} {a:El},(a9 H T rs k a).length=2^H
 |0,_=>aG
 |_+1,_=>ao a5 ae
theorem jb:∀{a:El} {n:Nat},a.length=n→aB a (zE n)=a
 |[],n,h=>by subst h;rfl
 |x::a,n,h=>by
  subst h
  show(x+0)::aB a (zE a.length)=x::a
  rw[jb rfl,Rat.add_zero]
theorem wc {H:Nat}{T rs:List El}:∀{k:Nat},a9 H T rs k (zE (2^k))=zE (2^H)
 |0=>by
  rw[a9];show aX H 0=_;unfold aX zE
  have:=Nat.two_pow_pos H
  rw[←List.replicate_succ];congr 1;omega
 |k+1=>by rw[a9,oS,pO,wc,bG,jb ar]
theorem yO {H:Nat}{T rs:List El}{k:Nat}{a:El}(hv:a.drop (2^k)=zE (2^k)):a9 H T rs (k+1) a=a9 H T rs k (a.take (2^k)):=by
 rw[a9,hv,wc,bG,jb a5]
structure Ext (A:List R) (u:List El) (k:Nat) (T rs:List El):Prop where
 tg:TG A T
 len:rs.length=k
 root:∀i,i<k→∃m,m≤T.length∧(rs.getD i []).length=2^m∧val m T (rs.getD i [])=R.sqrt (val i u (u.getD i []))
theorem lI {A:List R}{u T rs:List El}{K:Nat}(E:Ext A u K T rs):∀{k:Nat} {a:El},k≤K→a.length=2^k→val T.length T (a9 T.length T rs k a)=val k u a
 |0,a,_,ha=>by
  obtain⟨x,rfl⟩:=bA ha;rw[a9,cG];rfl
 |k+1,a,hk,ha=>by
  obtain⟨m,hm,hl,hv⟩:=E.root k (by omega);have TR:(cE T.length (rs.getD k [])).length=2^T.length:=bC (by rw[hl];exact Nat.pow_le_pow_right (by decide) hm);rw[a9,val_add a5 ae,val_mul E.tg.rd.rl a5 TR,lI E (by omega) (ah ha),lI E (by omega) (ag ha),sF hl hm,hv,val]
theorem Ext.up {A:List R}{u T S rs:List El}{k:Nat}(E:Ext A u k T rs)(G:TG A (T++S)){r:El}{m:Nat}(hm:m≤(T++S).length)(hl:r.length=2^m)(hv:val m (T++S) r=R.sqrt (val k u (u.getD k []))):Ext A u (k+1) (T++S) (rs++[r]):=by
 refine⟨G,by rw[X6,E.len];rfl,fun i hi=>?_⟩
 by_cases h:i<k
 ·obtain⟨m',h1,h2,h3⟩:=E.root i h;have e:(rs++[r]).getD i []=rs.getD i []:=dg (by rw[E.len];exact h);refine⟨m',by rw[X6];omega,by rw[e,h2],by rw[e,eA h1,h3]⟩
 obtain rfl:i=k:=by omega
 have e:(rs++[r]).getD i []=r:=by rw[←E.len];exact fM
 exact⟨m,hm,by rw[e,hl],by rw[e,hv]⟩
theorem In.A6 {A:List R}{u T rs:List El}{K:Nat}(E:Ext A u K T rs){k:Nat}(hk:k≤K){x:R}(hx:In k u x):In T.length T x:=by
 obtain⟨a,ha,rfl⟩:=hx;exact⟨a9 T.length T rs k a,a5,lI E hk ha⟩
end Go.Tw
namespace Go.Tw
open Go Go.R
theorem kU.sg {X h:Nat}{t:List El}{a:El}(H:kU X h t a):gT X h t a:=by
 cases h with
 |zero=>exact H
 |succ h=>exact H.1
structure Fx (X h:Nat) (t:List El) (a:El):Prop where
 sq:kU X h t a
 rt:∀b,b.length=2^h→val h t b*val h t b=val h t a→gT X h t b
theorem xn:∀h,h≤3→bW h (uL h)≤jL∧bW h 0≤jL:=by
 intro h hh
 match h,hh with
 |0,_=>decide+kernel
 |1,_=>decide+kernel
 |2,_=>decide+kernel
 |3,_=>decide+kernel
section
variable {A:List R}
theorem TG.Qz (S:Src 64 A)(hA:A.length≤3){t:List El}(T:TG A t){e:El}(he:e.length=2^t.length)(hv:val t.length t e∈A)(hp:R.pos (val t.length t e)):Fx jL t.length t e:=by
 refine⟨T.QW S hA he hv,fun b hb eb=>?_⟩;obtain⟨z,w,d,E,h1,_⟩:=T.ev S hA;have hs:=R.dy (bu.2 (.inr hp));have hx:Ht t.length z w (val t.length t b) (uL t.length):=by
  rcases R.Av (eb.trans hs.symm)with k|k
  ·rw[k];exact h1 _ hv (by rw[←k];exact .of hb)
  rw[k]
  have:In t.length t (R.sqrt (val t.length t e)):=by
   have:=(In.of (t:=t) hb).neg
   rwa [k,R.neg_neg]at this
  exact(h1 _ hv this).neg
 exact(gT.of E hb hx).mono (xn _ (T.kg S hA)).1
theorem iL.zero {B n:Nat}:iL B (zE n):=fun c hc=>by
 rw[List.eq_of_mem_replicate hc];exact⟨Nat.zero_le _,Nat.one_le_two_pow⟩
theorem TG.QK (S:Src 64 A)(hA:A.length≤3){t:List El}(T:TG A t)(h2:t.length≤2){e:El}(he:e.length=2^t.length)(hv:val t.length t e=q 0):Fx jL t.length t e:=by
 have ez:=mG T.rd he hv;refine⟨by rw[ez];exact T.Qn S hA h2 (by rw[ar]) .zero,fun b hb eb=>?_⟩;obtain⟨z,w,d,E,_,_⟩:=T.ev S hA;rw[hv]at eb;have hx:Ht t.length z w (val t.length t b) 0:=by
  rw[R.P6 eb];exact Ht.rat (by decide) (by decide)
 exact(gT.of E hb hx).mono (xn _ (T.kg S hA)).2
end
end Go.Tw
namespace Go.Proofs.YthnkehdgnagmnaaGreat
open Go.Proofs.Tryz
open Go Go.Eng
open Go.Tw (El aB aJ zE ai ar aq ao ae QB mS ah ag aP aI tB aX aG cC lY kU gT val In Fx Rd l6 TG jL bo dI bZ dA)
structure GQ (X h:Nat) (t:List El):Prop where
 rq:wW X h t
 rd:Rd h t
 sq:∀i,i<h→kU X i t (t.getD i [])
theorem GQ.le {X h k:Nat}{t:List El}(W:GQ X h t)(hk:k≤h):GQ X k t:=⟨W.rq.le hk,W.rd.le hk,fun i hi=>W.sq i (by omega)⟩
theorem vF {A:List R}(S:Go.Tw.Src 64 A)(hA:A.length≤3){t:List El}(G:TG A t){h:Nat}(hh:h≤t.length):GQ jL h t:=by
 have h3:=G.kg S hA;have hs:=fun i (hi:i<t.length)=>G.O5 S hA hi;have hb:=fun i (hi:i<t.length)=>G.qb S hA hi;refine GQ.le (h:=t.length) ⟨⟨⟨⟨by omega,fun i hi=>(G.rd.rl i hi).1,fun i hi=>.of (hb i hi) (by decide)⟩,h3,fun i hi=>hb i hi⟩,fun i hi=>(hs i hi).sg,fun i hi=>?_⟩,G.rd,hs⟩ hh;rw[bZ (G.rd.rl.le (by omega)) (G.rd.rl i hi).1,R.gY (G.rd.rl i hi).2];decide
section
variable {X h:Nat}(Rw:1≤X)(hX:X≤2^30){t:List El}{a:El}
include Rw hX
theorem uY {w:El}(W:GQ X h t)(hw:w.length=2^h)(sw:gT X h t w)(c:Pr prog 219 [tV h t,eV a] (.aF [eV w,.one (.bool true)])):
  Pr prog 198 [tV h t,eV a] (.aF [eV (if bo h t w<0 then aJ w else w),.one (.bool true)]):=by
 have s:=kD Rw hX W.rq hw sw;have n:=u9 W.rq.tq.tk w hw (.of sw.qb (by omega));refine pw func198 ⟨[0,1,4,5,6,7,15,19],[]⟩ ?_;simp only[Tryz.f198,ntmps198,iz,seval];simp only[vx,T,seval,tV,tC,eV,aa];refine Cg c ?_;simp only[vx,T,seval,tV,tC,eV,aa];refine Cg s ?_;simp only[vx,T,seval,tV,tC,eV,aa];refine⟨fun g=>Lg ?_,fun g=>Lg ?_⟩
 ·rw[if_pos g];simp only[vx,T,seval,tV,tC,eV,aa];refine Cg n ?_;simp only[vx,T,seval,tV,tC,eV,aa];exact Ve rfl
 rw[if_neg g];simp only[vx,T,seval,tV,tC,eV,aa];exact Ve rfl
omit Rw hX in
theorem u5 {l:List (Nat→C)}(c:Pr prog 219 [tV h t,eV a] (.aF [.one (GC l),.one (.bool false)])):
  Pr prog 198 [tV h t,eV a] (.aF [.one .nil,.one (.bool false)]):=by
 refine pw func198 ⟨[0,1,4,5,6,7,15,19],[]⟩ ?_;simp only[Tryz.f198,ntmps198,iz,seval];simp only[vx,T,seval,tV,tC,eV,aa];refine Cg c ?_;simp only[vx,T,seval,tV,tC,eV,aa,GC];exact Ve rfl
theorem u6 (W:GQ X h t)(ha:a.length=2^h)(hB:Fx X h t a):
  (∃w,w.length=2^h∧val h t w=R.sqrt (val h t a)∧Pr prog 198 [tV h t,eV a] (.aF [eV w,.one (.bool true)]))∨
  (l6 h t (val h t a)∧Pr prog 198 [tV h t,eV a] (.aF [.one .nil,.one (.bool false)])):=by
 rcases mA Rw hX W.rq.tq W.rd ha hB.sq with⟨b,lb,eb,cb⟩|⟨no,l,_,c⟩
 ·refine .inl ⟨_,?_,?_,uY Rw hX W lb (hB.rt b lb eb) cb⟩
  ·split
   ·rw[aq,lb]
   exact lb
  have e:=bZ W.rd.rl lb;have nn:∀x,x=val h t b∨x= -val h t b→R.nn x→x=R.sqrt (val h t a):=by
   intro x hx hn;rw[←eb]
   rcases hx with rfl|rfl
   ·exact(R.po hn).symm
   rw[show val h t b*val h t b= -val h t b* -val h t b by rw[R.neg_mul,R.mul_neg,R.neg_neg]];exact(R.po hn).symm
  split
  ·rename_i g
   rw[Go.Tw.val_neg lb];refine nn _ (.inr rfl) ?_
   rcases R.dc (val h t b)with⟨k,k2⟩|⟨k,k2⟩|⟨k,k2⟩
   ·rw[k,R.gE];exact R.bu.2 (.inl rfl)
   ·omega
   exact R.bu.2 (.inr k)
  rename_i g
  refine nn _ (.inl rfl) ?_
  rcases R.dc (val h t b)with⟨k,k2⟩|⟨k,k2⟩|⟨k,k2⟩
  ·rw[k];exact R.bu.2 (.inl rfl)
  ·exact R.bu.2 (.inr k)
  omega
 exact .inr ⟨no,u5 c⟩
theorem yo (W:GQ X h t):Pr prog 197 [tV h t] (.one (.bool true)):=by
 have h3:=W.rq.tq.h3;have f:∀i,i<h→Pr prog 113 [tV i t,eV (t.getD i [])] (.one (.bool true)):=fun i hi=>dB (W.rq.tq.tk.le (by omega)) _ (W.rd.rl i hi).1 (W.rq.tq.tk.q i hi);have s:∀i,i<h→Pr prog 105 [tV i t,eV (t.getD i [])] (.one (.int .i64 1)):=fun i hi=>by
  have c:=kD Rw hX (W.rq.le (show i≤h by omega)) (W.rd.rl i hi).1 (W.sq i hi).sg
  rwa [bZ (W.rd.rl.le (by omega)) (W.rd.rl i hi).1,R.gY (W.rd.rl i hi).2]at c
 have q:∀i,i<h→∃l,Pr prog 219 [tV i t,eV (t.getD i [])] (.aF [.one (GC l),.one (.bool false)]):=fun i hi=>by
  rcases mA Rw hX (W.rq.tq.le (show i≤h by omega)) (W.rd.le (by omega)) (W.rd.rl i hi).1 (W.sq i hi)with⟨b,lb,eb,_⟩|⟨_,l,_,c⟩
  ·exact absurd eb (W.rd.ns i hi _ (.of lb))
  exact⟨l,c⟩
 refine pw func197 ⟨[0,2,3,4,6,7,8,9,10,27,36],[]⟩ ?_;simp only[Tryz.f197,ntmps197,iz,seval];simp only[vx,T,seval,tV,tC,aa];refine Lk (fun y:{i:Nat//i≤h}=>⟨[(0,tV h t),(2,.one (.bool false)),(7,tV h t),(8,.one (.int .i64 h)),(9,.one (.int .i64 y.1))],[],1,38⟩) (fun y=>h-y.1) ⟨0,Nat.zero_le _⟩ ?_ (fun⟨i,hi⟩=>?_)
 ·refine Sa ?_;simp only[ry,seval,rz,tV,tC,aa]
 simp only;have wi:=wI i (by omega);simp only[vx,T,seval,tV,tC,aa];refine⟨fun k=>Lg ?_,fun k=>Lg ?_⟩
 ·have Ru:i<h:=by omega
  have fi:=f i Ru;have si:=s i Ru;obtain⟨l,qi⟩:=q i Ru;obtain⟨r,hr⟩:∃r,r=t.getD i []:=⟨_,rfl⟩;rw[←hr]at fi si qi;simp only[vx,T,seval,tV,tC,aa,←hr];refine⟨⟨by omega,by omega⟩,⟨by omega,by omega⟩,Cg fi ?_⟩;simp only[vx,T,seval,tV,tC,aa,←hr];refine⟨⟨by omega,by omega⟩,Cg si ?_⟩;simp only[vx,T,seval,tV,tC,aa,←hr];refine⟨⟨by omega,by omega⟩,Cg qi ?_⟩;simp only[vx,T,seval,tV,tC,aa,GC,wi];refine Lq ⟨i+1,by omega⟩ ?_ (by show h-(i+1)<h-i;omega);refine Sa ?_;simp only[ry,seval,rz,tV,tC,aa]
 simp only[vx,T,seval,tV,tC,aa];exact Ve rfl
end
def wT (t:List El)(k:Nat)(i:Nat)(_:Nat):C:=if i<k then aa (t.getD i [])else .nil
theorem OD {t:List El}{i k j:Nat}{r:El}(hr:r=t.getD i [])(hj:j<1):a8 (wT t i) i 0 [aa r] k j=wT t (i+1) k j:=by
 obtain rfl:j=0:=by omega
 unfold a8 wT
 by_cases hk:k=i
 ·subst hk;rw[if_pos rfl,if_pos (Nat.le_refl _),if_pos (by simp),if_pos (by omega),hr,Nat.sub_self];rfl
 rw[if_neg hk]
 by_cases h2:k<i
 ·rw[if_pos h2,if_pos (by omega)]
 rw[if_neg h2,if_neg (by omega)]
theorem Na {t:List El}{e:TypeId}{n:Nat}:Y5 [] 0 (Bk.rows e 1 n (wT t n)) (Bk.rows e 1 n (fun i _=>aa (t.getD i []))):=⟨rfl,rfl,fun i j hi _=>by
 rw[wT,if_pos hi]⟩
theorem B8 {h:Nat}(hh:h≤8)(t:List El)(hl:∀i,i<h→(t.getD i []).length<2^38):Fr prog 199 [tV h t] (.rows 35 1 h (fun i _=>aa (t.getD i []))):=by
 refine fw func199 ⟨[0,2,3,4,5,9,10,11,12],[]⟩ ?_;simp only[Tryz.f199,ntmps199,iz,seval];simp only[vx,T,seval,tV,tC,aa];refine⟨by omega,Lk (fun y:{i:Nat//i≤h}=>⟨[(0,tV h t),(3,.one (.own 1 1 0 h)),(9,tV h t),(10,.one (.int .i64 h)),(11,.one (.int .i64 y.1))],[(1,⟨.rows 35 1 h (wT t y.1),true⟩)],2,23⟩) (fun y=>h-y.1) ⟨0,Nat.zero_le _⟩ ?_ (fun⟨i,hi⟩=>?_)⟩
 ·refine Sa ?_;simp only[ry,seval,rz,tV,tC,aa];exact fun i j _ hj=>by
               obtain rfl:j=0:=by omega
               rw[wT,if_neg (Nat.not_lt_zero _)];rfl
 simp only;have wi:=wI i (by omega);simp only[vx,T,seval,tV,tC,aa];refine⟨fun g=>Lg ?_,fun g=>Lg ?_⟩
 ·have ci:=rp (t.getD i []) (hl i (by omega));obtain⟨r,hr⟩:∃r,r=t.getD i []:=⟨_,rfl⟩;rw[←hr]at ci;simp only[vx,T,seval,tV,tC,aa,←hr];refine⟨by omega,Cg ci ?_⟩;simp only[vx,T,seval,eV,tV,tC,aa,wi];refine⟨by omega,Lq ⟨i+1,by omega⟩ ?_ (by show h-(i+1)<h-i;omega)⟩;refine Sa ?_;simp only[ry,seval,rz,tV,tC,aa];exact fun k j _ hj=>OD hr hj
 have RG:i=h:=by omega
 subst RG;simp only[vx,T,seval,tV,tC,aa];exact Na
open Go Go.Eng
open Go.Tw (El aB aJ zE ai ar aq ao ae QB mS ah ag aP aI tB aX aG cC lY kU gT val In Fx Rd l6 TG jL bo dI bZ dA)
theorem zf (h:Nat)(k j:Nat)(hj:j<4):
  a8 (fQ (zE (2^(h+1)))) (2^h) 0 [C.bool (zs (Rat.ofInt 1).num),C.ints .u32 (zm (Rat.ofInt 1).num),C.bool (zs ((Rat.ofInt 1).den:Int)),C.ints .u32 (zm ((Rat.ofInt 1).den:Int))] k j=fQ (dI h) k j:=by
 have hp:0<2^h:=Nat.pow_pos (by decide);have e1:(dI h).getD (2^h) default=Rat.ofInt 1:=by
  unfold dI;rw[X7,List.getElem?_append_right (by rw[ar];exact Nat.le_refl _),ar,Nat.sub_self];rfl
 unfold a8
 by_cases hk:k=2^h
 ·subst hk;rw[if_pos rfl,if_pos (Nat.zero_le _),if_pos (by simpa using hj),Nat.sub_zero];exact dx _ e1 j
 rw[if_neg hk];unfold fQ
 congr 1
 have e2:∀{n:Nat},(zE n).getD k default=0:=by
  intro n;unfold zE;rw[X7,List.getElem?_replicate]
  split<;>rfl
 rw[e2];unfold dI;rw[X7]
 by_cases hl:k<2^h
 ·rw[List.getElem?_append_left (by rw[ar];exact hl),←X7,e2]
 rw[List.getElem?_append_right (by rw[ar];omega),ar];unfold aX;obtain⟨d,hd⟩:∃d,k-2^h=d+1:=⟨k-2^h-1,by omega⟩;rw[hd,List.getElem?_cons_succ];unfold zE;rw[List.getElem?_replicate]
 split<;>rfl
theorem Fa {h:Nat}{U:List El}(tk:Tk (h+1) U):Pr prog 200 [tV (h+1) U,.one (.int .i64 h)] (eV (dI h)):=by
 have h8:=tk.le8;have r:=jI tk;have hs:=dL (h:=h+1) h8;have Ul:=dL (h:=h) (by omega);have hp:=aN h8;have z:=oO (2^(h+1)) hp;have o:=cP 1 (by decide) (by decide);have Ru:2^h<2^(h+1):=Nat.pow_lt_pow_right (by decide) (by omega);have hlen:(zE (2^(h+1))).length=2^(h+1):=ar;obtain⟨N,hN⟩:∃N,N=2^(h+1):=⟨_,rfl⟩;obtain⟨M,hM⟩:∃M,M=2^h:=⟨_,rfl⟩;have st:=zf h;rw[←hN]at hs z Ru hlen hp st;rw[←hM]at Ul Ru st;have hs:IntKind.i64.wrap (1*2^(if h≤63 then h+1 else 64))=(N:Int):=by
  rw[if_pos (by omega)]at hs⊢;exact hs
 refine pw func200 ⟨[0,1,4,5,18],[]⟩ ?_;simp only[Tryz.f200,ntmps200,iz,seval];simp only[vx,T,seval,tV,tC,aa];refine Cg r ?_;simp only[vx,T,seval,tV,tC,aa];refine⟨fun h=>absurd h (by omega),fun _=>Lg ?_⟩;simp only[vx,T,seval,tV,tC,aa,hs,Ul];refine⟨fun h=>absurd h (by omega),fun _=>Lg ?_⟩;simp only[vx,T,seval,tV,tC,aa,hs,Ul];refine⟨by omega,cH.fresh z ?_⟩;simp only[vx,T,seval,tV,tC,aa,hs,Ul];refine⟨by omega,Cg o ?_⟩;simp only[vx,T,seval,tV,tC,aa,QV,QC,hs,Ul,hlen];exact⟨⟨by omega,by omega⟩,fT.cell (dK.rows (by rw[Go.Tw.kJ,hN]) fun i j _ hj=>.of_eq (st i j hj))⟩
open Go Go.Eng
open Go.Tw (El aB aJ zE ai ar aq ao ae QB mS ah ag aP aI tB aX aG cC lY kU gT val In Fx Rd l6 TG jL bo dI bZ dA)
section
variable {A:List R}(S:Go.Tw.Src 64 A)(hA:A.length≤3){t:List El}{a:El}
include S hA
theorem zq (G:TG A t)(ha:a.length=2^t.length)(hn:R.nn (val t.length t a))(hB:Fx jL t.length t a):
  (∃w,w.length=2^t.length∧val t.length t w=R.sqrt (val t.length t a)∧Pr prog 173 [tV t.length t,eV a] (.aF [tV t.length t,eV w,.one (.int .i64 0)]))∨
  (l6 t.length t (val t.length t a)∧Pr prog 173 [tV t.length t,eV a] (.aF [tV (t.length+1) (t++[a]),eV (dI t.length),.one (.int .i64 0)])):=by
 have W:=vF S hA G (Nat.le_refl _);have Rw:1≤jL:=by decide
 have hX:jL≤2^30:=by decide
 have h3:=W.rq.tq.h3;have f:=dB W.rq.tq.tk a ha (.of hB.sq.qb (by omega));have rd:=yo Rw hX W;have sg:=kD Rw hX W.rq ha hB.sq.sg;have hs:¬bo t.length t a<0:=by
  rw[bZ W.rd.rl ha]
  rcases R.dc (val t.length t a)with⟨k,k2⟩|⟨k,k2⟩|⟨k,k2⟩
  ·omega
  ·omega
  exact absurd k hn
 have cl:=B8 (h:=t.length) (by omega) t (fun i hi=>by rw[(W.rd.rl i hi).1];exact aN (by omega));obtain⟨n,RK⟩:∃n,n=t.length:=⟨_,rfl⟩
 rcases u6 Rw hX W ha hB with⟨w,lw,ew,cw⟩|⟨no,c⟩
 ·refine .inl ⟨w,lw,ew,?_⟩;rw[←RK]at f rd sg cl cw hs⊢;have cl:=cl.rows;refine pw func173 ⟨[0,1,4,5,6,7,8,9,10,20,31,37],[]⟩ ?_;simp only[Tryz.f173,ntmps173,iz,seval];simp only[vx,T,seval,tV,tC,eV,aa];refine Cg f ?_;simp only[vx,T,seval,tV,tC,eV,aa];refine Cg rd ?_;simp only[vx,T,seval,tV,tC,eV,aa];refine Cg sg ?_;simp only[vx,T,seval,tV,tC,eV,aa];refine⟨fun h=>absurd h hs,fun _=>Lg ?_⟩;simp only[vx,T,seval,tV,tC,eV,aa];refine Cg cw ?_;simp only[vx,T,seval,tV,tC,eV,aa];refine Cg cl ?_;simp only[vx,T,seval,tV,tC,eV,aa];exact Ve rfl
 refine .inr ⟨no,?_⟩;have q:=rp a (by rw[ha];exact aN (by omega));have tk:Tk (t.length+1) (t++[a]):=by
  have key:∀i,i<t.length+1→i<t.length∨i=t.length:=fun i hi=>by omega
  refine⟨by omega,fun i hi=>?_,fun i hi=>?_⟩
  ·rcases key i hi with h|rfl
   ·rw[Go.Tw.dg h];exact(W.rd.rl i h).1
   rw[Go.Tw.fM];exact ha
  rcases key i hi with h|rfl
  ·rw[Go.Tw.dg h];exact W.rq.tq.tk.q i h
  rw[Go.Tw.fM];exact .of hB.sq.qb (by omega)
 have ro:=Fa tk;obtain⟨u,hu⟩:∃u,u=t++[a]:=⟨_,rfl⟩;have eu:∀i j,i<n+1→j<1→(if i<n then aa (t.getD i [])else[aa a].getD ((i-n)*1+j) .any)=aa (u.getD i []):=fun i j hi hj=>by
  obtain rfl:j=0:=by omega
  rw[RK,hu]
  by_cases h:i<t.length
  ·rw[if_pos h,Go.Tw.dg h]
  obtain rfl:i=t.length:=by omega
  rw[if_neg h,Go.Tw.fM,Nat.sub_self];rfl
 rw[←hu]at ro⊢;rw[←RK]at f rd sg cl c ro hs h3⊢;refine pw func173 ⟨[0,1,4,5,6,7,8,9,10,20,31,37],[]⟩ ?_;simp only[Tryz.f173,ntmps173,iz,seval];simp only[vx,T,seval,tV,tC,eV,aa];refine Cg f ?_;simp only[vx,T,seval,tV,tC,eV,aa];refine Cg rd ?_;simp only[vx,T,seval,tV,tC,eV,aa];refine Cg sg ?_;simp only[vx,T,seval,tV,tC,eV,aa];refine⟨fun h=>absurd h hs,fun _=>Lg ?_⟩;simp only[vx,T,seval,tV,tC,eV,aa];refine Cg c ?_;simp only[vx,T,seval,tV,tC,eV,aa];refine⟨fun h=>absurd h (by omega),fun _=>Lg ?_⟩;simp only[vx,T,seval,tV,tC,eV,aa];refine cH.fresh cl ?_;simp only[vx,T,seval,tV,tC,eV,aa];refine Cg q ?_;simp only[vx,T,seval,tV,tC,eV,aa];refine⟨⟨by omega,by omega⟩,Cg (ro.args ⟨.cell (.rows rfl fun i j hi hj=>.of_eq (eu i j hi hj)),.refl _,trivial⟩) ?_⟩;simp only[vx,T,seval,tV,tC,eV,aa];exact fT.aF ⟨.cell (.rows rfl fun i j hi hj=>.of_eq (eu i j hi hj)),.refl _,.refl _,trivial⟩
end
open Go Go.Eng
open Go.Tw (El aB aJ zE ai ar aq ao ae QB mS ah ag tB aX aG val In Rd TG cE a9)
theorem Kn (a:El)(h0:0<a.length)(hl:a.length<2^38):Fr prog 172 [eV a] (.rows 62 4 a.length (fQ a)):=by
 refine fw func172 ⟨[0,2,4],[]⟩ ?_;simp only[Tryz.f172,ntmps172,iz,seval];simp only[vx,T,seval,eV,aa];intro b hb;obtain rfl:=hb h0;refine Lg ?_;simp only[vx,T,seval];exact⟨⟨by omega,by omega⟩,rfl,rfl,fun i j _ _=>if_neg (Nat.not_lt_zero _)⟩
theorem Mz {ks:El}{k:Nat}(hk:ks.length=k):∀(i j:Nat),i<k+1→j<4→
  (if i<k then fQ ks i j else[C.bool (zs (Rat.ofInt 0).num),C.ints .u32 (zm (Rat.ofInt 0).num),C.bool (zs ((Rat.ofInt 0).den:Int)),C.ints .u32 (zm ((Rat.ofInt 0).den:Int))].getD ((i-k)*4+j) C.any)=fQ (ks++[0]) i j:=by
 subst hk;intro i j hi hj
 by_cases h:i<ks.length
 ·rw[if_pos h];unfold fQ;rw[X7,X7,List.getElem?_append_left h]
 have:i=ks.length:=by omega
 subst this;rw[if_neg h,Nat.sub_self,Nat.zero_mul,Nat.zero_add];exact dx (Rat.ofInt 0) (by rw[X7,List.getElem?_append_right (Nat.le_refl _),Nat.sub_self];rfl) j
theorem C1 (a:El)(k:Nat):a++zE (k+1)=(a++zE k)++[0]:=by
 rw[←Go.Tw.Bz,List.append_assoc];rfl
theorem mD {h:Nat}{t:List El}{a:El}(hh:h≤8)(h0:0<a.length)(hl:a.length≤2^h):Pr prog 137 [tV h t,eV a] (eV (cE h a)):=by
 have hp:=aN hh;have c:=Kn a h0 (by omega);have z:=cP 0 (by decide) (by decide);have hs:=dL (h:=h) hh;have e:cE h a=a++zE (2^h-a.length):=rfl;rw[e];obtain⟨N,hN⟩:∃N,N=2^h:=⟨_,rfl⟩;rw[←hN]at hs hl hp⊢;refine pw func137 ⟨[0,1,4,5,13],[]⟩ ?_;simp only[Tryz.f137,ntmps137,iz,seval];simp only[vx,T,seval,tV,tC,eV,aa];refine cH.fresh c ?_;simp only[vx,T,seval,tV,tC,eV,aa];refine Lk (fun y:{k:Nat//a.length+k≤N}=>⟨[(0,tV h t),(4,.one .nil),(5,.one (.own 1 4 0 (a.length+y.1)))],[(1,⟨.rows 62 4 (a.length+y.1) (fQ (a++zE y.1)),true⟩)],2,19⟩) (fun y=>N-(a.length+y.1)) ⟨0,by omega⟩ ?_ (fun⟨k,hk⟩=>?_)
 ·refine Sa ?_;simp only[ry,seval,rz,tV,tC,eV,aa];exact fun i j _ _=>by rw[show a++zE 0=a from List.append_nil a]
 simp only;simp only[vx,T,seval,tV,tC,eV,aa,hs];refine⟨by omega,?_⟩;refine⟨fun g=>Lg ?_,fun g=>Lg ?_⟩
 ·simp only[vx,T,seval,tV,tC,eV,aa,hs];refine Cg z ?_;simp only[vx,T,seval,tV,tC,eV,aa,hs,QV,QC];refine⟨⟨by omega,by omega⟩,Lq ⟨k+1,by omega⟩ ?_ (by show N-(a.length+(k+1))<N-(a.length+k);omega)⟩;refine Sa ?_;simp only[ry,seval,rz,tV,tC,eV,aa,hs];exact⟨by omega,by omega,by rw[C1];exact Mz (by rw[X6,ar])⟩
 simp only[vx,T,seval,tV,tC,eV,aa,hs];have ek:k=N-a.length:=by omega
 rw[←ek];exact fT.cell (dK.rows (by rw[X6,ar]) fun i j _ _=>.refl _)
open Go Go.Eng
open Go.Tw (El aB aJ zE ai ar aq ao ae QB mS ah ag tB aX aG val In Rd TG cE bC a9 a5)
structure Fy (B Y Z H K:Nat) (U rs:List El):Prop where
 tq:TQ H U
 hB:B<2^38
 hY:1≤Y
 hZ:1≤Z
 y:∀j,j<K→∀b,b.length=2^j→QB B b→QB Y (a9 H U rs j b)
 r:∀i,i<K→(∃m,m≤H∧(rs.getD i []).length=2^m)∧QB Z (rs.getD i [])
 s:mS H (Y+Z) tB<2^38
theorem Fy.le {B Y Z H K k:Nat}{U rs:List El}(I:Fy B Y Z H K U rs)(hk:k≤K):Fy B Y Z H k U rs:=⟨I.tq,I.hB,I.hY,I.hZ,fun j hj=>I.y j (by omega),fun i hi=>I.r i (by omega),I.s⟩
def eM (H:Nat)(U rs:List El):V:=.agg [tC H U,tC rs.length rs]
theorem OA {B Y Z H:Nat}{U rs:List El}{a:El}(I:Fy B Y Z H 0 U rs)(ha:a.length=2^0)(hq:QB B a):Pr prog 139 [eM H U rs,eV a] (eV (a9 H U rs 0 a)):=by
 obtain⟨x,rfl⟩:=Go.Tw.bA ha;have hB:=I.hB;have hx:qm x≤B:=hq x (by simp);have f:=eD I.tq.tk x (by omega);have e:a9 H U rs 0 [x]=aX H x:=rfl;rw[e];refine pw func139 ⟨[0,1,2,4,5,6,7,8,11,26,37],[]⟩ ?_;simp only[Tryz.f139,ntmps139,iz,seval];simp only[vx,T,seval,eM,tV,tC,eV,aa,qC,X0];refine Cg f ?_;simp only[vx,T,seval,eM,tV,tC,eV,aa];exact Ve rfl
theorem kW {B Y Z H:Nat}{U rs:List El}:∀{k:Nat} {a:El},Fy B Y Z H k U rs→k≤rs.length→k≤8→a.length=2^k→QB B a→Pr prog 139 [eM H U rs,eV a] (eV (a9 H U rs k a))
 |0,a,I,_,_,ha,hq=>OA I ha hq
 |k+1,a,I,Yl,XI,ha,hq=>by
  have I':=I.le (Nat.le_succ k);have Sg:=ah ha;have Sd:=ag ha;have c1:=kW I' (by omega) (by omega) Sg (hq.take _);have c2:=kW I' (by omega) (by omega) Sd (hq.drop _);have hB:=I.hB;have h3:=I.tq.h3;have hp:=aN (h:=k+1) XI;have Ru:2^k<2^(k+1):=Nat.pow_lt_pow_right (by decide) (by omega);have z:=dj (a.drop (2^k)) (by omega) (.of (hq.drop _) hB);have hn:(2^k:Nat)≤a.length:=by omega
  have cT:=fu hn;have cD:=eW (a:=a) (n:=2^k);have c1:=c1.args (xs:=[eM H U rs,.one (.rows 4 (2^k) (fun i=>qC (a.getD i default)))]) ⟨.refl _,.cell cT,trivial⟩;have c2:=c2.args (xs:=[eM H U rs,.one (.rows 4 (a.length-2^k) (fun i=>qC (a.getD (2^k+i) default)))]) ⟨.refl _,.cell cD,trivial⟩;have z:=z.args (xs:=[.one (.rows 4 (a.length-2^k) (fun i=>qC (a.getD (2^k+i) default)))]) ⟨.cell cD,trivial⟩;have hg:∀i,i≤k→(IntKind.i64.wrap (1*2^(if i≤63 then i+1 else 64))<((a.length:Nat):Int)↔i<k):=fun i hi=>by
   have hs:=dL (h:=i+1) (by omega);rw[if_pos (by omega)]at hs⊢;rw[hs,ha]
   constructor
   ·intro h;refine Nat.lt_of_not_le fun h2=>?_
    have:=Nat.pow_le_pow_right (n:=2) (by decide) (show k+1≤i+1 by omega)
    omega
   intro h
   have:=Nat.pow_lt_pow_right (a:=2) (by decide) (show i+1<k+1 by omega)
   omega
  obtain⟨n,RK⟩:∃n,n=2^k:=⟨_,rfl⟩;have RT:a.length=2*n:=by rw[ha,Nat.pow_succ,RK];omega
  have w2:IntKind.i64.wrap (((a.length:Nat):Int).tdiv 2)=(n:Int):=by
   rw[RT,Int.tdiv_eq_ediv_of_nonneg (by omega),IntWalk.i64_in _ (by omega)];omega
  have w4:((a.length:Int)-(n:Int)).toNat=a.length-n:=by omega
  have RE:¬((a.length:Nat):Int)=1:=by
   have:=Nat.two_pow_pos k
   omega
  have st:∀(hv:¬a.drop (2^k)=zE (2^k)),True:=fun _=>trivial;refine pw func139 ⟨[0,1,2,4,5,6,7,8,11,26,37],[]⟩ ?_;simp only[Tryz.f139,ntmps139,iz,seval];simp only[vx,T,seval,eM,tV,tC,eV,aa,w2,w4];refine⟨fun h=>absurd h RE,fun _=>Lg ?_⟩;simp only[vx,T,seval,eM,tV,tC,eV,aa,w2,w4];refine Lk (fun y:{i:Nat//i≤k}=>⟨[(1,eV a),(2,.one (.ptr 1 0)),(4,.one .nil),(5,.one (.int .i64 n)),(6,.one (.int .i64 y.1))],[(1,⟨.var [tC H U,tC rs.length rs],true⟩)],2,60⟩) (fun y=>k-y.1) ⟨0,Nat.zero_le _⟩ ?_ (fun⟨i,hi⟩=>?_)
  ·refine Sa ?_;simp only[ry,seval,rz,tV,tC,eV,aa]
  simp only;have TI:=hg i hi;have wi:=wI i (by omega);simp only[vx,T,seval,tV,tC,eV,aa,wi];refine⟨by omega,?_⟩;refine⟨fun g=>Lg ?_,fun g=>Lg ?_⟩
  ·have T8:=TI.1 g;simp only[vx,T,seval,tV,tC,eV,aa,wi];refine Lq ⟨i+1,by omega⟩ ?_ (by show k-(i+1)<k-i;omega);refine Sa ?_;simp only[ry,seval,rz,tV,tC,eV,aa]
  have T8:i=k:=by
   have:¬i<k:=fun h=>g (TI.2 h)
   omega
  subst T8;obtain⟨⟨m,hm,lr⟩,qr⟩:=I.r i (by omega);have q2:=I.y i (by omega) _ Sd (hq.drop _);have Tm:(rs.getD i []).length≤2^H:=by rw[lr];exact Nat.pow_le_pow_right (by decide) hm
  have pd:=mD (t:=U) (a:=rs.getD i []) (by omega) (by rw[lr];exact Nat.two_pow_pos _) Tm;have mu:=gM fY I.tq.tk I.tq.q I.hY I.hZ (a9 H U rs i (a.drop (2^i))) (cE H (rs.getD i [])) a5 (bC Tm) q2 (Go.Tw.QB.pad I.hZ qr) I.s;have gm:=QB.mul (h:=H) (t:=U) fY I.tq.q I.hY I.hZ q2 (Go.Tw.QB.pad (H:=H) I.hZ qr);have S1:=Go.Tw.il (h:=H) (S:=Y+Z) (C:=tB);have hs:=I.s;have q1:=I.y i (by omega) _ Sg (hq.take _);have ad:=mX I.tq.tk (a9 H U rs i (a.take (2^i))) _ a5 ae (.of q1 (by omega)) (.of gm hs);have el:=Go.Tw.yO (H:=H) (T:=U) (rs:=rs) (k:=i) (a:=a);have er:a9 H U rs (i+1) a=aB (a9 H U rs i (a.take (2^i))) (ai H U (a9 H U rs i (a.drop (2^i))) (cE H (rs.getD i []))):=rfl;rw[←er]at ad;obtain⟨r,hr⟩:∃r,r=a9 H U rs (i+1) a:=⟨_,rfl⟩;obtain⟨x,hx⟩:∃x,x=a9 H U rs i (a.take (2^i)):=⟨_,rfl⟩;obtain⟨y,hy⟩:∃y,y=a9 H U rs i (a.drop (2^i)):=⟨_,rfl⟩;obtain⟨v,hv⟩:∃v,v=rs.getD i []:=⟨_,rfl⟩;obtain⟨p,UN⟩:∃p,p=cE H v:=⟨_,rfl⟩;rw[←hr,←hx]at el ad;rw[←hx]at c1;rw[←hy]at c2;rw[←hr];rw[←hv]at pd;rw[←hy,←hv,←UN]at ad mu;rw[←UN]at pd;have RG:i<rs.length:=by omega
  by_cases hz:a.drop (2^i)=zE (2^i)
  ·rw[decide_eq_true (by rw[Sd];exact hz)]at z;rw[el hz];rw[←RK]at c1 z;simp only[vx,T,seval,tV,tC,eV,aa,wi,w4];refine⟨⟨by omega,by omega⟩,Cg c1 ?_⟩;simp only[vx,T,seval,eM,tV,tC,eV,aa,wi,w4];refine⟨⟨by omega,by omega,by omega⟩,Cg z ?_⟩;simp only[vx,T,seval,eM,tV,tC,eV,aa,wi,w4];exact Ve rfl
  rw[decide_eq_false (by rw[Sd];exact hz)]at z;rw[←RK]at c1 c2 z;simp only[vx,T,seval,tV,tC,eV,aa,wi,w4];refine⟨⟨by omega,by omega⟩,Cg c1 ?_⟩;simp only[vx,T,seval,eM,tV,tC,eV,aa,wi,w4];refine⟨⟨by omega,by omega,by omega⟩,Cg z ?_⟩;simp only[vx,T,seval,eM,tV,tC,eV,aa,wi,w4];refine⟨⟨by omega,by omega,by omega⟩,Cg c2 ?_⟩;simp only[vx,T,seval,eM,tV,tC,eV,aa,wi,w4,←hv];refine⟨⟨by omega,by omega⟩,Cg pd ?_⟩;simp only[vx,T,seval,eM,tV,tC,eV,aa,wi,w4,←hv];refine Cg mu ?_;simp only[vx,T,seval,eM,tV,tC,eV,aa,wi,w4,←hv];refine Cg ad ?_;simp only[vx,T,seval,eM,tV,tC,eV,aa,wi,w4,←hv];exact Ve rfl
open Go Go.Eng
open Go.Tw (El aB aJ zE ai ar aq ao ae QB mS ah ag tB aX aG val In Rd TG cE bC a9 a5)
def oM (H:Nat)(U:List El)(n:Nat):V:=.agg [tC H U,.own 0 1 0 n]
def rB (n:Nat)(rs:List El):Bk:=.rows 35 1 n (fun j _=>aa (rs.getD j []))
theorem C4 {P:Program}{fn:FuncId}{x:V}{w n n':Nat}{f g:Nat→Nat→C}{B:Bk}{R:V→Bk→Prop}(h:Mc P fn [x,.one (.rows w n' g)] B R)(hc:dK (.rows w n f) (.rows w n' g)):Mc P fn [x,.one (.rows w n f)] B R:=
 ⟨h.1,fun ok W vs l h1 h2 h3 h4 R1=>h.2 ok W vs l h1 h2 h3 h4 (by
  generalize vs.toList=ls at R1⊢
  match ls,R1 with
  |[_,v2],⟨a,b,_⟩=>exact⟨a,hc ok W v2 b,trivial⟩)⟩
def MC (rs:List El)(n:Nat)(x:V)(r:V)(B:Bk):Prop:=r=x∧B=rB n rs
theorem Jz {B Y Z H:Nat}{U rs:List El}{n:Nat}{a:El}(I:Fy B Y Z H 0 U rs)(ha:a.length=2^0)(hq:QB B a):Mc prog 139 [oM H U n,eV a] (rB n rs) (MC rs n (eV (a9 H U rs 0 a))):=by
 obtain⟨x,rfl⟩:=Go.Tw.bA ha;have hB:=I.hB;have hx:qm x≤B:=hq x (by simp);have f:=eD I.tq.tk x (by omega);have e:a9 H U rs 0 [x]=aX H x:=rfl;rw[e];refine mw func139 ⟨[0,1,2,4,5,6,7,8,11,26,37],[(6,(.cons 4 [] (.cons 5 [] .nil .nil) .nil)),(9,(.cons 6 [0,1,7,8,9,10,11,12,13] (.cons 14 [0,1] (.cons 15 [] (.cons 16 [] .nil .nil) .nil) .nil) .nil))]⟩ ?_;simp only[Tryz.f139,ntmps139,iz,seval];simp only[vx,T,seval,oM,rB,tV,tC,eV,aa,qC,X0];refine Cg f ?_;simp only[vx,T,seval,oM,rB,tV,tC,eV,aa];exact⟨rfl,rfl⟩
theorem l7 {B Y Z H:Nat}{U rs:List El}{N:Nat}(hN:rs.length=N):∀{k:Nat} {a:El},Fy B Y Z H k U rs→k≤rs.length→k≤8→a.length=2^k→QB B a→Mc prog 139 [oM H U N,eV a] (rB N rs) (MC rs N (eV (a9 H U rs k a)))
 |0,a,I,_,_,ha,hq=>Jz I ha hq
 |k+1,a,I,Yl,XI,ha,hq=>by
  have I':=I.le (Nat.le_succ k);have Sg:=ah ha;have Sd:=ag ha;have c1:=l7 hN I' (by omega) (by omega) Sg (hq.take _);have c2:=l7 hN I' (by omega) (by omega) Sd (hq.drop _);have hB:=I.hB;have h3:=I.tq.h3;have hp:=aN (h:=k+1) XI;have Ru:2^k<2^(k+1):=Nat.pow_lt_pow_right (by decide) (by omega);have z:=dj (a.drop (2^k)) (by omega) (.of (hq.drop _) hB);have hn:(2^k:Nat)≤a.length:=by omega
  have cT:=fu hn;have cD:=eW (a:=a) (n:=2^k);have c1:=C4 c1 cT;have c2:=C4 c2 cD;have z:=z.args (xs:=[.one (.rows 4 (a.length-2^k) (fun i=>qC (a.getD (2^k+i) default)))]) ⟨.cell cD,trivial⟩;have hg:∀i,i≤k→(IntKind.i64.wrap (1*2^(if i≤63 then i+1 else 64))<((a.length:Nat):Int)↔i<k):=fun i hi=>by
   have hs:=dL (h:=i+1) (by omega);rw[if_pos (by omega)]at hs⊢;rw[hs,ha]
   constructor
   ·intro h;refine Nat.lt_of_not_le fun h2=>?_
    have:=Nat.pow_le_pow_right (n:=2) (by decide) (show k+1≤i+1 by omega)
    omega
   intro h
   have:=Nat.pow_lt_pow_right (a:=2) (by decide) (show i+1<k+1 by omega)
   omega
  obtain⟨n,RK⟩:∃n,n=2^k:=⟨_,rfl⟩;have RT:a.length=2*n:=by rw[ha,Nat.pow_succ,RK];omega
  have w2:IntKind.i64.wrap (((a.length:Nat):Int).tdiv 2)=(n:Int):=by
   rw[RT,Int.tdiv_eq_ediv_of_nonneg (by omega),IntWalk.i64_in _ (by omega)];omega
  have w4:((a.length:Int)-(n:Int)).toNat=a.length-n:=by omega
  have RE:¬((a.length:Nat):Int)=1:=by
   have:=Nat.two_pow_pos k
   omega
  have st:∀(hv:¬a.drop (2^k)=zE (2^k)),True:=fun _=>trivial;refine mw func139 ⟨[0,1,2,4,5,6,7,8,11,26,37],[(6,(.cons 4 [] (.cons 5 [] .nil .nil) .nil)),(9,(.cons 6 [0,1,7,8,9,10,11,12,13] (.cons 14 [0,1] (.cons 15 [] (.cons 16 [] .nil .nil) .nil) .nil) .nil))]⟩ ?_;simp only[Tryz.f139,ntmps139,iz,seval];simp only[vx,T,seval,oM,rB,tV,tC,eV,aa,w2,w4];refine⟨fun h=>absurd h RE,fun _=>Lg ?_⟩;simp only[vx,T,seval,oM,rB,tV,tC,eV,aa,w2,w4];refine Lk (fun y:{i:Nat//i≤k}=>⟨[(1,eV a),(2,.one (.ptr 1 0)),(4,.one .nil),(5,.one (.int .i64 n)),(6,.one (.int .i64 y.1))],[(0,⟨rB N rs,true⟩),(1,⟨.var [tC H U,.own 0 1 0 N],true⟩)],2,60⟩) (fun y=>k-y.1) ⟨0,Nat.zero_le _⟩ ?_ (fun⟨i,hi⟩=>?_)
  ·refine Sa ?_;simp only[ry,seval,rz,rB,tV,tC,eV,aa]
  simp only;have TI:=hg i hi;have wi:=wI i (by omega);simp only[vx,T,seval,rB,tV,tC,eV,aa,wi];refine⟨by omega,?_⟩;refine⟨fun g=>Lg ?_,fun g=>Lg ?_⟩
  ·have T8:=TI.1 g;simp only[vx,T,seval,rB,tV,tC,eV,aa,wi];refine Lq ⟨i+1,by omega⟩ ?_ (by show k-(i+1)<k-i;omega);refine Sa ?_;simp only[ry,seval,rz,rB,tV,tC,eV,aa]
  have T8:i=k:=by
   have:¬i<k:=fun h=>g (TI.2 h)
   omega
  subst T8;obtain⟨⟨m,hm,lr⟩,qr⟩:=I.r i (by omega);have q2:=I.y i (by omega) _ Sd (hq.drop _);have Tm:(rs.getD i []).length≤2^H:=by rw[lr];exact Nat.pow_le_pow_right (by decide) hm
  have pd:=mD (t:=U) (a:=rs.getD i []) (by omega) (by rw[lr];exact Nat.two_pow_pos _) Tm;have mu:=gM fY I.tq.tk I.tq.q I.hY I.hZ (a9 H U rs i (a.drop (2^i))) (cE H (rs.getD i [])) a5 (bC Tm) q2 (Go.Tw.QB.pad I.hZ qr) I.s;have gm:=QB.mul (h:=H) (t:=U) fY I.tq.q I.hY I.hZ q2 (Go.Tw.QB.pad (H:=H) I.hZ qr);have S1:=Go.Tw.il (h:=H) (S:=Y+Z) (C:=tB);have hs:=I.s;have q1:=I.y i (by omega) _ Sg (hq.take _);have ad:=mX I.tq.tk (a9 H U rs i (a.take (2^i))) _ a5 ae (.of q1 (by omega)) (.of gm hs);have el:=Go.Tw.yO (H:=H) (T:=U) (rs:=rs) (k:=i) (a:=a);have er:a9 H U rs (i+1) a=aB (a9 H U rs i (a.take (2^i))) (ai H U (a9 H U rs i (a.drop (2^i))) (cE H (rs.getD i []))):=rfl;rw[←er]at ad;obtain⟨r,hr⟩:∃r,r=a9 H U rs (i+1) a:=⟨_,rfl⟩;obtain⟨x,hx⟩:∃x,x=a9 H U rs i (a.take (2^i)):=⟨_,rfl⟩;obtain⟨y,hy⟩:∃y,y=a9 H U rs i (a.drop (2^i)):=⟨_,rfl⟩;obtain⟨v,hv⟩:∃v,v=rs.getD i []:=⟨_,rfl⟩;obtain⟨p,UN⟩:∃p,p=cE H v:=⟨_,rfl⟩;rw[←hr,←hx]at el ad;rw[←hx]at c1;rw[←hy]at c2;rw[←hr];rw[←hv]at pd;rw[←hy,←hv,←UN]at ad mu;rw[←UN]at pd;have RG:i<rs.length:=by omega
  by_cases hz:a.drop (2^i)=zE (2^i)
  ·rw[decide_eq_true (by rw[Sd];exact hz)]at z;rw[el hz];rw[←RK]at c1 z;simp only[vx,T,seval,rB,tV,tC,eV,aa,wi,w4];refine⟨⟨by omega,by omega⟩,Cm 0 (B:=rB N rs) rfl trivial c1 ?_⟩;rintro _ _ ⟨rfl,rfl⟩ _;simp only[vx,T,seval,oM,rB,tV,tC,eV,aa,wi,w4];refine⟨⟨by omega,by omega,by omega⟩,Cg z ?_⟩;simp only[vx,T,seval,oM,rB,tV,tC,eV,aa,wi,w4];exact⟨rfl,rfl⟩
  rw[decide_eq_false (by rw[Sd];exact hz)]at z;rw[←RK]at c1 c2 z;simp only[vx,T,seval,rB,tV,tC,eV,aa,wi,w4];refine⟨⟨by omega,by omega⟩,Cm 0 (B:=rB N rs) rfl trivial c1 ?_⟩;rintro _ _ ⟨rfl,rfl⟩ _;simp only[vx,T,seval,oM,rB,tV,tC,eV,aa,wi,w4];refine⟨⟨by omega,by omega,by omega⟩,Cg z ?_⟩;simp only[vx,T,seval,oM,rB,tV,tC,eV,aa,wi,w4];refine⟨⟨by omega,by omega,by omega⟩,⟨by omega,by omega⟩,Cm 0 (B:=rB N rs) rfl trivial c2 ?_⟩;rintro _ _ ⟨rfl,rfl⟩ _;simp only[vx,T,seval,oM,rB,tV,tC,eV,aa,wi,w4,←hv];refine⟨⟨by omega,by omega⟩,Cg pd ?_⟩;simp only[vx,T,seval,oM,rB,tV,tC,eV,aa,wi,w4,←hv];refine Cg mu ?_;simp only[vx,T,seval,oM,rB,tV,tC,eV,aa,wi,w4,←hv];refine Cg ad ?_;simp only[vx,T,seval,oM,rB,tV,tC,eV,aa,wi,w4,←hv];exact⟨rfl,rfl⟩
end Go.Proofs.YthnkehdgnagmnaaGreat
namespace Go.Tw
open Go Go.R Go.Eng
theorem QB.bits {B:Nat}{a:El}(h:QB B a):iL (32*B) a:=fun c hc=>by
 have h1:=h c hc;unfold qm at h1;have key:∀n,nl n≤B→n≤2^(32*B):=fun n hn=>by
  have:=cF n
  have h2:BB^nl n≤BB^B:=Nat.pow_le_pow_right (by decide) hn;have h3:BB^B=2^(32*B):=by rw[show BB=2^32 from rfl,←Nat.pow_mul]
  omega
 exact⟨key _ (by unfold zn at h1;omega),key _ (by omega)⟩
section
variable {A:List R}{u T rs:List El}{K:Nat}
theorem Ext.Da (E:Ext A u K T rs){i:Nat}(hi:i<K):In T.length T (R.sqrt (val i u (u.getD i []))):=by
 obtain⟨m,hm,hl,hv⟩:=E.root i hi;rw[←hv];exact(In.of hl).le hm
theorem Ext.num (E:Ext A u K T rs)(hu:∀i,i<K→val i u (u.getD i [])∈A){j:Nat}(hj:j≤K){b:El}{B:Nat}(hb:b.length=2^j)(hB:iL B b):
  ax A T (a9 T.length T rs j b) (val j u b) ((B+1)*2^j) (2^j):=
 ⟨E.tg,a5,lI E hj hb,fun c=>(Sz.expr (c:=c) hb hB (fun i hi=>.gen ⟨⟨_,hu i (by omega),rfl⟩,rfl⟩)).mono (by have:=xB (B:=B) (c:=c) j;omega)⟩
theorem QB.HG {B H:Nat}{a:El}(h:QB B (cE H a)):QB B a:=fun c hc=>h c (List.mem_append_left _ hc)
theorem Ext.Aq (E:Ext A u K T rs)(hu:∀i,i<K→val i u (u.getD i [])∈A){i:Nat}(hi:i<K):ax A T (cE T.length (rs.getD i [])) (R.sqrt (val i u (u.getD i []))) 0 1:=by
 obtain⟨m,hm,hl,hv⟩:=E.root i hi;exact⟨E.tg,bC (by rw[hl];exact Nat.pow_le_pow_right (by decide) hm),by rw[sF hl hm,hv],kV.root (hu i hi)⟩
theorem nu {h β μ β' μ':Nat}(h1:β≤β')(h2:μ≤μ'):qN h β μ≤qN h β' μ':=by
 unfold qN;have h3:μ*OO h≤μ'*OO h:=Nat.mul_le_mul_right _ h2;have h4:2^3*(β+μ*OO h+cW)≤2^3*(β'+μ'*OO h+cW):=Nat.mul_le_mul_left _ (by omega);omega
def yX:Nat:=2^24
theorem PX:∀H,H≤3→qN H ((32*tB+1)*2^2) (2^2)≤yX∧qN H 0 1≤yX:=by
 intro h hh
 match h,hh with
 |0,_=>decide+kernel
 |1,_=>decide+kernel
 |2,_=>decide+kernel
 |3,_=>decide+kernel
theorem Ext.qb (S:Src 64 A)(hA:A.length≤3)(E:Ext A u K T rs)(hu:∀i,i<K→val i u (u.getD i [])∈A){j:Nat}(hj:j≤K)(h2:j≤2){b:El}(hb:b.length=2^j)(hB:QB tB b):QB yX (a9 T.length T rs j b):=by
 have hp:2^j≤2^2:=Nat.pow_le_pow_right (by decide) h2;exact(((E.num hu hj hb hB.bits).mono (Nat.mul_le_mul_left _ hp) hp).qb S hA).mono (PX _ (E.tg.kg S hA)).1
theorem Ext.Kh (S:Src 64 A)(hA:A.length≤3)(E:Ext A u K T rs)(hu:∀i,i<K→val i u (u.getD i [])∈A){i:Nat}(hi:i<K):QB yX (rs.getD i []):=
 QB.HG (((E.Aq hu hi).qb S hA).mono (PX _ (E.tg.kg S hA)).2)
end
theorem chain {α:Type}{I:Nat→α→Prop}{St:Nat→α→α→Prop}{x0:α}(h0:I 0 x0):∀{n:Nat} (_:∀i x,i<n→I i x→∃y,St i x y∧I (i+1) y),
  ∃s:Nat→α,s 0=x0∧(∀i,i≤n→I i (s i))∧∀i,i<n→St i (s i) (s (i+1))
 |0,_=>⟨fun _=>x0,rfl,fun i hi=>by
                       obtain rfl:i=0:=by omega
                       exact h0,fun i hi=>absurd hi (Nat.not_lt_zero _)⟩
 |n+1,h=>by
  obtain⟨s,e0,h1,h2⟩:=chain h0 (n:=n) (fun i x hi=>h i x (by omega));obtain⟨y,hy,hI⟩:=h n (s n) (by omega) (h1 n (Nat.le_refl n));refine⟨fun j=>if j≤n then s j else y,by simp[e0],fun i hi=>?_,fun i hi=>?_⟩
  ·by_cases k:i≤n
   ·simp only[if_pos k];exact h1 i k
   obtain rfl:i=n+1:=by omega
   simp only[if_neg k];exact hI
  by_cases k:i+1≤n
  ·simp only[if_pos k,if_pos (show i≤n by omega)];exact h2 i (by omega)
  obtain rfl:i=n:=by omega
  simp only[if_neg k,if_pos (Nat.le_refl i)];exact hy
end Go.Tw
namespace Go.Proofs.YthnkehdgnagmnaaGreat
open Go.Proofs.Tryz
open Go Go.Eng
open Go.Tw (El aB aJ zE ai ar QB mS tB val In Rd l6 TG cE bC a9 a5 Ext jL yX)
theorem j4 (rn:List (Nat×Option Nat)){e e':List (Nat×V)}{o o':List (Nat×fA)}{x x' n:Nat}(h:(rV rn 0=some 0∧0<x')∧Y0 rn x' e e'∧Y4 rn x' o o'∧Y6 rn o'):Sub ⟨e,o,x,n⟩ ⟨e',o',x',n⟩:=
 Sub.of rn h.1 rfl h.2.1 h.2.2.1 h.2.2.2
def LR (A:List R)(t u:List El)(i:Nat)(x:List El×List El):Prop:=(∃s,x.1=t++s)∧Ext A u i x.1 x.2∧((∀j,j<i→In t.length t (R.sqrt (val j u (u.getD j []))))→x.1=t)
def QG (f g:FuncId)(u:List El)(i:Nat)(x y:List El×List El):Prop:=
 ∃e w,Mc prog f [oM x.1.length x.1 i,eV (u.getD i [])] (rB i x.2) (MC x.2 i (eV e))∧Pr prog g [tV x.1.length x.1,eV e] (.aF [tV y.1.length y.1,eV w,.one (.int .i64 0)])∧y.2=x.2++[w]
section
variable {A:List R}(S:Go.Tw.Src 64 A)(hA:A.length≤3){t u:List El}
include S hA
theorem kR (G:TG A t):TQ t.length t:=(vF S hA G (Nat.le_refl _)).rq.tq
theorem Ix (G:TG A u){k:Nat}{U rs:List El}(E:Ext A u k U rs)(hk:k≤u.length):Fy tB yX yX U.length k U rs:=by
 have h3:=G.kg S hA;have hu:∀i,i<k→val i u (u.getD i [])∈A:=fun i hi=>G.mem i (by omega);refine⟨kR S hA E.tg,by decide,by decide,by decide,fun j hj b hb hq=>E.qb S hA hu (by omega) (by omega) hb hq,fun i hi=>?_,kZ (E.tg.kg S hA) (by decide)⟩;obtain⟨m,h1,h2,_⟩:=E.root i hi;exact⟨⟨m,h1,h2⟩,E.Kh S hA hu hi⟩
theorem ID (G:TG A t)(Gu:TG A u):∃s:Nat→List El×List El,s 0=(t,[])∧(∀i,i≤u.length→LR A t u i (s i))∧
  ∀i,i<u.length→QG 139 173 u i (s i) (s (i+1)):=by
 have h3:=Gu.kg S hA;refine Go.Tw.chain (I:=LR A t u) ⟨⟨[],(List.append_nil t).symm⟩,⟨G,rfl,fun i hi=>absurd hi (Nat.not_lt_zero _)⟩,fun _=>rfl⟩ fun i x hi hx=>?_;obtain⟨U,rs⟩:=x;obtain⟨⟨s,hs⟩,E,Rz⟩:=hx;have hs:U=t++s:=hs;have E:Ext A u i U rs:=E;have lu:=(Gu.rd.rl i hi).1;have ci:=l7 E.len (Ix S hA Gu E (by omega)) (by rw[E.len];exact Nat.le_refl _) (by omega) lu (Gu.qb S hA hi);have le:(a9 U.length U rs i (u.getD i [])).length=2^U.length:=a5;have ve:=Go.Tw.lI E (Nat.le_refl _) lu;have hm:val U.length U (a9 U.length U rs i (u.getD i []))∈A:=by rw[ve];exact Gu.mem i hi
 have hp:R.pos (val U.length U (a9 U.length U rs i (u.getD i []))):=by rw[ve];exact(Gu.rd.rl i hi).2
 have rb:=E.tg.Qz S hA le hm hp
 rcases zq S hA E.tg le (R.bu.2 (.inr hp)) rb with⟨w,lw,vw,cw⟩|⟨no,c⟩
 ·refine⟨(U,rs++[w]),⟨_,w,ci,cw,rfl⟩,⟨s,hs⟩,?_,fun h=>Rz fun j hj=>h j (by omega)⟩
  have:=E.up (S:=[]) (r:=w) (m:=U.length) (by rw[List.append_nil];exact E.tg) (by rw[List.append_nil];exact Nat.le_refl _) lw (by rw[List.append_nil,vw,ve])
  rwa [List.append_nil]at this
 have G':=E.tg.snoc le hm hp no;have hl:(U++[a9 U.length U rs i (u.getD i [])]).length=U.length+1:=by simp
 refine⟨(U++[a9 U.length U rs i (u.getD i [])],rs++[Go.Tw.dI U.length]),⟨_,Go.Tw.dI U.length,ci,?_,rfl⟩,⟨s++[a9 U.length U rs i (u.getD i [])],by rw[hs,List.append_assoc]⟩,?_,fun h=>?_⟩
 ·show Pr _ _ _ (.aF [tV (U++[a9 U.length U rs i (u.getD i [])]).length _,_,_]);rw[hl];exact c
 ·exact E.up G' (m:=U.length+1) (by rw[hl];exact Nat.le_refl _) Go.Tw.kJ (by rw[Go.Tw.qG,ve])
 have eU:U=t:=Rz fun j hj=>h j (by omega);have R6:=h i (by omega);rw[←eU]at R6;refine absurd ?_ (no _ R6);rw[ve];exact R.dy (R.bu.2 (.inr (Gu.rd.rl i hi).2))
theorem jP (G:TG A t)(Gu:TG A u):∃U rs s,U=t++s∧Ext A u u.length U rs∧((∀j,j<u.length→In t.length t (R.sqrt (val j u (u.getD j []))))→U=t)∧Pr prog 138 [tV t.length t,tV u.length u] (.aF [eM U.length U rs,.one (.int .i64 0)]):=by
 obtain⟨s,e0,hI,hS⟩:=ID S hA G Gu;have h3:=Gu.kg S hA;obtain⟨⟨z,hz⟩,E,Rz⟩:=hI u.length (Nat.le_refl _);refine⟨(s u.length).1,(s u.length).2,z,hz,E,Rz,?_⟩;have hl:∀i,i≤u.length→(s i).2.length=i:=fun i hi=>(hI i hi).2.1.len;have WX:∀i,i≤u.length→(s i).1.length≤3:=fun i hi=>(hI i hi).2.1.tg.kg S hA;have e1:(s 0).1=t:=by rw[e0]
 rw[←e1];clear e0 e1 hI hz E Rz;obtain⟨n,hn⟩:∃n,n=u.length:=⟨_,rfl⟩;rw[←hn]at hS h3 hl WX⊢;rw[show eM (s n).1.length (s n).1 (s n).2= .agg [tC (s n).1.length (s n).1,tC n (s n).2] by unfold eM;rw[hl n (Nat.le_refl n)]];refine pw func138 ⟨[0,1,4,5,6,8,9,10,11,14,15,16,17,31],[(5,(.cons 4 [0,1] (.cons 5 [] (.cons 6 [] (.cons 7 [] (.cons 8 [] (.cons 9 [] (.cons 10 [] (.cons 11 [] (.cons 12 [] .nil .nil) .nil) .nil) (.cons 10 [] (.cons 9 [] (.cons 11 [] (.cons 12 [] .nil .nil) .nil) (.cons 11 [] (.cons 9 [] (.cons 12 [] .nil .nil) .nil) .nil)) .nil)) (.cons 9 [] (.cons 8 [] (.cons 10 [] (.cons 11 [] (.cons 12 [] .nil .nil) .nil) .nil) (.cons 10 [] (.cons 8 [] (.cons 11 [] (.cons 12 [] .nil .nil) .nil) .nil) .nil)) (.cons 10 [] (.cons 8 [] (.cons 9 [] (.cons 11 [] (.cons 12 [] .nil .nil) .nil) (.cons 11 [] (.cons 9 [] (.cons 12 [] .nil .nil) .nil) .nil)) (.cons 9 [] (.cons 8 [] (.cons 11 [] (.cons 12 [] .nil .nil) .nil) .nil) .nil)) .nil))) (.cons 8 [] (.cons 7 [] (.cons 9 [] (.cons 10 [] (.cons 11 [] (.cons 12 [] .nil .nil) .nil) .nil) (.cons 10 [] (.cons 9 [] (.cons 11 [] (.cons 12 [] .nil .nil) .nil) (.cons 11 [] (.cons 9 [] (.cons 12 [] .nil .nil) .nil) .nil)) .nil)) (.cons 9 [] (.cons 7 [] (.cons 10 [] (.cons 11 [] (.cons 12 [] .nil .nil) .nil) .nil) .nil) .nil)) (.cons 9 [] (.cons 7 [] (.cons 8 [] (.cons 10 [] (.cons 11 [] (.cons 12 [] .nil .nil) .nil) .nil) (.cons 10 [] (.cons 8 [] (.cons 11 [] (.cons 12 [] .nil .nil) .nil) .nil) .nil)) (.cons 8 [] (.cons 7 [] (.cons 10 [] (.cons 11 [] (.cons 12 [] .nil .nil) .nil) .nil) .nil) .nil)) .nil))) .nil) .nil) .nil))]⟩ ?_;simp only[Tryz.f138,ntmps138,iz,seval];simp only[vx,T,seval,eM,tV,tC,eV,aa];refine Lk (fun y:{i:Nat//i≤n}=>⟨[(4,.one (.ptr 1 0)),(5,.one (.int .i64 0)),(6,.one (.ptr 2 0)),(14,tV n u),(15,.one (.int .i64 n)),(16,.one (.int .i64 y.1))],[(1,⟨.var [.nil,.nil],true⟩),(2,⟨.var [tC (s y.1).1.length (s y.1).1,.own 3 1 0 y.1],true⟩),(3,⟨.rows 35 1 y.1 (fun j _=>aa ((s y.1).2.getD j [])),true⟩)],4,44⟩) (fun y=>n-y.1) ⟨0,Nat.zero_le _⟩ ?_ (fun⟨i,hi⟩=>?_)
 ·refine j4 [(1,some 1),(2,some 5),(3,none)] ?_;simp only[ry,seval,tV,tC,eV,aa,X4]
 simp only;have wi:=wI i (by omega);simp only[vx,T,seval,tV,tC,eV,aa,wi];refine⟨fun g=>Lg ?_,fun g=>Lg ?_⟩
 ·have RG:i<n:=by omega
  obtain⟨e,w,ci,ca,er⟩:=hS i RG;have SN:=hl i hi;have h3i:=WX i hi;obtain⟨v,hv⟩:∃v,v=u.getD i []:=⟨_,rfl⟩;rw[←hv]at ci;obtain⟨U,hU⟩:∃U,U=(s i).1:=⟨_,rfl⟩;obtain⟨rs,SR⟩:∃rs,rs=(s i).2:=⟨_,rfl⟩;rw[←SR]at er SN;rw[←hU,←SR]at ci;rw[←hU]at ca h3i;rw[←hU,←SR];simp only[vx,T,seval,tV,tC,eV,aa,←hv];refine⟨⟨by omega,by omega⟩,Cm 3 (B:=rB i rs) rfl trivial ci ?_⟩;rintro _ _ ⟨rfl,rfl⟩ _;simp only[vx,T,seval,rB,oM,tV,tC,eV,aa,←hv];refine Cg ca ?_;simp only[vx,T,seval,rB,oM,tV,tC,eV,aa,←hv,wi];have es:(s (i+1)).2=rs++[w]:=er;have e1:∀j,j<i→(rs++[w]).getD j []=rs.getD j []:=fun j hj=>Go.Tw.dg (by omega);have e2:(rs++[w]).getD i []=w:=by rw[←SN];exact Go.Tw.fM
  repeat' (with_reducible refine And.intro ?_ ?_)
  all_goals first|omega|(refine Lq ⟨i+1,by omega⟩ ?_ (by show n-(i+1)<n-i;omega))
  all_goals
   refine j4 [(1,some 1),(2,some 2),(3,some 36)] ?_;simp only[ry,seval,tV,tC,eV,aa];rw[es];intro k j hk hj;obtain rfl:j=0:=by omega
   by_cases Vt:k<i
   ·rw[if_pos Vt,e1 k Vt]
   obtain rfl:k=i:=by omega
   rw[if_neg Vt,e2,Nat.sub_self];rfl
 have RG:i=n:=by omega
 subst RG;simp only[vx,T,seval,tV,tC,eV,aa,wi];exact Ve rfl
end
open Go Go.Eng
open Go.Tw (El aB aJ zE ai ar QB mS tB val In Rd l6 TG cE bC a9 a5 Ext jL yX)
def bw (x:List El×El):Nat→C
 |0=>tC x.1.length x.1
 |1=>aa x.2
 |_=>.any
def fm (l:List (List El×El))(i:Nat):Nat→C:=bw (l.getD i default)
def bV (l:List (List El×El)):C:=.rows 2 l.length (fm l)
def nX (x:List El×El):V:=nV x.1.length x.1 x.2
theorem rm {h:Nat}{t:List El}{a:El}(tk:Tk h t)(ha:a.length<2^38)(hq:Qk a):Pr prog 78 [nV h t a] (nV h t a):=by
 have h8:=tk.le8;have c:=(oi a ha hq).rows;have d:∀i,i<h→Pr prog 112 [eV (t.getD i [])] (.one (.rows 4 (t.getD i []).length (fQ (t.getD i [])))):=fun i hi=>
  (oi _ (by rw[tk.len i hi];exact aN (by omega)) (tk.q i hi)).rows
 refine pw func78 ⟨[0,1,2,3,5,11,12,13,14],[]⟩ ?_;simp only[Tryz.f78,ntmps78,iz,seval];simp only[vx,T,seval,nV,tC,eV,aa];refine Cg c ?_;simp only[vx,T,seval,nV,tC,eV,aa];refine Lk (fun y:{i:Nat//i≤h}=>⟨[(1,.one (.ptr 1 0)),(2,.one (.ptr 2 0)),(3,.one (.ptr 7 0)),(11,tV h t),(12,.one (.int .i64 h)),(13,.one (.int .i64 y.1))],[(1,⟨.var [tC h t,aa a],true⟩),(2,⟨.var [.nil,.nil],true⟩),(7,⟨.var [.own 8 1 0 y.1,aa a],true⟩),(8,⟨.rows 35 1 y.1 (fun j _=>aa (t.getD j [])),true⟩)],12,26⟩) (fun y=>h-y.1) ⟨0,Nat.zero_le _⟩ ?_ (fun⟨i,hi⟩=>?_)
 ·refine j4 [(1,some 1),(2,some 2),(7,some 7),(8,none)] ?_;simp only[ry,seval,nV,tV,tC,eV,aa,X4];exact fun _ _ _ _=>rfl
 simp only;have wi:=wI i (by omega);simp only[vx,T,seval,tV,tC,eV,aa,wi];refine⟨fun g=>Lg ?_,fun g=>Lg ?_⟩
 ·have di:=d i (by omega);obtain⟨v,hv⟩:∃v,v=t.getD i []:=⟨_,rfl⟩;rw[←hv]at di;simp only[vx,T,seval,tV,tC,eV,aa,←hv,wi];refine⟨by omega,Cg di ?_⟩;simp only[vx,T,seval,tV,tC,eV,aa,←hv,wi];refine⟨⟨by omega,by omega⟩,Lq ⟨i+1,by omega⟩ ?_ (by show h-(i+1)<h-i;omega)⟩;refine j4 [(1,some 1),(2,some 2),(7,some 7),(8,some 24)] ?_;simp only[ry,seval,tV,tC,eV,aa];intro k j hk hj;obtain rfl:j=0:=by omega
  by_cases Vt:k<i
  ·rw[if_pos Vt]
  obtain rfl:k=i:=by omega
  rw[if_neg Vt,Nat.sub_self,←hv];rfl
 have RG:i=h:=by omega
 subst RG;simp only[vx,T,seval,tV,tC,eV,aa,wi];exact Ve rfl
def vf (t x t':List El):Prop:=
 (fe t.length x.length t x=true∧t'=t)∨(fe t.length x.length t x=false∧fe x.length t.length x t=true∧t'=x)∨
 (fe t.length x.length t x=false∧fe x.length t.length x t=false∧∃rs,Pr prog 138 [tV t.length t,tV x.length x] (.aF [eM t'.length t' rs,.one (.int .i64 0)]))
theorem rr (l:List (List El×El))(hl:l.length<2^30)(tt:Nat→List El)(h0:tt 0=[])(tk:∀i,i≤l.length→Tk (tt i).length (tt i))(xk:∀i,i<l.length→Tk (l.getD i default).1.length (l.getD i default).1)
  (st:∀i,i<l.length→vf (tt i) (l.getD i default).1 (tt (i+1))):Pr prog 135 [.one (bV l)] (.aF [tV (tt l.length).length (tt l.length),.one (.int .i64 0)]):=by
 have e0:(tt 0).length=0:=by rw[h0];rfl
 refine pw func135 ⟨[0,2,3,4,6,7,8,9,10,11,12,23,27,32],[]⟩ ?_;simp only[Tryz.f135,ntmps135,iz,seval];simp only[vx,T,seval,bV];refine Lk (fun y:{i:Nat//i≤l.length}=>⟨[(2,.one .nil),(3,.one (.int .i64 0)),(4,tV (tt y.1).length (tt y.1)),(9,.one (bV l)),(10,.one (.int .i64 l.length)),(11,.one (.int .i64 y.1))],[],1,41⟩) (fun y=>l.length-y.1) ⟨0,Nat.zero_le _⟩ ?_ (fun⟨i,hi⟩=>?_)
 ·refine Sa ?_;simp only[ry,seval,rz,bV,tV,tC,e0]
 simp only;have wi:=wI i (by omega);simp only[vx,T,seval,bV,tV,tC,wi];refine⟨fun g=>Lg ?_,fun g=>Lg ?_⟩
 ·have RG:i<l.length:=by omega
  have sti:=st i RG;have b1:=mf (tk i hi) (xk i RG);have b2:=mf (xk i RG) (tk i hi);obtain⟨x,hx⟩:∃x,x=l.getD i default:=⟨_,rfl⟩;rw[←hx]at sti b1 b2;obtain⟨t,ht⟩:∃t,t=tt i:=⟨_,rfl⟩;rw[←ht]at sti b1 b2;obtain⟨t',SO⟩:∃t',t'=tt (i+1):=⟨_,rfl⟩;rw[←SO]at sti;rw[←ht]
  rcases sti with⟨g1,e⟩|⟨g1,g2,e⟩|⟨g1,g2,rs,c⟩
  ·rw[g1]at b1;simp only[vx,T,seval,bV,fm,bw,tV,tC,←hx,wi];refine⟨by omega,Cg b1 ?_⟩;simp only[vx,T,seval,bV,fm,bw,tV,tC,←hx,wi];refine Lq ⟨i+1,by omega⟩ ?_ (by show l.length-(i+1)<l.length-i;omega);refine Sa ?_;simp only[ry,seval,rz,bV,tV,tC,←SO,e]
  ·rw[g1]at b1;rw[g2]at b2;simp only[vx,T,seval,bV,fm,bw,tV,tC,←hx,wi];refine⟨by omega,Cg b1 ?_⟩;simp only[vx,T,seval,bV,fm,bw,tV,tC,←hx,wi];refine Cg b2 ?_;simp only[vx,T,seval,bV,fm,bw,tV,tC,←hx,wi];refine Lq ⟨i+1,by omega⟩ ?_ (by show l.length-(i+1)<l.length-i;omega);refine Sa ?_;simp only[ry,seval,rz,bV,tV,tC,←SO,e]
  rw[g1]at b1;rw[g2]at b2;simp only[vx,T,seval,bV,fm,bw,tV,tC,←hx,wi];refine⟨by omega,Cg b1 ?_⟩;simp only[vx,T,seval,bV,fm,bw,tV,tC,←hx,wi];refine Cg b2 ?_;simp only[vx,T,seval,bV,fm,bw,tV,tC,←hx,wi];refine Cg c ?_;simp only[vx,T,seval,bV,fm,bw,tV,tC,eM,←hx,wi];refine Lq ⟨i+1,by omega⟩ ?_ (by show l.length-(i+1)<l.length-i;omega);refine Sa ?_;simp only[ry,seval,rz,bV,tV,tC,←SO]
 have RG:i=l.length:=by omega
 subst RG;simp only[vx,T,seval,bV,tV,tC,wi];exact Ve rfl
def vS (T':List El)(x:List El×El)(e:El):Prop:=
 (fe T'.length x.1.length T' x.1=true∧Pr prog 137 [tV T'.length T',eV x.2] (eV e))∨
 (fe T'.length x.1.length T' x.1=false∧∃U rs,Pr prog 138 [tV T'.length T',tV x.1.length x.1] (.aF [eM U.length U rs,.one (.int .i64 0)])∧Pr prog 139 [eM U.length U rs,eV x.2] (eV e))
theorem sY {ks:List (List El×El)}{k:Nat}(hk:ks.length=k)(x:List El×El):∀(i j:Nat),i<k+1→j<2→
  (if i<k then fm ks i j else[tC x.1.length x.1,aa x.2].getD ((i-k)*2+j) C.any)=fm (ks++[x]) i j:=by
 subst hk;intro i j hi hj
 by_cases h:i<ks.length
 ·rw[if_pos h];unfold fm;rw[X7,X7,List.getElem?_append_left h]
 have:i=ks.length:=by omega
 subst this;have e:(ks++[x]).getD ks.length default=x:=by rw[X7,List.getElem?_append_right (Nat.le_refl _),Nat.sub_self];rfl
 rw[if_neg h,Nat.sub_self,Nat.zero_mul,Nat.zero_add];unfold fm;rw[e]
 match j,hj with
 |0,_=>rfl
 |1,_=>rfl
theorem tv (l os:List (List El×El))(hl:l.length<2^30)(VA:os.length=l.length)(U:List El)(uk:Tk U.length U)(xk:∀i,i<l.length→Tk (l.getD i default).1.length (l.getD i default).1)
  (cm:Pr prog 135 [.one (bV l)] (.aF [tV U.length U,.one (.int .i64 0)]))
  (st:∀i,i<l.length→(os.getD i default).1=U∧(os.getD i default).2.length<2^38∧Qk (os.getD i default).2∧vS U (l.getD i default) (os.getD i default).2):
  dG prog 102 [.one (bV l)] (.rows 37 2 os.length (fm os)) (.int .i64 0):=by
 have u8:=uk.le8;refine tw func102 ⟨[0,2,3,4,5,6,8,9,10,11,18,20,21,22,23,31,45],[]⟩ ?_;simp only[Tryz.f102,ntmps102,iz,seval];simp only[vx,T,seval,bV];refine Cg cm ?_;simp only[vx,T,seval,bV,tV,tC];refine Lk (fun y:{i:Nat//i≤l.length}=>⟨[(2,.one .nil),(3,.one (.int .i64 0)),(4,tV U.length U),(6,.one (.own 1 2 0 y.1)),(20,.one (bV l)),(21,.one (.int .i64 l.length)),(22,.one (.int .i64 y.1))],[(1,⟨.rows 37 2 y.1 (fm (os.take y.1)),true⟩)],16,59⟩) (fun y=>l.length-y.1) ⟨0,Nat.zero_le _⟩ ?_ (fun⟨i,hi⟩=>?_)
 ·refine Sa ?_;simp only[ry,seval,rz,bV,tV,tC]
 simp only;have wi:=wI i (by omega);simp only[vx,T,seval,bV,tV,tC,wi];refine⟨fun g=>Lg ?_,fun g=>Lg ?_⟩
 ·have RG:i<l.length:=by omega
  obtain⟨s1,s2,s3,sj⟩:=st i RG;have b1:=mf uk (xk i RG);have RM:os.take (i+1)=os.take i++[os.getD i default]:=by rw[List.take_add_one,X7,X8 (by omega)];rfl
  have XJ:(os.take i).length=i:=by rw[X5];omega
  have sn:=sY XJ (os.getD i default);rw[←RM]at sn;obtain⟨x,hx⟩:∃x,x=l.getD i default:=⟨_,rfl⟩;rw[←hx]at sj b1;obtain⟨o,ho⟩:∃o,o=os.getD i default:=⟨_,rfl⟩;rw[←ho]at s1 s2 s3 sj sn;have dt:=rm uk s2 s3;rw[s1]at sn
  rcases sj with⟨g1,c⟩|⟨g1,V,rs,c,d⟩
  ·rw[g1]at b1;simp only[vx,T,seval,bV,fm,bw,tV,tC,←hx,wi];refine⟨by omega,Cg b1 ?_⟩;simp only[vx,T,seval,bV,fm,bw,tV,tC,←hx,wi];refine Cg c ?_;simp only[vx,T,seval,bV,fm,bw,tV,tC,eV,aa,←hx,wi];refine Cg dt ?_;simp only[vx,T,seval,bV,nV,tV,tC,eV,aa,wi];refine⟨⟨by omega,by omega⟩,Lq ⟨i+1,by omega⟩ ?_ (by show l.length-(i+1)<l.length-i;omega)⟩;refine Sa ?_;simp only[ry,seval,rz,bV,tV,tC,aa];exact sn
  rw[g1]at b1;simp only[vx,T,seval,bV,fm,bw,tV,tC,←hx,wi];refine⟨by omega,Cg b1 ?_⟩;simp only[vx,T,seval,bV,fm,bw,tV,tC,←hx,wi];refine Cg c ?_;simp only[vx,T,seval,bV,fm,bw,tV,tC,eV,aa,eM,←hx,wi];refine Cg d ?_;simp only[vx,T,seval,bV,fm,bw,tV,tC,eV,aa,←hx,wi];refine Cg dt ?_;simp only[vx,T,seval,bV,nV,tV,tC,eV,aa,wi];refine⟨⟨by omega,by omega⟩,Lq ⟨i+1,by omega⟩ ?_ (by show l.length-(i+1)<l.length-i;omega)⟩;refine Sa ?_;simp only[ry,seval,rz,bV,tV,tC,aa];exact sn
 have RG:i=l.length:=by omega
 subst RG;have e:os.take l.length=os:=by rw[←VA,List.take_length]
 simp only[vx,T,seval,bV,tV,tC,wi,e];exact⟨VA.symm,rfl,VA.symm,fun _ _ _ _=>rfl⟩
theorem Fg (l os:List (List El×El))(hl:l.length<2^30)(VA:os.length=l.length)(U:List El)(uk:Tk U.length U)(xk:∀i,i<l.length→Tk (l.getD i default).1.length (l.getD i default).1)
  (cm:Pr prog 135 [.one (bV l)] (.aF [tV U.length U,.one (.int .i64 0)]))
  (st:∀i,i<l.length→(os.getD i default).1=U∧(os.getD i default).2.length<2^38∧Qk (os.getD i default).2∧vS U (l.getD i default) (os.getD i default).2):
  Pr prog 102 [.one (bV l)] (.aF [.one (bV os),.one (.int .i64 0)]):=(tv l os hl VA U uk xk cm st).rows
end Go.Proofs.YthnkehdgnagmnaaGreat
