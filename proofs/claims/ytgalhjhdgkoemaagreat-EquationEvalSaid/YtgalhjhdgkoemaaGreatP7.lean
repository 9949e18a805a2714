/-
  EquationEval: for every input the law returns true, and each argument reads afterwards as it read before. No condition beyond the given row's own cells.
  (Text 7 of 10; made by a program out of smaller texts.)
-/
import Derived.Test.YtgalhjhdgkoemaaGreatP6
set_option linter.unusedSimpArgs false
set_option linter.unusedVariables false
set_option maxHeartbeats 16000000
set_option maxRecDepth 10000
open Nat renaming reduceAdd→J1,reduceMul→J2,reduceSub→J3,reduceEqDiff→J4,reduceLT→J5,reduceLeDiff→J6,reduceBEq→J7,reduceDiv→J8,reduceMod→J9,reducePow→J0
open Int renaming reduceToNat→K1,reduceLE→K2,reduceLT→K3,reduceEq→K4,reducePow→K5,reduceSub→K6,reduceNeg→K7,natCast_add→X2,natCast_one→X3,natCast_zero→X4
open List renaming getD_cons_zero→X0,getD_cons_succ→X1,length_take→X5,length_append→X6,getD_eq_getElem?_getD→X7,getElem?_eq_getElem→X8
namespace Go.Proofs.YtgalhjhdgkoemaaGreat
open Go Go.Eng
open Go.Tw (El aC aG zE aj au ar aq ae QB mS ai ah aL aF tB aX aD)
theorem JS:∀{a:El} {n:Nat},a.length=n→aC (zE n) a=a:=fun h=>by rw[Go.Tw.qP,Go.Tw.iR h]
theorem Kd {h:Nat}{t:List El}{a b:El}(ha:a.drop (2^h)=zE (2^h))(hb:b.drop (2^h)=zE (2^h)):aj (h+1) t a b=aj h t (a.take (2^h)) (b.take (2^h))++zE (2^h):=by
 rw[aj,ha,hb,Go.Tw.bK,Go.Tw.bK,Go.Tw.iR ae,Go.Tw.fY,Go.Tw.bK,Go.Tw.iR au]
theorem JN {h:Nat}{t:List El}{a b:El}(ha:a.drop (2^h)=zE (2^h)):aj (h+1) t a b=aj h t (a.take (2^h)) (b.take (2^h))++aj h t (a.take (2^h)) (b.drop (2^h)):=by
 rw[aj,ha,Go.Tw.bK,Go.Tw.bK,Go.Tw.iR ae,Go.Tw.bK,Go.Tw.iR ae]
theorem JX {h:Nat}{t:List El}{a b:El}(hb:b.drop (2^h)=zE (2^h)):aj (h+1) t a b=aj h t (a.take (2^h)) (b.take (2^h))++aj h t (a.drop (2^h)) (b.take (2^h)):=by
 rw[aj,hb,Go.Tw.fY,Go.Tw.bK,Go.Tw.iR ae,Go.Tw.fY,JS ae]
theorem MR {a b:El}{t:List El}(ha:a.length=2^0)(hb:b.length=2^0)(qa:Qk a)(qb:Qk b):
  Fr Tryz.prog 47 [tV 0 t,eV a,eV b] (.rows 57 4 (aj 0 t a b).length (fQ (aj 0 t a b))):=by
 have hxq:=qa.get 0;have hyq:=qb.get 0;have em:aj 0 t a b=[a.getD 0 default*b.getD 0 default]:=rfl;obtain⟨x,hx⟩:∃x,x=a.getD 0 default:=⟨_,rfl⟩;obtain⟨y,hy⟩:∃y,y=b.getD 0 default:=⟨_,rfl⟩;rw[←hx,←hy]at em;rw[←hx]at hxq;rw[←hy]at hyq;refine fw Tryz.func47 ⟨[0,1,2,6,7,8,9,10,11,12,15,57,63,74],[(4,.nil)]⟩ ?_;simp only[Tryz.f47,Tryz.ntmps47,iz,seval];simp only[vx,T,seval,tV,tC,eV,ag,←hx,←hy,qC];refine⟨by omega,by omega,Cg (Cf x y hxq hyq) ?_⟩;simp only[vx,T,seval,QV,QC];rw[em];refine⟨rfl,rfl,rfl,fun i j hi hj=>?_⟩;obtain rfl:i=0:=by omega
 show List.getD _ (0*4+j) _=_;rw[Nat.zero_mul,Nat.zero_add];exact dx (x*y) rfl j
def bf (a:El)(n:Nat):C:=.rows 4 n (fun i=>qC (a.getD i default))
def ba (a:El)(n:Nat):C:=.rows 4 (a.length-n) (fun i=>qC (a.getD (n+i) default))
theorem Mr {t:List El}{C:Nat}(hC:1≤C){h:Nat}(ih:∀{a b:El} {A B:Nat},1≤A→1≤B→a.length=2^h→b.length=2^h→QB A a→QB B b→mS h (A+B) C<2^34→
  Fr Tryz.prog 47 [tV h t,eV a,eV b] (.rows 57 4 (aj h t a b).length (fQ (aj h t a b)))) {a b:El} {A B:Nat} (tk:Tk (h+1) t) (ht:∀i,i<h+1→QB C (t.getD i []))
  (h1:1≤A) (h2:1≤B) (ha:a.length=2^(h+1)) (hb:b.length=2^(h+1)) (qa:QB A a) (qb:QB B b) (hs:mS (h+1) (A+B) C<2^34):
  Fr Tryz.prog 47 [tV (h+1) t,eV a,eV b] (.rows 57 4 (aj (h+1) t a b).length (fQ (aj (h+1) t a b))):=by
 have hh:=tk.le8;have hp:2^h≤2^8:=Nat.pow_le_pow_right (by decide) (by omega);have h30:2^h<2^30:=Nat.lt_of_le_of_lt hp (by decide);have h38:2^h<2^38:=Nat.lt_of_le_of_lt hp (by decide);have hge:=Go.Tw.il (h:=h) (S:=A+B) (C:=C);have hge2:=Go.Tw.il (h:=h) (S:=mS h (A+B) C+C) (C:=C);rw[mS]at hs;have la1:=ai ha;have la2:=ah ha;have lb1:=ai hb;have lb2:=ah hb;have ht':∀i,i<h→QB C (t.getD i []):=fun i hi=>ht i (by omega);have m1:=ih h1 h2 la1 lb1 (qa.take _) (qb.take _) (by omega);have m2:=ih h1 h2 la2 lb2 (qa.drop _) (qb.drop _) (by omega);have m3:=ih h1 h2 la1 lb2 (qa.take _) (qb.drop _) (by omega);have m4:=ih h1 h2 la2 lb1 (qa.drop _) (qb.take _) (by omega);have g1:=QB.mul hC ht' h1 h2 (qa.take (2^h)) (qb.take (2^h));have g2:=QB.mul hC ht' h1 h2 (qa.drop (2^h)) (qb.drop (2^h));have g3:=QB.mul hC ht' h1 h2 (qa.take (2^h)) (qb.drop (2^h));have g4:=QB.mul hC ht' h1 h2 (qa.drop (2^h)) (qb.take (2^h));have m5:=ih (by omega) hC ae (tk.len h (by omega)) g2 (ht h (by omega)) (by omega);have g5:=QB.mul hC ht' (by omega) hC g2 (ht h (by omega));have a1:=tW (h:=h) (t:=t) _ _ (by rw[ae];exact h30) (by rw[ae,ae]) (Qk.of g1 (by omega)) (Qk.of g5 (by omega));have a2:=tW (h:=h) (t:=t) _ _ (by rw[ae];exact h30) (by rw[ae,ae]) (Qk.of g3 (by omega)) (Qk.of g4 (by omega));have za:=jA (a.drop (2^h)) (by rw[la2];exact h38);have zb:=jA (b.drop (2^h)) (by rw[lb2];exact h38);have o0:=aS 0 (by decide) (by decide);have fz:=(dL (h:=h) (t:=t) (by omega) (Rat.ofInt 0)).rows;have ez:aX h (Rat.ofInt 0)=zE (2^h):=by
  have:=Nat.two_pow_pos h
  show(0:Rat)::List.replicate (2^h-1) 0=List.replicate (2^h) 0
  rw[←List.replicate_succ];congr 1;omega
 rw[ez]at fz;have hna:(2^h:Nat)≤a.length:=by rw[ha,Nat.pow_succ];omega
 have hnb:(2^h:Nat)≤b.length:=by rw[hb,Nat.pow_succ];omega
 have cTa:=ff hna;have cDa:=eK (a:=a) (n:=2^h);have cTb:=ff hnb;have cDb:=eK (a:=b) (n:=2^h);have m1:=dY (xs:=[tV h t,.one (bf a (2^h)),.one (bf b (2^h))]) m1 ⟨.refl _,.cell cTa,.cell cTb,trivial⟩;have m2:=(dY (xs:=[tV h t,.one (ba a (2^h)),.one (ba b (2^h))]) m2 ⟨.refl _,.cell cDa,.cell cDb,trivial⟩).rows;have m3:=(dY (xs:=[tV h t,.one (bf a (2^h)),.one (ba b (2^h))]) m3 ⟨.refl _,.cell cTa,.cell cDb,trivial⟩).rows;have m4:=(dY (xs:=[tV h t,.one (ba a (2^h)),.one (bf b (2^h))]) m4 ⟨.refl _,.cell cDa,.cell cTb,trivial⟩).rows;have m5:=m5.rows;have a2:=a2.rows;have za:=za.args (xs:=[.one (ba a (2^h))]) ⟨.cell cDa,trivial⟩;have zb:=zb.args (xs:=[.one (ba b (2^h))]) ⟨.cell cDb,trivial⟩;have em:=fun(x:a.drop (2^h)=zE (2^h)) (y:b.drop (2^h)=zE (2^h))=>Kd (t:=t) x y;have en:=fun(x:a.drop (2^h)=zE (2^h))=>JN (t:=t) (b:=b) x;have eo:=fun(y:b.drop (2^h)=zE (2^h))=>JX (t:=t) (a:=a) y;have ep:aj (h+1) t a b=aC (aj h t (a.take (2^h)) (b.take (2^h))) (aj h t (aj h t (a.drop (2^h)) (b.drop (2^h))) (t.getD h []))++aC (aj h t (a.take (2^h)) (b.drop (2^h))) (aj h t (a.drop (2^h)) (b.take (2^h))):=rfl;have l1:(aj h t (a.take (2^h)) (b.take (2^h))).length=2^h:=ae;have l2:(aj h t (a.drop (2^h)) (b.drop (2^h))).length=2^h:=ae;have l3:(aj h t (a.take (2^h)) (b.drop (2^h))).length=2^h:=ae;have l4:(aj h t (a.drop (2^h)) (b.take (2^h))).length=2^h:=ae;have l5:(aj h t (aj h t (a.drop (2^h)) (b.drop (2^h))) (t.getD h [])).length=2^h:=ae;have lz:(zE (2^h)).length=2^h:=au;rw[la2]at za;rw[lb2]at zb;clear g1 g2 g3 g4 g5 ih cTa cDa cTb cDb;obtain⟨p,hP⟩:∃p,p=aj (h+1) t a b:=⟨_,rfl⟩;rw[←hP]at em en eo ep⊢;obtain⟨za',hza⟩:∃z,z=decide (a.drop (2^h)=zE (2^h)):=⟨_,rfl⟩;obtain⟨zb',hzb⟩:∃z,z=decide (b.drop (2^h)=zE (2^h)):=⟨_,rfl⟩;rw[←hza]at za;rw[←hzb]at zb;have em:za'=true→zb'=true→p=aj h t (a.take (2^h)) (b.take (2^h))++zE (2^h):=fun x y=>em (of_decide_eq_true (hza▸x)) (of_decide_eq_true (hzb▸y));have en:za'=true→p=aj h t (a.take (2^h)) (b.take (2^h))++aj h t (a.take (2^h)) (b.drop (2^h)):=fun x=>en (of_decide_eq_true (hza▸x));have eo:zb'=true→p=aj h t (a.take (2^h)) (b.take (2^h))++aj h t (a.drop (2^h)) (b.take (2^h)):=fun y=>eo (of_decide_eq_true (hzb▸y));clear hza hzb hP;obtain⟨p1,hp1⟩:∃p,p=aj h t (a.take (2^h)) (b.take (2^h)):=⟨_,rfl⟩;obtain⟨p2,hp2⟩:∃p,p=aj h t (a.drop (2^h)) (b.drop (2^h)):=⟨_,rfl⟩;obtain⟨p3,hp3⟩:∃p,p=aj h t (a.take (2^h)) (b.drop (2^h)):=⟨_,rfl⟩;obtain⟨p4,hp4⟩:∃p,p=aj h t (a.drop (2^h)) (b.take (2^h)):=⟨_,rfl⟩;obtain⟨r,hr⟩:∃r,r=t.getD h []:=⟨_,rfl⟩;rw[←hp2,←hr]at m5 l5;rw[←hp2,←hr,←hp1]at a1;rw[←hp2,←hr,←hp1,←hp3,←hp4]at ep;rw[←hp1]at m1 em en eo l1;rw[←hp2]at m2 l2;rw[←hp3]at m3 en l3;rw[←hp4]at m4 eo l4;rw[←hp3,←hp4]at a2;obtain⟨p5,hp5⟩:∃p,p=aj h t p2 r:=⟨_,rfl⟩;rw[←hp5]at m5 a1 ep l5;obtain⟨s1,hs1⟩:∃p,p=aC p1 p5:=⟨_,rfl⟩;obtain⟨s2,hs2⟩:∃p,p=aC p3 p4:=⟨_,rfl⟩;have ls1:s1.length=2^h:=by rw[hs1];exact aq l1 l5
 have ls2:s2.length=2^h:=by rw[hs2];exact aq l3 l4
 rw[←hs1]at a1 ep;rw[←hs2]at a2 ep;obtain⟨n,hnn⟩:∃n,n=2^h:=⟨_,rfl⟩;obtain⟨zn,hzn⟩:∃zn,zn=zE (2^h):=⟨_,rfl⟩;rw[←hzn]at fz em lz;have ha2:a.length=2*n:=by rw[ha,Nat.pow_succ,hnn];omega
 have hb2:b.length=2*n:=by rw[hb,Nat.pow_succ,hnn];omega
 rw[←hnn]at hp za zb m1 m2 m3 m4 l1 l2 l3 l4 l5 ls1 ls2 lz;clear h30 h38 hs hge hge2 la1 la2 lb1 lb2 hna hnb hp1 hp2 hp3 hp4 hp5 hs1 hs2 ez hzn ht ht' hC h1 h2 ha hb qa qb hnn tk;have w1:IntKind.i64.wrap (((h+1:Nat):Int)-1)=(h:Int):=by rw[IntWalk.i64_in _ (by omega)];omega
 have w2:IntKind.i64.wrap (((a.length:Nat):Int).tdiv 2)=(n:Int):=by
  rw[ha2,Int.tdiv_eq_ediv_of_nonneg (by omega),IntWalk.i64_in _ (by omega)];omega
 have w4:((a.length:Int)-(n:Int)).toNat=a.length-n:=by omega
 have w5:((b.length:Int)-(n:Int)).toNat=b.length-n:=by omega
 refine fw Tryz.func47 ⟨[0,1,2,6,7,8,9,10,11,12,15,57,63,74],[(4,.nil)]⟩ ?_;simp only[Tryz.f47,Tryz.ntmps47,iz,seval];simp only[vx,T,seval,tV,tC,eV,ag,bf,ba,QV,QC,w1,w2,w4,w5,←hr];refine⟨fun h=>absurd h (by omega),fun _=>Lg ?_⟩;simp only[vx,T,seval,tV,tC,eV,ag,bf,ba,QV,QC,w1,w2,w4,w5,←hr];refine⟨⟨by omega,by omega⟩,⟨by omega,by omega⟩,⟨by omega,by omega,by omega⟩,Cg za ?_⟩;simp only[vx,T,seval,tV,tC,eV,ag,bf,ba,QV,QC,w1,w2,w4,w5,←hr];refine⟨⟨by omega,by omega,by omega⟩,Cg zb ?_⟩;simp only[vx,T,seval,tV,tC,eV,ag,bf,ba,QV,QC,w1,w2,w4,w5,←hr];refine⟨⟨by omega,by omega⟩,⟨by omega,by omega⟩,cY.fresh m1 ?_⟩
 cases za' with
 |true=>
  cases zb' with
  |true=>
   rw[em rfl rfl];simp only[vx,T,seval,tV,tC,eV,ag,bf,ba,QV,QC,w1,w2,w4,w5,←hr];refine Cg o0 ?_;simp only[vx,T,seval,tV,tC,eV,ag,bf,ba,QV,QC,w1,w2,w4,w5,←hr];refine Cg fz ?_;simp only[vx,T,seval,tV,tC,eV,ag,bf,ba,QV,QC,w1,w2,w4,w5,←hr];exact⟨⟨by omega,by omega⟩,List.length_append.symm,rfl,List.length_append.symm,fun i j _ _=>kS p1 zn i j⟩
  |false=>
   rw[en rfl];simp only[vx,T,seval,tV,tC,eV,ag,bf,ba,QV,QC,w1,w2,w4,w5,←hr];refine⟨⟨by omega,by omega⟩,⟨by omega,by omega,by omega⟩,Cg m3 ?_⟩;simp only[vx,T,seval,tV,tC,eV,ag,bf,ba,QV,QC,w1,w2,w4,w5,←hr];exact⟨⟨by omega,by omega⟩,List.length_append.symm,rfl,List.length_append.symm,fun i j _ _=>kS p1 p3 i j⟩
 |false=>
  cases zb' with
  |true=>
   rw[eo rfl];simp only[vx,T,seval,tV,tC,eV,ag,bf,ba,QV,QC,w1,w2,w4,w5,←hr];refine⟨⟨by omega,by omega,by omega⟩,⟨by omega,by omega⟩,Cg m4 ?_⟩;simp only[vx,T,seval,tV,tC,eV,ag,bf,ba,QV,QC,w1,w2,w4,w5,←hr];exact⟨⟨by omega,by omega⟩,List.length_append.symm,rfl,List.length_append.symm,fun i j _ _=>kS p1 p4 i j⟩
  |false=>
   rw[ep];simp only[vx,T,seval,tV,tC,eV,ag,bf,ba,QV,QC,w1,w2,w4,w5,←hr];refine⟨⟨by omega,by omega,by omega⟩,⟨by omega,by omega,by omega⟩,Cg m2 ?_⟩;simp only[vx,T,seval,tV,tC,eV,ag,bf,ba,QV,QC,w1,w2,w4,w5,←hr];refine Cg m5 ?_;simp only[vx,T,seval,tV,tC,eV,ag,bf,ba,QV,QC,w1,w2,w4,w5,←hr];refine cY.fresh a1 ?_;simp only[vx,T,seval,tV,tC,eV,ag,bf,ba,QV,QC,w1,w2,w4,w5,←hr];refine⟨⟨by omega,by omega⟩,⟨by omega,by omega,by omega⟩,Cg m3 ?_⟩;simp only[vx,T,seval,tV,tC,eV,ag,bf,ba,QV,QC,w1,w2,w4,w5,←hr];refine⟨⟨by omega,by omega,by omega⟩,⟨by omega,by omega⟩,Cg m4 ?_⟩;simp only[vx,T,seval,tV,tC,eV,ag,bf,ba,QV,QC,w1,w2,w4,w5,←hr];refine Cg a2 ?_;simp only[vx,T,seval,tV,tC,eV,ag,bf,ba,QV,QC,w1,w2,w4,w5,←hr];exact⟨⟨by omega,by omega⟩,List.length_append.symm,rfl,List.length_append.symm,fun i j _ _=>kS s1 s2 i j⟩
theorem fM {t:List El}{C:Nat}(hC:1≤C):∀{h:Nat} {a b:El} {A B:Nat},Tk h t→(∀i,i<h→QB C (t.getD i []))→1≤A→1≤B→a.length=2^h→b.length=2^h→QB A a→QB B b→mS h (A+B) C<2^34→
  Fr Tryz.prog 47 [tV h t,eV a,eV b] (.rows 57 4 (aj h t a b).length (fQ (aj h t a b)))
 |0,a,b,A,B,_,_,_,_,ha,hb,qa,qb,hs=>by
  have hs:A+B<2^34:=hs;exact MR ha hb (.of qa (by omega)) (.of qb (by omega))
 |h+1,a,b,A,B,tk,ht,h1,h2,ha,hb,qa,qb,hs=>
  Mr hC (fun g1 g2 la lb ga gb gs=>fM hC (tk.le (Nat.le_succ h)) (fun i hi=>ht i (by omega)) g1 g2 la lb ga gb gs) tk ht h1 h2 ha hb qa qb hs
open Go Go.Eng
open Go.Tw (El aC aG zE aj au ar aq ae QB mS ai ah aL aF tB aX aD cg lU val Rd)
theorem Be {h X:Nat}{t:List El}(W:TQ (h+1) t)(a:El)(ha:a.length=2^(h+1))(hX1:1≤X)(hX:X≤2^26)(hq:QB X a):Pr Tryz.prog 100 [tV (h+1) t,eV a] (eV (aL h t a)):=by
 have W':=W.le (Nat.le_succ h);have h3:=W.h3;have la1:=ai ha;have la2:=ah ha;have hp:2^h≤8:=Nat.pow_le_pow_right (n:=2) (by decide) (show h≤3 by omega);have hr:=W.tk.len h (by omega);have hrq:=W.q h (by omega);have ht:=W'.q;have b1:=j5 (h:=h) (S:=X+X) (by omega);have b2:=j5 (h:=h) (S:=mS h (X+X) tB+tB) (by omega);have btB:tB=32769:=rfl;have m1:=fM fT W'.tk ht hX1 hX1 la1 la1 (hq.take _) (hq.take _) (by omega);have m2:=fM fT W'.tk ht hX1 hX1 la2 la2 (hq.drop _) (hq.drop _) (by omega);have g1:=QB.mul fT ht hX1 hX1 (hq.take (2^h)) (hq.take (2^h));have g2:=QB.mul fT ht hX1 hX1 (hq.drop (2^h)) (hq.drop (2^h));have hge:=Go.Tw.il (h:=h) (S:=X+X) (C:=tB);have m3:=(fM fT W'.tk ht (by omega) fT ae hr g2 hrq (by omega)).rows;have g3:=QB.mul fT ht (by omega) fT g2 hrq;have sb:=(Hx (h:=h) (t:=t) _ _ (by rw[ae];omega) (by rw[ae,ae]) (Qk.of g1 (by omega)) (Qk.of g3 (by omega))).rows;have hn:(2^h:Nat)≤a.length:=by rw[ha,Nat.pow_succ];omega
 have cT:=ff hn;have cD:=eK (a:=a) (n:=2^h);have m1:=(dY (xs:=[tV h t,.one (bf a (2^h)),.one (bf a (2^h))]) m1 ⟨.refl _,.cell cT,.cell cT,trivial⟩).rows;have m2:=(dY (xs:=[tV h t,.one (ba a (2^h)),.one (ba a (2^h))]) m2 ⟨.refl _,.cell cD,.cell cD,trivial⟩).rows;have em:aL h t a=aC (aj h t (a.take (2^h)) (a.take (2^h))) (aG (aj h t (aj h t (a.drop (2^h)) (a.drop (2^h))) (t.getD h []))):=rfl;rw[←em]at sb;clear em;obtain⟨e,he⟩:∃e,e=aL h t a:=⟨_,rfl⟩;rw[←he]at sb⊢;obtain⟨n,hnn⟩:∃n,n=2^h:=⟨_,rfl⟩;obtain⟨p1,hp1⟩:∃p,p=aj h t (a.take (2^h)) (a.take (2^h)):=⟨_,rfl⟩;obtain⟨p2,hp2⟩:∃p,p=aj h t (a.drop (2^h)) (a.drop (2^h)):=⟨_,rfl⟩;obtain⟨r,hrr⟩:∃r,r=t.getD h []:=⟨_,rfl⟩;rw[←hp1]at m1 sb;rw[←hp2]at m2 m3 sb;rw[←hrr]at m3 sb;obtain⟨p3,hp3⟩:∃p,p=aj h t p2 r:=⟨_,rfl⟩;rw[←hp3]at m3 sb;have ha2:a.length=2*n:=by rw[ha,Nat.pow_succ,hnn];omega
 have w1:IntKind.i64.wrap (((h+1:Nat):Int)-1)=(h:Int):=by rw[IntWalk.i64_in _ (by omega)];omega
 have w2:IntKind.i64.wrap (((a.length:Nat):Int).tdiv 2)=(n:Int):=by
  rw[ha2,Int.tdiv_eq_ediv_of_nonneg (by omega),IntWalk.i64_in _ (by omega)];omega
 have w4:((a.length:Int)-(n:Int)).toNat=a.length-n:=by omega
 rw[←hnn]at m1 m2;refine pw Tryz.func100 ⟨[0,1,4,5,6,7],[(2,.nil)]⟩ ?_;simp only[Tryz.f100,Tryz.ntmps100,iz,seval];simp only[vx,T,seval,tV,tC,eV,ag,bf,ba,QV,QC,w1,w2,w4,←hrr];refine⟨⟨by omega,by omega⟩,⟨by omega,by omega⟩,⟨by omega,by omega⟩,⟨by omega,by omega⟩,Cg m1 ?_⟩;simp only[vx,T,seval,tV,tC,eV,ag,bf,ba,QV,QC,w1,w2,w4,←hrr];refine⟨⟨by omega,by omega,by omega⟩,⟨by omega,by omega,by omega⟩,Cg m2 ?_⟩;simp only[vx,T,seval,tV,tC,eV,ag,bf,ba,QV,QC,w1,w2,w4,←hrr];refine Cg m3 ?_;simp only[vx,T,seval,tV,tC,eV,ag,bf,ba,QV,QC,w1,w2,w4,←hrr];refine Cg sb ?_;simp only[vx,T,seval,tV,tC,eV,ag,bf,ba,QV,QC,w1,w2,w4,←hrr];exact Ve rfl
theorem Gq {h:Nat}{t:List El}:∀{a b:El},a.length=2^h→aj h t (aG a) b=aG (aj h t a b):=by
 have nadd:∀(x y:El),aG (aC x y)=aC (aG x) (aG y):=by
  intro x
  induction x with
  |nil=>intro y;rfl
  |cons u x ih=>
   intro y
   cases y with
   |nil=>rfl
   |cons v y=>
    show-(u+v)::aG (aC x y)=(-u+ -v)::aC (aG x) (aG y)
    rw[ih,Rat.neg_add]
 induction h with
 |zero=>
  intro a b ha;obtain⟨x,rfl⟩:=Go.Tw.bD ha
  show[-x*_]=[-(x*_)]
  rw[Rat.neg_mul]
 |succ h ih=>
  intro a b ha;have e1:(aG a).take (2^h)=aG (a.take (2^h)):=List.map_take.symm;have e2:(aG a).drop (2^h)=aG (a.drop (2^h)):=List.map_drop.symm;have e3:∀x y:El,aG (x++y)=aG x++aG y:=fun x y=>List.map_append;rw[Go.Tw.aj,Go.Tw.aj,e1,e2,ih (ai ha),ih (ah ha),ih (ai ha),ih (ah ha),ih ae,e3,nadd,nadd]
def Lf (h:Nat)(t:List El)(a:El)(f:FuncId):Prop:=
 (∀n,cg h t a=some n→fJ Tryz.prog f [tV h t,eV a] (.rows 57 4 n.length (fQ n)) (.int .i64 0))∧
 (cg h t a=none→Pr Tryz.prog f [tV h t,eV a] (.aJ [.one .nil,.one (.int .i64 6)]))
theorem MW {X:Nat}{t:List El}(hX:X≤2^26){a:El}(ha:a.length=2^0)(hq:QB X a):Lf 0 t a 49:=by
 obtain⟨x,rfl⟩:=Go.Tw.bD ha;have hx:qm x≤X:=hq x (by simp);have e:cg 0 t [x]=if x=0 then none else some [x⁻¹]:=rfl
 have hz:=@Bu x;unfold Lf;rw[e]
 by_cases h0:x=0
 ·rw[if_pos h0];have hl:(zm x.num).length=0:=by rw[aN];exact dS.2 (by rw[h0];rfl)
  refine⟨fun n h=>(by cases h),fun _=>?_⟩;refine pw Tryz.func49 ⟨[0,1,4,5,6,7,8,9,10,11,14,21,38,48,64],[]⟩ ?_;simp only[Tryz.f49,Tryz.ntmps49,iz,seval];simp only[vx,T,seval,tV,tC,eV,ag,qC,X0,hl];exact Ve rfl
 rw[if_neg h0];have hl:¬((zm x.num).length:Int)=0:=by have:=hz.2 h0;omega
 refine⟨fun n h=>?_,fun h=>(by cases h)⟩;obtain rfl:=Option.some.inj h;have d:=Bq x (by omega) h0;refine tw Tryz.func49 ⟨[0,1,4,5,6,7,8,9,10,11,14,21,38,48,64],[]⟩ ?_;simp only[Tryz.f49,Tryz.ntmps49,iz,seval];simp only[vx,T,seval,tV,tC,eV,ag,qC,X0];refine⟨fun h=>absurd h hl,fun _=>Lg ?_⟩;simp only[vx,T,seval,tV,tC,eV,ag,qC,X0];refine Cg d ?_;simp only[vx,T,seval,QV,QC];refine⟨rfl,rfl,fun i j hi hj=>?_⟩;obtain rfl:i=0:=by omega
 show List.getD _ (0*4+j) _=_;rw[Nat.zero_mul,Nat.zero_add];exact dx x⁻¹ rfl j
theorem Ny {X h:Nat}{t:List El}{a n:El}(hX:X≤2^26)(W:TQ (h+1) t)(ha:a.length=2^(h+1))(hv:a.drop (2^h)=zE (2^h))(ln:n.length=2^h)
  (c:fJ Tryz.prog 49 [tV h t,eV (a.take (2^h))] (.rows 57 4 n.length (fQ n)) (.int .i64 0)):
  fJ Tryz.prog 49 [tV (h+1) t,eV a] (.rows 57 4 (n++zE (2^h)).length (fQ (n++zE (2^h)))) (.int .i64 0):=by
 have h3:=W.h3;have hp:2^h≤8:=Nat.pow_le_pow_right (n:=2) (by decide) (show h≤3 by omega);have lz:(zE (2^h)).length=2^h:=au;have hna:(2^h:Nat)≤a.length:=by rw[ha,Nat.pow_succ];omega
 have cT:=ff hna;have cD:=eK (a:=a) (n:=2^h);have z:=jA (a.drop (2^h)) (by rw[ah ha];omega);rw[decide_eq_true (by rw[ah ha];exact hv)]at z;have z:=z.args (xs:=[.one (ba a (2^h))]) ⟨.cell cD,trivial⟩;have c:=c.args (xs:=[tV h t,.one (bf a (2^h))]) ⟨.refl _,.cell cT,trivial⟩;have o0:=aS 0 (by decide) (by decide);have fz:=(dL (h:=h) (t:=t) (by omega) (Rat.ofInt 0)).rows;have ez:aX h (Rat.ofInt 0)=zE (2^h):=by
  have:=Nat.two_pow_pos h
  show(0:Rat)::List.replicate (2^h-1) 0=List.replicate (2^h) 0
  rw[←List.replicate_succ];congr 1;omega
 rw[ez]at fz;obtain⟨zn,hzn⟩:∃zn,zn=zE (2^h):=⟨_,rfl⟩;rw[←hzn]at fz lz⊢;obtain⟨n',hnn⟩:∃n,n=2^h:=⟨_,rfl⟩;have ha2:a.length=2*n':=by rw[ha,Nat.pow_succ,hnn];omega
 have w1:IntKind.i64.wrap (((h+1:Nat):Int)-1)=(h:Int):=by rw[IntWalk.i64_in _ (by omega)];omega
 have hp8:n'≤8:=by omega
 have w2:IntKind.i64.wrap (((a.length:Nat):Int).tdiv 2)=(n':Int):=by
  rw[ha2,Int.tdiv_eq_ediv_of_nonneg (by omega),IntWalk.i64_in _ (by omega)];omega
 have w4:((a.length:Int)-(n':Int)).toNat=a.length-n':=by omega
 rw[←hnn]at z c hp ln lz;clear hv hzn ez cT cD hna ha;refine tw Tryz.func49 ⟨[0,1,4,5,6,7,8,9,10,11,14,21,38,48,64],[]⟩ ?_;simp only[Tryz.f49,Tryz.ntmps49,iz,seval];simp only[vx,T,seval,tV,tC,eV,ag,bf,ba,QV,QC,w1,w2,w4];refine⟨fun h=>absurd h (by omega),fun _=>Lg ?_⟩;simp only[vx,T,seval,tV,tC,eV,ag,bf,ba,QV,QC,w1,w2,w4];refine⟨⟨by omega,by omega⟩,⟨by omega,by omega,by omega⟩,Cg z ?_⟩;simp only[vx,T,seval,tV,tC,eV,ag,bf,ba,QV,QC,w1,w2,w4];refine⟨⟨by omega,by omega⟩,cY.Gv c ?_⟩;simp only[vx,T,seval,tV,tC,eV,ag,bf,ba,QV,QC,w1,w2,w4];refine Cg o0 ?_;simp only[vx,T,seval,tV,tC,eV,ag,bf,ba,QV,QC,w1,w2,w4];refine Cg fz ?_;simp only[vx,T,seval,tV,tC,eV,ag,bf,ba,QV,QC,w1,w2,w4];exact⟨⟨by omega,by omega⟩,List.length_append.symm,rfl,List.length_append.symm,fun i j _ _=>kS n zn i j⟩
theorem Jt {X h:Nat}{t:List El}{a:El}(hX:X≤2^26)(W:TQ (h+1) t)(ha:a.length=2^(h+1))(hv:a.drop (2^h)=zE (2^h))
  (c:Pr Tryz.prog 49 [tV h t,eV (a.take (2^h))] (.aJ [.one .nil,.one (.int .i64 6)])):
  Pr Tryz.prog 49 [tV (h+1) t,eV a] (.aJ [.one .nil,.one (.int .i64 6)]):=by
 have h3:=W.h3;have hp:2^h≤8:=Nat.pow_le_pow_right (n:=2) (by decide) (show h≤3 by omega);have hna:(2^h:Nat)≤a.length:=by rw[ha,Nat.pow_succ];omega
 have cT:=ff hna;have cD:=eK (a:=a) (n:=2^h);have z:=jA (a.drop (2^h)) (by rw[ah ha];omega);rw[decide_eq_true (by rw[ah ha];exact hv)]at z;have z:=z.args (xs:=[.one (ba a (2^h))]) ⟨.cell cD,trivial⟩;have c:=c.args (xs:=[tV h t,.one (bf a (2^h))]) ⟨.refl _,.cell cT,trivial⟩;obtain⟨n',hnn⟩:∃n,n=2^h:=⟨_,rfl⟩;have ha2:a.length=2*n':=by rw[ha,Nat.pow_succ,hnn];omega
 have w1:IntKind.i64.wrap (((h+1:Nat):Int)-1)=(h:Int):=by rw[IntWalk.i64_in _ (by omega)];omega
 have hp8:n'≤8:=by omega
 have w2:IntKind.i64.wrap (((a.length:Nat):Int).tdiv 2)=(n':Int):=by
  rw[ha2,Int.tdiv_eq_ediv_of_nonneg (by omega),IntWalk.i64_in _ (by omega)];omega
 have w4:((a.length:Int)-(n':Int)).toNat=a.length-n':=by omega
 rw[←hnn]at z c hp;clear hv cT cD hna ha;refine pw Tryz.func49 ⟨[0,1,4,5,6,7,8,9,10,11,14,21,38,48,64],[]⟩ ?_;simp only[Tryz.f49,Tryz.ntmps49,iz,seval];simp only[vx,T,seval,tV,tC,eV,ag,bf,ba,QV,QC,w1,w2,w4];refine⟨fun h=>absurd h (by omega),fun _=>Lg ?_⟩;simp only[vx,T,seval,tV,tC,eV,ag,bf,ba,QV,QC,w1,w2,w4];refine⟨⟨by omega,by omega⟩,⟨by omega,by omega,by omega⟩,Cg z ?_⟩;simp only[vx,T,seval,tV,tC,eV,ag,bf,ba,QV,QC,w1,w2,w4];refine⟨⟨by omega,by omega⟩,Cg c ?_⟩;simp only[vx,T,seval,tV,tC,eV,ag,bf,ba,QV,QC,w1,w2,w4];exact Ve rfl
theorem Mn {X h:Nat}{t:List El}{a n:El}(hX1:1≤X)(hX:X≤2^26)(W:TQ (h+1) t)(ha:a.length=2^(h+1))(hq:QB X a)(qn:QB X n)(hv:a.drop (2^h)≠zE (2^h))(ln:n.length=2^h)
  (c:fJ Tryz.prog 49 [tV h t,eV (aL h t a)] (.rows 57 4 n.length (fQ n)) (.int .i64 0)):
  fJ Tryz.prog 49 [tV (h+1) t,eV a] (.rows 57 4 (aj h t (a.take (2^h)) n++aG (aj h t (a.drop (2^h)) n)).length (fQ (aj h t (a.take (2^h)) n++aG (aj h t (a.drop (2^h)) n)))) (.int .i64 0):=by
 have h3:=W.h3;have W':=W.le (Nat.le_succ h);have hp:2^h≤8:=Nat.pow_le_pow_right (n:=2) (by decide) (show h≤3 by omega);have hna:(2^h:Nat)≤a.length:=by rw[ha,Nat.pow_succ];omega
 have cT:=ff hna;have cD:=eK (a:=a) (n:=2^h);have z:=jA (a.drop (2^h)) (by rw[ah ha];omega);rw[decide_eq_false (by rw[ah ha];exact hv)]at z;have z:=z.args (xs:=[.one (ba a (2^h))]) ⟨.cell cD,trivial⟩;have cn:=Be W a ha hX1 hX hq;have b1:=kX (h:=h) (S:=X+X) (by omega) (by omega);have m1:=dY (xs:=[tV h t,.one (bf a (2^h)),eV n]) (fM fT W'.tk W'.q hX1 hX1 (ai ha) ln (hq.take _) qn b1) ⟨.refl _,.cell cT,.refl _,trivial⟩;have ng:=(dY (xs:=[tV h t,.one (ba a (2^h))]) (zx (h:=h) (t:=t) (a.drop (2^h)) (by rw[ah ha];omega) (.of (hq.drop _) (by omega))) ⟨.refl _,.cell cD,trivial⟩).rows;have lneg:(aG (a.drop (2^h))).length=2^h:=by rw[ar,ah ha]
 have m2:=(fM fT W'.tk W'.q hX1 hX1 lneg ln (hq.drop _).neg qn b1).rows;rw[Gq (ah ha)]at m2;have l1:(aj h t (a.take (2^h)) n).length=2^h:=ae;have l2:(aG (aj h t (a.drop (2^h)) n)).length=2^h:=by rw[ar,ae]
 obtain⟨e,he⟩:∃e,e=aL h t a:=⟨_,rfl⟩;obtain⟨s1,hs1⟩:∃s,s=aj h t (a.take (2^h)) n:=⟨_,rfl⟩;obtain⟨s2,hs2⟩:∃s,s=aG (aj h t (a.drop (2^h)) n):=⟨_,rfl⟩;obtain⟨y,hy⟩:∃y,y=aG (a.drop (2^h)):=⟨_,rfl⟩;rw[←he]at c cn;rw[←hs1]at m1 l1⊢;rw[←hy]at ng m2 lneg;rw[←hs2]at m2 l2⊢;obtain⟨n',hnn⟩:∃n,n=2^h:=⟨_,rfl⟩;have ha2:a.length=2*n':=by rw[ha,Nat.pow_succ,hnn];omega
 have w1:IntKind.i64.wrap (((h+1:Nat):Int)-1)=(h:Int):=by rw[IntWalk.i64_in _ (by omega)];omega
 have hp8:n'≤8:=by omega
 have w2:IntKind.i64.wrap (((a.length:Nat):Int).tdiv 2)=(n':Int):=by
  rw[ha2,Int.tdiv_eq_ediv_of_nonneg (by omega),IntWalk.i64_in _ (by omega)];omega
 have w4:((a.length:Int)-(n':Int)).toNat=a.length-n':=by omega
 rw[←hnn]at z m1 ng hp ln l1 l2 lneg;clear hv cT cD hna ha he hs1 hs2 hy hq qn b1 W';refine tw Tryz.func49 ⟨[0,1,4,5,6,7,8,9,10,11,14,21,38,48,64],[]⟩ ?_;simp only[Tryz.f49,Tryz.ntmps49,iz,seval];simp only[vx,T,seval,tV,tC,eV,ag,bf,ba,QV,QC,w1,w2,w4];refine⟨fun h=>absurd h (by omega),fun _=>Lg ?_⟩;simp only[vx,T,seval,tV,tC,eV,ag,bf,ba,QV,QC,w1,w2,w4];refine⟨⟨by omega,by omega⟩,⟨by omega,by omega,by omega⟩,Cg z ?_⟩;simp only[vx,T,seval,tV,tC,eV,ag,bf,ba,QV,QC,w1,w2,w4];refine Cg cn ?_;simp only[vx,T,seval,tV,tC,eV,ag,bf,ba,QV,QC,w1,w2,w4];refine cY.Gv c ?_;simp only[vx,T,seval,tV,tC,eV,ag,bf,ba,QV,QC,w1,w2,w4];refine⟨⟨by omega,by omega⟩,cY.fresh m1 ?_⟩;simp only[vx,T,seval,tV,tC,eV,ag,bf,ba,QV,QC,w1,w2,w4];refine⟨⟨by omega,by omega,by omega⟩,Cg ng ?_⟩;simp only[vx,T,seval,tV,tC,eV,ag,bf,ba,QV,QC,w1,w2,w4];refine Cg m2 ?_;simp only[vx,T,seval,tV,tC,eV,ag,bf,ba,QV,QC,w1,w2,w4];exact⟨⟨by omega,by omega⟩,List.length_append.symm,rfl,List.length_append.symm,fun i j _ _=>kS s1 s2 i j⟩
theorem Lu {X h:Nat}{t:List El}{a:El}(hX1:1≤X)(hX:X≤2^26)(W:TQ (h+1) t)(ha:a.length=2^(h+1))(hq:QB X a)(hv:a.drop (2^h)≠zE (2^h))
  (c:Pr Tryz.prog 49 [tV h t,eV (aL h t a)] (.aJ [.one .nil,.one (.int .i64 6)])):
  Pr Tryz.prog 49 [tV (h+1) t,eV a] (.aJ [.one .nil,.one (.int .i64 6)]):=by
 have h3:=W.h3;have hp:2^h≤8:=Nat.pow_le_pow_right (n:=2) (by decide) (show h≤3 by omega);have hna:(2^h:Nat)≤a.length:=by rw[ha,Nat.pow_succ];omega
 have cT:=ff hna;have cD:=eK (a:=a) (n:=2^h);have z:=jA (a.drop (2^h)) (by rw[ah ha];omega);rw[decide_eq_false (by rw[ah ha];exact hv)]at z;have z:=z.args (xs:=[.one (ba a (2^h))]) ⟨.cell cD,trivial⟩;have cn:=Be W a ha hX1 hX hq;obtain⟨e,he⟩:∃e,e=aL h t a:=⟨_,rfl⟩;rw[←he]at c cn;obtain⟨n',hnn⟩:∃n,n=2^h:=⟨_,rfl⟩;have ha2:a.length=2*n':=by rw[ha,Nat.pow_succ,hnn];omega
 have w1:IntKind.i64.wrap (((h+1:Nat):Int)-1)=(h:Int):=by rw[IntWalk.i64_in _ (by omega)];omega
 have hp8:n'≤8:=by omega
 have w2:IntKind.i64.wrap (((a.length:Nat):Int).tdiv 2)=(n':Int):=by
  rw[ha2,Int.tdiv_eq_ediv_of_nonneg (by omega),IntWalk.i64_in _ (by omega)];omega
 have w4:((a.length:Int)-(n':Int)).toNat=a.length-n':=by omega
 rw[←hnn]at z hp;clear hv cT cD hna ha he hq;refine pw Tryz.func49 ⟨[0,1,4,5,6,7,8,9,10,11,14,21,38,48,64],[]⟩ ?_;simp only[Tryz.f49,Tryz.ntmps49,iz,seval];simp only[vx,T,seval,tV,tC,eV,ag,bf,ba,QV,QC,w1,w2,w4];refine⟨fun h=>absurd h (by omega),fun _=>Lg ?_⟩;simp only[vx,T,seval,tV,tC,eV,ag,bf,ba,QV,QC,w1,w2,w4];refine⟨⟨by omega,by omega⟩,⟨by omega,by omega,by omega⟩,Cg z ?_⟩;simp only[vx,T,seval,tV,tC,eV,ag,bf,ba,QV,QC,w1,w2,w4];refine Cg cn ?_;simp only[vx,T,seval,tV,tC,eV,ag,bf,ba,QV,QC,w1,w2,w4];refine Cg c ?_;simp only[vx,T,seval,tV,tC,eV,ag,bf,ba,QV,QC,w1,w2,w4];exact Ve rfl
theorem wO {X:Nat}(hX1:1≤X)(hX:X≤2^26){t:List El}:∀{h:Nat} {a:El},TQ h t→Rd h t→a.length=2^h→lU X h t a→Lf h t a 49
 |0,a,_,_,ha,hi=>MW hX ha hi
 |h+1,a,W,D,ha,hi=>by
  have W':=W.le (Nat.le_succ h);have D':=D.le (Nat.le_succ h);have hqa:=hi.qb;obtain⟨_,i2,i3,_,i5⟩:=hi;have ev:cg (h+1) t a=(cg h t (aL h t a)).map fun n=>aj h t (a.take (2^h)) n++aG (aj h t (a.drop (2^h)) n):=rfl
  by_cases hv:a.drop (2^h)=zE (2^h)
  ·have ih:=wO hX1 hX W' D' (ai ha) i2;have vl:=Go.Tw.sD (t:=t) hv;refine⟨fun n hn=>?_,fun hn=>?_⟩
   ·obtain⟨ln,en⟩:=Go.Tw.du D.rl ha hn;rw[vl]at en;have h0:val h t (a.take (2^h))≠R.q 0:=fun e=>by rw[e,R.zero_mul]at en;exact R.oI en.symm
    obtain⟨m,hm,lm,em⟩:=Go.Tw.js D' (ai ha) h0;have hn2:n=m++zE (2^h):=by
     refine Go.Tw.val_inj D ln (by rw[X6,lm,au,Nat.pow_succ];omega) ?_;rw[Go.Tw.lJ lm];refine R.uT (z:=val h t (a.take (2^h))) ?_ h0;rw[R.mul_comm,en,R.mul_comm,em]
    rw[hn2];exact Ny hX W ha hv lm (ih.1 m hm)
   have e0:=Go.Tw.rp D ha hn;rw[vl]at e0;refine Jt hX W ha hv (ih.2 ?_)
   cases hk:cg h t (a.take (2^h))with
   |none=>rfl
   |some m=>
    have:=(Go.Tw.du D'.rl (ai ha) hk).2
    rw[e0,R.zero_mul]at this;exact absurd this.symm R.oI
  have ih:=wO hX1 hX W' D' aF i3;unfold Lf;rw[ev]
  cases hn:cg h t (aL h t a)with
  |none=>exact⟨fun n h=>(by cases h),fun _=>Lu hX1 hX W ha hqa hv (ih.2 hn)⟩
  |some n=>
   refine⟨fun n' hh=>?_,fun hh=>(by cases hh)⟩;obtain rfl:=Option.some.inj hh;exact Mn hX1 hX W ha hqa (i5 n hn) hv (Go.Proofs.YtgalhjhdgkoemaaGreat.jr hn) (ih.1 n hn)
open Go Go.Eng
open Go.Tw (El aC aG zE aj au ar aq ae QB mS ai ah aL aF tB aX aD bn iH dA sI)
theorem Ja {t:List El}{a:El}(ha:a.length=2^0)(hq:Qk a):Pr Tryz.prog 101 [tV 0 t,eV a] (.one (.int .i64 (bn 0 t a))):=by
 obtain⟨x,rfl⟩:=Go.Tw.bD ha;have hx:qm x<2^34:=hq x (by simp);have e:bn 0 t [x]=cJ x.num:=sI x;have c:=me x (by omega);rw[e];refine pw Tryz.func101 ⟨[0,1,4,5,6,7,8,9,12,46,49],[(4,.nil)]⟩ ?_;simp only[Tryz.f101,Tryz.ntmps101,iz,seval];simp only[vx,T,seval,tV,tC,eV,ag,qC,X0];refine Cg c ?_;simp only[vx,T,seval,ag];exact Ve rfl
theorem qX {X:Nat}(hX1:1≤X)(hX:X≤2^26){t:List El}:∀{h:Nat} {a:El},TQ h t→a.length=2^h→iH X h t a→Pr Tryz.prog 101 [tV h t,eV a] (.one (.int .i64 (bn h t a)))
 |0,a,_,ha,hi=>Ja ha (.of hi.qb (by omega))
 |h+1,a,W,ha,hi=>by
  have W':=W.le (Nat.le_succ h);obtain⟨hqa,i1,i2,i3⟩:=hi;have v1:=qX hX1 hX W' (ai ha) i1;have v2:=qX hX1 hX W' (ah ha) i2;have v3:=qX hX1 hX W' aF i3;have h3:=W.h3;have hp:2^h≤8:=Nat.pow_le_pow_right (n:=2) (by decide) (show h≤3 by omega);have cn:=Be W a ha hX1 hX hqa;have hn:(2^h:Nat)≤a.length:=by rw[ha,Nat.pow_succ];omega
  have cT:=ff hn;have cD:=eK (a:=a) (n:=2^h);have v1:=v1.args (xs:=[tV h t,.one (bf a (2^h))]) ⟨.refl _,.cell cT,trivial⟩;have v2:=v2.args (xs:=[tV h t,.one (ba a (2^h))]) ⟨.refl _,.cell cD,trivial⟩;have e:bn (h+1) t a=if bn h t (a.drop (2^h))=0∨bn h t (a.take (2^h))=bn h t (a.drop (2^h))then bn h t (a.take (2^h))else if bn h t (a.take (2^h))=0 then bn h t (a.drop (2^h))else bn h t (a.take (2^h))*bn h t (aL h t a):=rfl
  have r1:=@dA h t (a.take (2^h));have r3:=@dA h t (aL h t a);obtain⟨n,hnn⟩:∃n,n=2^h:=⟨_,rfl⟩;have ha2:a.length=2*n:=by rw[ha,Nat.pow_succ,hnn];omega
  obtain⟨m,hm⟩:∃m,m=aL h t a:=⟨_,rfl⟩;obtain⟨s1,hs1⟩:∃s,s=bn h t (a.take (2^h)):=⟨_,rfl⟩;obtain⟨s2,hs2⟩:∃s,s=bn h t (a.drop (2^h)):=⟨_,rfl⟩;rw[←hm]at v3 e cn r3;obtain⟨s3,hs3⟩:∃s,s=bn h t m:=⟨_,rfl⟩;rw[←hs1,←hs2,←hs3]at e;rw[←hs1]at v1 r1;rw[←hs2]at v2;rw[←hs3]at v3 r3;rw[e];rw[←hnn]at v1 v2 hp;clear hqa i1 i2 i3 hs1 hs2 hs3 cT cD W hm hn ha;have w1:IntKind.i64.wrap (((h+1:Nat):Int)-1)=(h:Int):=by rw[IntWalk.i64_in _ (by omega)];omega
  have w2:IntKind.i64.wrap (((a.length:Nat):Int).tdiv 2)=(n:Int):=by
   rw[ha2,Int.tdiv_eq_ediv_of_nonneg (by omega),IntWalk.i64_in _ (by omega)];omega
  have w4:((a.length:Int)-(n:Int)).toNat=a.length-n:=by omega
  have w3:IntKind.i64.wrap (s1*s3)=s1*s3:=by
   rw[IntWalk.i64_in]
   have:s1= -1∨s1=0∨s1=1:=by omega
   rcases this with h|h|h<;>rw [h]<;>omega
  refine pw Tryz.func101 ⟨[0,1,4,5,6,7,8,9,12,46,49],[(4,.nil)]⟩ ?_;simp only[Tryz.f101,Tryz.ntmps101,iz,seval];simp only[vx,T,seval,tV,tC,eV,ag,bf,ba,w1,w2,w3,w4];refine⟨fun h=>absurd h (by omega),fun _=>Lg ?_⟩;simp only[vx,T,seval,tV,tC,eV,ag,bf,ba,w1,w2,w3,w4];refine⟨⟨by omega,by omega⟩,⟨by omega,by omega,by omega⟩,⟨by omega,by omega⟩,Cg v1 ?_⟩;simp only[vx,T,seval,tV,tC,eV,ag,bf,ba,w1,w2,w3,w4];refine⟨⟨by omega,by omega⟩,Cg v2 ?_⟩;simp only[vx,T,seval,tV,tC,eV,ag,bf,ba,w1,w2,w3,w4];refine⟨fun k2=>Lg ?_,fun k2=>Lg ?_⟩
  ·rw[if_pos (.inl k2)];simp only[vx,T,seval,tV,tC,eV,ag,bf,ba,w1,w2,w3,w4];exact Ve rfl
  simp only[vx,T,seval,tV,tC,eV,ag,bf,ba,w1,w2,w3,w4];refine⟨fun k3=>Lg ?_,fun k3=>Lg ?_⟩
  ·rw[if_pos (.inr k3)];simp only[vx,T,seval,tV,tC,eV,ag,bf,ba,w1,w2,w3,w4];exact Ve rfl
  rw[if_neg (not_or.2 ⟨k2,k3⟩)];simp only[vx,T,seval,tV,tC,eV,ag,bf,ba,w1,w2,w3,w4];refine⟨fun k1=>Lg ?_,fun k1=>Lg ?_⟩
  ·rw[if_pos k1];simp only[vx,T,seval,tV,tC,eV,ag,bf,ba,w1,w2,w3,w4];exact Ve rfl
  rw[if_neg k1];simp only[vx,T,seval,tV,tC,eV,ag,bf,ba,w1,w2,w3,w4];refine⟨⟨by omega,by omega⟩,Cg cn ?_⟩;simp only[vx,T,seval,tV,tC,eV,ag,bf,ba,w1,w2,w3,w4];refine Cg v3 ?_;simp only[vx,T,seval,tV,tC,eV,ag,bf,ba,w1,w2,w3,w4];exact Ve rfl
theorem NM {X h:Nat}(hX1:1≤X)(hX:X≤2^26){t:List El}{a:El}(W:TQ h t)(ha:a.length=2^h)(hs:iH X h t a):Pr Tryz.prog 50 [tV h t,eV a] (.one (.int .i64 (bn h t a))):=by
 have c:=qX hX1 hX W ha hs;refine pw Tryz.func50 ⟨[0,1,4],[]⟩ ?_;simp only[Tryz.f50,Tryz.ntmps50,iz,seval];simp only[vx,T,seval,tV,tC,eV,ag];refine Cg c ?_;simp only[vx,T,seval,ag];exact Ve rfl
theorem Mj {X h:Nat}(hX1:1≤X)(hX:X≤2^26){t:List El}(W:AS X h t):Pr Tryz.prog 193 [tV h t] (.one (.bool true)):=by
 have h3:=W.tq.h3;have f:=C2 W.tq.tk;have v:∀i,i<h→Pr Tryz.prog 101 [tV i t,eV (t.getD i [])] (.one (.int .i64 1)):=fun i hi=>by
  have c:=qX hX1 hX (W.tq.le (show i≤h by omega)) (W.tq.tk.len i hi) (W.s i hi);have p:=W.p i hi;have q:=@dA i t (t.getD i [])
  rwa [show bn i t (t.getD i [])=1 by omega]at c
 refine pw Tryz.func193 ⟨[0,2,3,6,10,21],[]⟩ ?_;simp only[Tryz.f193,Tryz.ntmps193,iz,seval];simp only[vx,T,seval,tV,tC,ag];refine Cg f ?_;simp only[vx,T,seval,tV,tC,ag];refine Lk (fun y:{i:Nat//i≤h}=>⟨[(0,tV h t),(2,.one (.bool false)),(3,.one (.int .i64 y.1))],[],2,22⟩) (fun y=>h-y.1) ⟨0,Nat.zero_le _⟩ ?_ (fun⟨i,hi⟩=>?_)
 ·refine Sa ?_;simp only[ry,seval,rz,tV,tC,ag]
 simp only;have wi:IntKind.i64.wrap ((i:Int)+1)=((i+1:Nat):Int):=by rw[IntWalk.i64_in _ (by omega)];omega
 simp only[vx,T,seval,tV,tC,ag];refine⟨fun k=>Lg ?_,fun k=>Lg ?_⟩
 ·have vi:=v i (by omega);obtain⟨r,hr⟩:∃r,r=t.getD i []:=⟨_,rfl⟩;rw[←hr]at vi;simp only[vx,T,seval,tV,tC,ag,←hr];refine⟨⟨by omega,by omega⟩,⟨by omega,by omega⟩,Cg vi ?_⟩;simp only[vx,T,seval,tV,tC,ag,wi];refine Lq ⟨i+1,by omega⟩ ?_ (by show h-(i+1)<h-i;omega);refine Sa ?_;simp only[ry,seval,rz,tV,tC,ag]
 simp only[vx,T,seval,tV,tC,ag];exact Ve rfl
theorem lC {X h:Nat}(hX1:1≤X)(hX:X≤2^26){t:List El}{a:El}(W:AS X h t)(ha:a.length=2^h)(hs:iH X h t a):Pr Tryz.prog 151 [tV h t,eV a] (.one (.int .i64 (bn h t a))):=by
 have v:=qX hX1 hX W.tq ha hs;have f:=sY W.tq.tk a ha (.of hs.qb (by omega));have g:=Mj hX1 hX W;refine pw Tryz.func151 ⟨[0,1,4,13],[]⟩ ?_;simp only[Tryz.f151,Tryz.ntmps151,iz,seval];simp only[vx,T,seval,tV,tC,eV,ag];refine Cg f ?_;simp only[vx,T,seval,tV,tC,eV,ag];refine Cg g ?_;simp only[vx,T,seval,tV,tC,eV,ag];refine Cg v ?_;simp only[vx,T,seval,tV,tC,eV,ag];exact Ve rfl
open Go Go.Eng
open Go.Tw (El aC aG zE aj au ar aq ae QB mS ai ah aL aF tB aX aD cg lU kP iH val In Rd nU bn cP dA)
theorem A4 (a b:El)(hl:a.length+b.length<2^38):Pr Tryz.prog 195 [eV a,eV b] (eV (a++b)):=by
 refine pw Tryz.func195 ⟨[0,1,4],[]⟩ ?_;simp only[Tryz.f195,Tryz.ntmps195,iz,seval];simp only[vx,T,seval,eV,ag];refine⟨⟨by omega,by omega⟩,⟨by omega,by omega⟩,jJ.cell (dg.rows List.length_append.symm fun i j hi hj=>.of_eq ?_)⟩;have e:=kS a b i j;unfold fQ at e;rw[if_neg (Nat.not_lt_zero _),Nat.sub_zero];exact e
theorem ED {t:List El}{a:El}(ha:a.length=2^0)(hq:Qk a):Kg 0 t a 152:=by
 obtain⟨x,rfl⟩:=Go.Tw.bD ha;have hx:qm x<2^34:=hq x (by simp);have c:=yR x hx
 cases h:Ad x with
 |some r=>
  rw[h]at c;refine .inl ⟨[r],rfl,?_,?_⟩
  ·show R.q r*R.q r=R.q x;rw[←R.eE,(pF h).1]
  refine pw Tryz.func152 ⟨[0,1,4,5,6,7,8,9,10,11,12,13,14,15,16,17,19,20,21,22,23,24,25,26,27,28,32,46,70,77,96,120,125,140],[(7,.nil),(9,.nil)]⟩ ?_;simp only[Tryz.f152,Tryz.ntmps152,iz,seval];simp only[vx,T,seval,QV,QC,tV,tC,eV,ag,qC,X0];refine Cg c ?_;simp only[vx,T,seval,QV,QC,tV,tC,eV,ag,qC,X0];refine jJ.aJ ⟨.cell (.rows rfl fun i j hi _=>.of_eq ?_),.refl _,trivial⟩;obtain rfl:i=0:=by omega
  rw[Nat.zero_mul,Nat.zero_add];exact dx r rfl j
 |none=>
  rw[h]at c;refine .inr ⟨?_,[fun j=>[C.bool false,.nil,.bool false,.nil].getD j .any],Nat.le_refl _,?_⟩
  ·rintro z ⟨b,hb,rfl⟩ e;obtain⟨y,rfl⟩:=Go.Tw.bD hb;have e:R.q y*R.q y=R.q x:=e;rw[←R.eE]at e;exact yO h y (R.qq e)
  refine pw Tryz.func152 ⟨[0,1,4,5,6,7,8,9,10,11,12,13,14,15,16,17,19,20,21,22,23,24,25,26,27,28,32,46,70,77,96,120,125,140],[(7,.nil),(9,.nil)]⟩ ?_;simp only[Tryz.f152,Tryz.ntmps152,iz,seval];simp only[vx,T,seval,QV,QC,tV,tC,eV,ag,qC,X0];refine Cg c ?_;simp only[vx,T,seval,QV,QC,tV,tC,eV,ag,qC,X0];refine jJ.aJ ⟨.cell (.rows rfl fun i j hi _=>.of_eq ?_),.refl _,trivial⟩;obtain rfl:i=0:=by omega
  rw[Nat.zero_mul,Nat.zero_add];rfl
theorem Ou {X h:Nat}(hX1:1≤X)(hX:X≤2^26){t:List El}{a:El}(W:AS X (h+1) t)(ha:a.length=2^(h+1))(hs:iH X (h+1) t a)(hsn:bn (h+1) t a<0):Pr Tryz.prog 152 [tV (h+1) t,eV a] (.aJ [.one .nil,.one (.bool false)]):=by
 have sg:=lC hX1 hX W ha hs;obtain⟨sgn',hsg⟩:∃s,s=bn (h+1) t a:=⟨_,rfl⟩;rw[←hsg]at sg hsn;refine pw Tryz.func152 ⟨[0,1,4,5,6,7,8,9,10,11,12,13,14,15,16,17,19,20,21,22,23,24,25,26,27,28,32,46,70,77,96,120,125,140],[(7,.nil),(9,.nil)]⟩ ?_;simp only[Tryz.f152,Tryz.ntmps152,iz,seval];simp only[vx,T,seval,tV,tC,eV,ag];refine⟨fun h=>absurd h (by omega),fun _=>Lg ?_⟩;simp only[vx,T,seval,tV,tC,eV,ag];refine Cg sg ?_;simp only[vx,T,seval,tV,tC,eV,ag];refine⟨fun _=>Lg ?_,fun h=>absurd hsn h⟩;simp only[vx,T,seval,tV,tC,eV,ag];exact Ve rfl
theorem NC {X h:Nat}(hX1:1≤X)(hX:X≤2^26){t:List El}{a w:El}(W:AS X (h+1) t)(ha:a.length=2^(h+1))(hs:iH X (h+1) t a)(hsn:¬bn (h+1) t a<0)(hv:a.drop (2^h)=zE (2^h))(hw:w.length=2^h)
  (c:Pr Tryz.prog 152 [tV h t,eV (a.take (2^h))] (.aJ [eV w,.one (.bool true)])):
  Pr Tryz.prog 152 [tV (h+1) t,eV a] (.aJ [eV (w++zE (2^h)),.one (.bool true)]):=by
 have W':=W.tq.le (Nat.le_succ h);have h3:=W.tq.h3;have hp:2^h≤8:=Nat.pow_le_pow_right (n:=2) (by decide) (show h≤3 by omega);have sg:=lC hX1 hX W ha hs;have z:=jA (a.drop (2^h)) (by rw[ah ha];omega);have o0:=aS 0 (by decide) (by decide);have fz:=(dL (h:=h) (t:=t) (by omega) (Rat.ofInt 0)).rows;rw[BW]at fz;have lz:(zE (2^h)).length=2^h:=au;rw[decide_eq_true (by rw[ah ha];exact hv)]at z;have hn:(2^h:Nat)≤a.length:=by rw[ha,Nat.pow_succ];omega
 have cT:=ff hn;have cD:=eK (a:=a) (n:=2^h);have z:=z.args (xs:=[.one (ba a (2^h))]) ⟨.cell cD,trivial⟩;have k:=A4 w (zE (2^h)) (by rw[hw,lz];omega);have c:=c.args (xs:=[tV h t,.one (bf a (2^h))]) ⟨.refl _,.cell cT,trivial⟩;obtain⟨n,hnn⟩:∃n,n=2^h:=⟨_,rfl⟩;have ha2:a.length=2*n:=by rw[ha,Nat.pow_succ,hnn];omega
 have w1:IntKind.i64.wrap (((h+1:Nat):Int)-1)=(h:Int):=by rw[IntWalk.i64_in _ (by omega)];omega
 have hn8:n≤8:=by omega
 have w2:IntKind.i64.wrap (((a.length:Nat):Int).tdiv 2)=(n:Int):=by
  rw[ha2,Int.tdiv_eq_ediv_of_nonneg (by omega),IntWalk.i64_in _ (by omega)];omega
 have w4:((a.length:Int)-(n:Int)).toNat=a.length-n:=by omega
 obtain⟨sgn',hsg⟩:∃s,s=bn (h+1) t a:=⟨_,rfl⟩;obtain⟨r,hrr⟩:∃r,r=t.getD h []:=⟨_,rfl⟩;obtain⟨zn,hzn⟩:∃z,z=zE (2^h):=⟨_,rfl⟩;rw[←hzn]at fz lz;rw[←hsg]at sg hsn;rw[←hzn]at k⊢;rw[←hnn]at z c hp lz hw;clear hv hnn hzn cT cD hn ha hs W W';refine pw Tryz.func152 ⟨[0,1,4,5,6,7,8,9,10,11,12,13,14,15,16,17,19,20,21,22,23,24,25,26,27,28,32,46,70,77,96,120,125,140],[(7,.nil),(9,.nil)]⟩ ?_;simp only[Tryz.f152,Tryz.ntmps152,iz,seval];simp only[vx,T,seval,tV,tC,eV,ag,bf,ba,QV,QC,GC,w1,w2,w4,←hrr];refine⟨fun h=>absurd h (by omega),fun _=>Lg ?_⟩;simp only[vx,T,seval,tV,tC,eV,ag,bf,ba,QV,QC,GC,w1,w2,w4,←hrr];refine Cg sg ?_;simp only[vx,T,seval,tV,tC,eV,ag,bf,ba,QV,QC,GC,w1,w2,w4,←hrr];refine⟨fun h=>absurd h (by omega),fun _=>Lg ?_⟩;simp only[vx,T,seval,tV,tC,eV,ag,bf,ba,QV,QC,GC,w1,w2,w4,←hrr];refine⟨⟨by omega,by omega⟩,⟨by omega,by omega⟩,⟨by omega,by omega⟩,⟨by omega,by omega,by omega⟩,Cg o0 ?_⟩;simp only[vx,T,seval,tV,tC,eV,ag,bf,ba,QV,QC,GC,w1,w2,w4,←hrr];refine Cg fz ?_;simp only[vx,T,seval,tV,tC,eV,ag,bf,ba,QV,QC,GC,w1,w2,w4,←hrr];refine Cg z ?_;simp only[vx,T,seval,tV,tC,eV,ag,bf,ba,QV,QC,GC,w1,w2,w4,←hrr];refine Cg c ?_;simp only[vx,T,seval,tV,tC,eV,ag,bf,ba,QV,QC,GC,w1,w2,w4,←hrr];refine Cg k ?_;simp only[vx,T,seval,tV,tC,eV,ag,bf,ba,QV,QC,GC,w1,w2,w4,←hrr];exact Ve rfl
theorem Nx {X h:Nat}(hX1:1≤X)(hX:X≤2^26){t:List El}{a i w:El}(W:AS X (h+1) t)(ha:a.length=2^(h+1))(hs:iH X (h+1) t a)(hsn:¬bn (h+1) t a<0)(hv:a.drop (2^h)=zE (2^h)){l:List (Nat→C)}(D':Rd h t)(hw:w.length=2^h)
  (c:Pr Tryz.prog 152 [tV h t,eV (a.take (2^h))] (.aJ [.one (GC l),.one (.bool false)])) (hr:lU X h t (t.getD h [])) (hi:cg h t (t.getD h [])=some i) (qi:QB X i)
  (c2:Pr Tryz.prog 152 [tV h t,eV (aj h t (a.take (2^h)) i)] (.aJ [eV w,.one (.bool true)])):
  Pr Tryz.prog 152 [tV (h+1) t,eV a] (.aJ [eV (zE (2^h)++w),.one (.bool true)]):=by
 have W':=W.tq.le (Nat.le_succ h);have h3:=W.tq.h3;have hp:2^h≤8:=Nat.pow_le_pow_right (n:=2) (by decide) (show h≤3 by omega);have sg:=lC hX1 hX W ha hs;have z:=jA (a.drop (2^h)) (by rw[ah ha];omega);have o0:=aS 0 (by decide) (by decide);have fz:=(dL (h:=h) (t:=t) (by omega) (Rat.ofInt 0)).rows;rw[BW]at fz;have lz:(zE (2^h)).length=2^h:=au;rw[decide_eq_true (by rw[ah ha];exact hv)]at z;have hn:(2^h:Nat)≤a.length:=by rw[ha,Nat.pow_succ];omega
 have cT:=ff hn;have cD:=eK (a:=a) (n:=2^h);have z:=z.args (xs:=[.one (ba a (2^h))]) ⟨.cell cD,trivial⟩;have k:=A4 (zE (2^h)) w (by rw[hw,lz];omega);have c:=c.args (xs:=[tV h t,.one (bf a (2^h))]) ⟨.refl _,.cell cT,trivial⟩;have lr:=W.tq.tk.len h (by omega);have li:=Go.Proofs.YtgalhjhdgkoemaaGreat.jr hi;have iv:=((wO hX1 hX W' D' lr hr).1 i hi).rows;have m:=(fM fT W'.tk W'.q hX1 hX1 (ai ha) li (hs.qb.take _) qi (kX (h:=h) (S:=X+X) (by omega) (by omega))).rows;have m:=m.args (xs:=[tV h t,.one (bf a (2^h)),eV i]) ⟨.refl _,.cell cT,.refl _,trivial⟩;obtain⟨y,hy⟩:∃y,y=aj h t (a.take (2^h)) i:=⟨_,rfl⟩;rw[←hy]at m c2;obtain⟨n,hnn⟩:∃n,n=2^h:=⟨_,rfl⟩;have ha2:a.length=2*n:=by rw[ha,Nat.pow_succ,hnn];omega
 have w1:IntKind.i64.wrap (((h+1:Nat):Int)-1)=(h:Int):=by rw[IntWalk.i64_in _ (by omega)];omega
 have hn8:n≤8:=by omega
 have w2:IntKind.i64.wrap (((a.length:Nat):Int).tdiv 2)=(n:Int):=by
  rw[ha2,Int.tdiv_eq_ediv_of_nonneg (by omega),IntWalk.i64_in _ (by omega)];omega
 have w4:((a.length:Int)-(n:Int)).toNat=a.length-n:=by omega
 obtain⟨sgn',hsg⟩:∃s,s=bn (h+1) t a:=⟨_,rfl⟩;obtain⟨r,hrr⟩:∃r,r=t.getD h []:=⟨_,rfl⟩;obtain⟨zn,hzn⟩:∃z,z=zE (2^h):=⟨_,rfl⟩;rw[←hzn]at fz lz;rw[←hsg]at sg hsn;rw[←hzn]at k⊢;rw[←hrr]at iv;rw[←hnn]at z c m hp lz hw;clear hv hnn hzn cT cD hn ha hs W W' hr hi qi lr li hy;refine pw Tryz.func152 ⟨[0,1,4,5,6,7,8,9,10,11,12,13,14,15,16,17,19,20,21,22,23,24,25,26,27,28,32,46,70,77,96,120,125,140],[(7,.nil),(9,.nil)]⟩ ?_;simp only[Tryz.f152,Tryz.ntmps152,iz,seval];simp only[vx,T,seval,tV,tC,eV,ag,bf,ba,QV,QC,GC,w1,w2,w4,←hrr];refine⟨fun h=>absurd h (by omega),fun _=>Lg ?_⟩;simp only[vx,T,seval,tV,tC,eV,ag,bf,ba,QV,QC,GC,w1,w2,w4,←hrr];refine Cg sg ?_;simp only[vx,T,seval,tV,tC,eV,ag,bf,ba,QV,QC,GC,w1,w2,w4,←hrr];refine⟨fun h=>absurd h (by omega),fun _=>Lg ?_⟩;simp only[vx,T,seval,tV,tC,eV,ag,bf,ba,QV,QC,GC,w1,w2,w4,←hrr];refine⟨⟨by omega,by omega⟩,⟨by omega,by omega⟩,⟨by omega,by omega⟩,⟨by omega,by omega,by omega⟩,Cg o0 ?_⟩;simp only[vx,T,seval,tV,tC,eV,ag,bf,ba,QV,QC,GC,w1,w2,w4,←hrr];refine Cg fz ?_;simp only[vx,T,seval,tV,tC,eV,ag,bf,ba,QV,QC,GC,w1,w2,w4,←hrr];refine Cg z ?_;simp only[vx,T,seval,tV,tC,eV,ag,bf,ba,QV,QC,GC,w1,w2,w4,←hrr];refine Cg c ?_;simp only[vx,T,seval,tV,tC,eV,ag,bf,ba,QV,QC,GC,w1,w2,w4,←hrr];refine Cg iv ?_;simp only[vx,T,seval,tV,tC,eV,ag,bf,ba,QV,QC,GC,w1,w2,w4,←hrr];refine Cg m ?_;simp only[vx,T,seval,tV,tC,eV,ag,bf,ba,QV,QC,GC,w1,w2,w4,←hrr];refine Cg c2 ?_;simp only[vx,T,seval,tV,tC,eV,ag,bf,ba,QV,QC,GC,w1,w2,w4,←hrr];refine Cg k ?_;simp only[vx,T,seval,tV,tC,eV,ag,bf,ba,QV,QC,GC,w1,w2,w4,←hrr];exact Ve rfl
theorem NF {X h:Nat}(hX1:1≤X)(hX:X≤2^26){t:List El}{a i:El}(W:AS X (h+1) t)(ha:a.length=2^(h+1))(hs:iH X (h+1) t a)(hsn:¬bn (h+1) t a<0)(hv:a.drop (2^h)=zE (2^h)){l p:List (Nat→C)}(D':Rd h t)
  (c:Pr Tryz.prog 152 [tV h t,eV (a.take (2^h))] (.aJ [.one (GC l),.one (.bool false)])) (hr:lU X h t (t.getD h [])) (hi:cg h t (t.getD h [])=some i) (qi:QB X i)
  (c2:Pr Tryz.prog 152 [tV h t,eV (aj h t (a.take (2^h)) i)] (.aJ [.one (GC p),.one (.bool false)])):
  Pr Tryz.prog 152 [tV (h+1) t,eV a] (.aJ [.one .nil,.one (.bool false)]):=by
 have W':=W.tq.le (Nat.le_succ h);have h3:=W.tq.h3;have hp:2^h≤8:=Nat.pow_le_pow_right (n:=2) (by decide) (show h≤3 by omega);have sg:=lC hX1 hX W ha hs;have z:=jA (a.drop (2^h)) (by rw[ah ha];omega);have o0:=aS 0 (by decide) (by decide);have fz:=(dL (h:=h) (t:=t) (by omega) (Rat.ofInt 0)).rows;rw[BW]at fz;have lz:(zE (2^h)).length=2^h:=au;rw[decide_eq_true (by rw[ah ha];exact hv)]at z;have hn:(2^h:Nat)≤a.length:=by rw[ha,Nat.pow_succ];omega
 have cT:=ff hn;have cD:=eK (a:=a) (n:=2^h);have z:=z.args (xs:=[.one (ba a (2^h))]) ⟨.cell cD,trivial⟩;have c:=c.args (xs:=[tV h t,.one (bf a (2^h))]) ⟨.refl _,.cell cT,trivial⟩;have lr:=W.tq.tk.len h (by omega);have li:=Go.Proofs.YtgalhjhdgkoemaaGreat.jr hi;have iv:=((wO hX1 hX W' D' lr hr).1 i hi).rows;have m:=(fM fT W'.tk W'.q hX1 hX1 (ai ha) li (hs.qb.take _) qi (kX (h:=h) (S:=X+X) (by omega) (by omega))).rows;have m:=m.args (xs:=[tV h t,.one (bf a (2^h)),eV i]) ⟨.refl _,.cell cT,.refl _,trivial⟩;obtain⟨y,hy⟩:∃y,y=aj h t (a.take (2^h)) i:=⟨_,rfl⟩;rw[←hy]at m c2;obtain⟨n,hnn⟩:∃n,n=2^h:=⟨_,rfl⟩;have ha2:a.length=2*n:=by rw[ha,Nat.pow_succ,hnn];omega
 have w1:IntKind.i64.wrap (((h+1:Nat):Int)-1)=(h:Int):=by rw[IntWalk.i64_in _ (by omega)];omega
 have hn8:n≤8:=by omega
 have w2:IntKind.i64.wrap (((a.length:Nat):Int).tdiv 2)=(n:Int):=by
  rw[ha2,Int.tdiv_eq_ediv_of_nonneg (by omega),IntWalk.i64_in _ (by omega)];omega
 have w4:((a.length:Int)-(n:Int)).toNat=a.length-n:=by omega
 obtain⟨sgn',hsg⟩:∃s,s=bn (h+1) t a:=⟨_,rfl⟩;obtain⟨r,hrr⟩:∃r,r=t.getD h []:=⟨_,rfl⟩;obtain⟨zn,hzn⟩:∃z,z=zE (2^h):=⟨_,rfl⟩;rw[←hzn]at fz lz;rw[←hsg]at sg hsn;rw[←hrr]at iv;rw[←hnn]at z c m hp lz;clear hv hnn hzn cT cD hn ha hs W W' hr hi qi lr li hy;refine pw Tryz.func152 ⟨[0,1,4,5,6,7,8,9,10,11,12,13,14,15,16,17,19,20,21,22,23,24,25,26,27,28,32,46,70,77,96,120,125,140],[(7,.nil),(9,.nil)]⟩ ?_;simp only[Tryz.f152,Tryz.ntmps152,iz,seval];simp only[vx,T,seval,tV,tC,eV,ag,bf,ba,QV,QC,GC,w1,w2,w4,←hrr];refine⟨fun h=>absurd h (by omega),fun _=>Lg ?_⟩;simp only[vx,T,seval,tV,tC,eV,ag,bf,ba,QV,QC,GC,w1,w2,w4,←hrr];refine Cg sg ?_;simp only[vx,T,seval,tV,tC,eV,ag,bf,ba,QV,QC,GC,w1,w2,w4,←hrr];refine⟨fun h=>absurd h (by omega),fun _=>Lg ?_⟩;simp only[vx,T,seval,tV,tC,eV,ag,bf,ba,QV,QC,GC,w1,w2,w4,←hrr];refine⟨⟨by omega,by omega⟩,⟨by omega,by omega⟩,⟨by omega,by omega⟩,⟨by omega,by omega,by omega⟩,Cg o0 ?_⟩;simp only[vx,T,seval,tV,tC,eV,ag,bf,ba,QV,QC,GC,w1,w2,w4,←hrr];refine Cg fz ?_;simp only[vx,T,seval,tV,tC,eV,ag,bf,ba,QV,QC,GC,w1,w2,w4,←hrr];refine Cg z ?_;simp only[vx,T,seval,tV,tC,eV,ag,bf,ba,QV,QC,GC,w1,w2,w4,←hrr];refine Cg c ?_;simp only[vx,T,seval,tV,tC,eV,ag,bf,ba,QV,QC,GC,w1,w2,w4,←hrr];refine Cg iv ?_;simp only[vx,T,seval,tV,tC,eV,ag,bf,ba,QV,QC,GC,w1,w2,w4,←hrr];refine Cg m ?_;simp only[vx,T,seval,tV,tC,eV,ag,bf,ba,QV,QC,GC,w1,w2,w4,←hrr];refine Cg c2 ?_;simp only[vx,T,seval,tV,tC,eV,ag,bf,ba,QV,QC,GC,w1,w2,w4,←hrr];exact Ve rfl
theorem Ms {X h:Nat}(hX1:1≤X)(hX:X≤2^26){t:List El}{a:El}(W:AS X (h+1) t)(ha:a.length=2^(h+1))(hs:iH X (h+1) t a)(hsn:¬bn (h+1) t a<0)(hv:a.drop (2^h)≠zE (2^h)){l:List (Nat→C)}
  (c:Pr Tryz.prog 152 [tV h t,eV (aL h t a)] (.aJ [.one (GC l),.one (.bool false)])):
  Pr Tryz.prog 152 [tV (h+1) t,eV a] (.aJ [.one .nil,.one (.bool false)]):=by
 have W':=W.tq.le (Nat.le_succ h);have h3:=W.tq.h3;have hp:2^h≤8:=Nat.pow_le_pow_right (n:=2) (by decide) (show h≤3 by omega);have sg:=lC hX1 hX W ha hs;have z:=jA (a.drop (2^h)) (by rw[ah ha];omega);have o0:=aS 0 (by decide) (by decide);have fz:=(dL (h:=h) (t:=t) (by omega) (Rat.ofInt 0)).rows;rw[BW]at fz;have lz:(zE (2^h)).length=2^h:=au;rw[decide_eq_false (by rw[ah ha];exact hv)]at z;have hn:(2^h:Nat)≤a.length:=by rw[ha,Nat.pow_succ];omega
 have cT:=ff hn;have cD:=eK (a:=a) (n:=2^h);have z:=z.args (xs:=[.one (ba a (2^h))]) ⟨.cell cD,trivial⟩;have W'q:=W'.q;have hr0:=W.tq.tk.len h (by omega);have hrq:=W.tq.q h (by omega);have btB:tB=32769:=rfl;have la1:=ai ha;have la2:=ah ha;have b1:=j5 (h:=h) (S:=X+X) (by omega);have b2:=j5 (h:=h) (S:=tB+mS h (X+X) tB) (by omega);have hge:=Go.Tw.il (h:=h) (S:=X+X) (C:=tB);have g1:=QB.mul fT W'q hX1 hX1 (hs.qb.take (2^h)) (hs.qb.take (2^h));have g2:=QB.mul fT W'q hX1 hX1 (hs.qb.drop (2^h)) (hs.qb.drop (2^h));have g3:=QB.mul fT W'q fT (by omega) hrq g2;have q1:mS h (X+X) tB<2^34:=by omega
 have q2:mS h (tB+mS h (X+X) tB) tB<2^34:=by omega
 have q3:1≤mS h (X+X) tB:=by omega
 have m1:=(fM fT W'.tk W'q hX1 hX1 la1 la1 (hs.qb.take _) (hs.qb.take _) q1).rows;have m2:=(fM fT W'.tk W'q hX1 hX1 la2 la2 (hs.qb.drop _) (hs.qb.drop _) q1).rows;have m3:=(fM fT W'.tk W'q fT q3 hr0 ae hrq g2 q2).rows;have sb:=(Hx (h:=h) (t:=t) _ _ (by rw[ae];omega) (by rw[ae,ae]) (Qk.of g1 q1) (Qk.of g3 q2)).rows;rw[Go.Tw.nq]at sb;have m1:=m1.args (xs:=[tV h t,.one (bf a (2^h)),.one (bf a (2^h))]) ⟨.refl _,.cell cT,.cell cT,trivial⟩;have m2:=m2.args (xs:=[tV h t,.one (ba a (2^h)),.one (ba a (2^h))]) ⟨.refl _,.cell cD,.cell cD,trivial⟩;obtain⟨e,he⟩:∃e,e=aL h t a:=⟨_,rfl⟩;obtain⟨p1,hp1⟩:∃p,p=aj h t (a.take (2^h)) (a.take (2^h)):=⟨_,rfl⟩;obtain⟨p2,hp2⟩:∃p,p=aj h t (a.drop (2^h)) (a.drop (2^h)):=⟨_,rfl⟩;rw[←he]at sb c;rw[←hp1]at m1 sb;rw[←hp2]at m2 m3 sb;obtain⟨p3,hp3⟩:∃p,p=aj h t (t.getD h []) p2:=⟨_,rfl⟩;rw[←hp3]at m3 sb;obtain⟨n,hnn⟩:∃n,n=2^h:=⟨_,rfl⟩;have ha2:a.length=2*n:=by rw[ha,Nat.pow_succ,hnn];omega
 have w1:IntKind.i64.wrap (((h+1:Nat):Int)-1)=(h:Int):=by rw[IntWalk.i64_in _ (by omega)];omega
 have hn8:n≤8:=by omega
 have w2:IntKind.i64.wrap (((a.length:Nat):Int).tdiv 2)=(n:Int):=by
  rw[ha2,Int.tdiv_eq_ediv_of_nonneg (by omega),IntWalk.i64_in _ (by omega)];omega
 have w4:((a.length:Int)-(n:Int)).toNat=a.length-n:=by omega
 obtain⟨sgn',hsg⟩:∃s,s=bn (h+1) t a:=⟨_,rfl⟩;obtain⟨r,hrr⟩:∃r,r=t.getD h []:=⟨_,rfl⟩;obtain⟨zn,hzn⟩:∃z,z=zE (2^h):=⟨_,rfl⟩;rw[←hzn]at fz lz;rw[←hsg]at sg hsn;rw[←hrr]at m3;rw[←hnn]at z m1 m2 hp lz;clear hv hnn hzn cT cD hn ha hs W W' W'q hr0 hrq la1 la2 b1 b2 hge g1 g2 g3 q1 q2 q3 he hp1 hp2 hp3;refine pw Tryz.func152 ⟨[0,1,4,5,6,7,8,9,10,11,12,13,14,15,16,17,19,20,21,22,23,24,25,26,27,28,32,46,70,77,96,120,125,140],[(7,.nil),(9,.nil)]⟩ ?_;simp only[Tryz.f152,Tryz.ntmps152,iz,seval];simp only[vx,T,seval,tV,tC,eV,ag,bf,ba,QV,QC,GC,w1,w2,w4,←hrr];refine⟨fun h=>absurd h (by omega),fun _=>Lg ?_⟩;simp only[vx,T,seval,tV,tC,eV,ag,bf,ba,QV,QC,GC,w1,w2,w4,←hrr];refine Cg sg ?_;simp only[vx,T,seval,tV,tC,eV,ag,bf,ba,QV,QC,GC,w1,w2,w4,←hrr];refine⟨fun h=>absurd h (by omega),fun _=>Lg ?_⟩;simp only[vx,T,seval,tV,tC,eV,ag,bf,ba,QV,QC,GC,w1,w2,w4,←hrr];refine⟨⟨by omega,by omega⟩,⟨by omega,by omega⟩,⟨by omega,by omega⟩,⟨by omega,by omega,by omega⟩,Cg o0 ?_⟩;simp only[vx,T,seval,tV,tC,eV,ag,bf,ba,QV,QC,GC,w1,w2,w4,←hrr];refine Cg fz ?_;simp only[vx,T,seval,tV,tC,eV,ag,bf,ba,QV,QC,GC,w1,w2,w4,←hrr];refine Cg z ?_;simp only[vx,T,seval,tV,tC,eV,ag,bf,ba,QV,QC,GC,w1,w2,w4,←hrr];refine Cg m1 ?_;simp only[vx,T,seval,tV,tC,eV,ag,bf,ba,QV,QC,GC,w1,w2,w4,←hrr];refine Cg m2 ?_;simp only[vx,T,seval,tV,tC,eV,ag,bf,ba,QV,QC,GC,w1,w2,w4,←hrr];refine Cg m3 ?_;simp only[vx,T,seval,tV,tC,eV,ag,bf,ba,QV,QC,GC,w1,w2,w4,←hrr];refine Cg sb ?_;simp only[vx,T,seval,tV,tC,eV,ag,bf,ba,QV,QC,GC,w1,w2,w4,←hrr];refine Cg c ?_;simp only[vx,T,seval,tV,tC,eV,ag,bf,ba,QV,QC,GC,w1,w2,w4,←hrr];exact Ve rfl
def mE (m:El):Nat→El
 |0=>m
 |j+1=>aG (mE m j)
theorem FP {m:El}{n:Nat}(h:m.length=n):∀j,(mE m j).length=n
 |0=>h
 |j+1=>by rw[mE,ar];exact FP h j
theorem L0 {X:Nat}{m:El}(h:QB X m):∀j,QB X (mE m j)
 |0=>h
 |j+1=>(L0 h j).neg
theorem CG {X h:Nat}(hX1:1≤X)(hX:X≤2^26){t:List El}{a m w i:El}(W:AS X (h+1) t)(ha:a.length=2^(h+1))(hs:iH X (h+1) t a)(hsn:¬bn (h+1) t a<0)(hv:a.drop (2^h)≠zE (2^h))(D':Rd h t){k:Nat}{r:V}(hk:k≤2)
  (c:Pr Tryz.prog 152 [tV h t,eV (aL h t a)] (.aJ [eV m,.one (.bool true)])) (lm:m.length=2^h) (qm:QB X m) (qx:∀j,j<2→QB X (aC (a.take (2^h)) (mE m j)))
  (no:∀j,j<k→∃l:List (Nat→C),Pr Tryz.prog 152 [tV h t,eV (aj h t (aX h (mkRat 1 2)) (aC (a.take (2^h)) (mE m j)))] (.aJ [.one (GC l),.one (.bool false)]))
  (yes:k<2→r= .aJ [eV (w++aj h t (aX h (mkRat 1 2)) (aj h t (a.drop (2^h)) i)),.one (.bool true)]∧w.length=2^h∧lU X h t w∧cg h t w=some i∧QB X i∧QB X (aj h t (a.drop (2^h)) i)∧
   Pr Tryz.prog 152 [tV h t,eV (aj h t (aX h (mkRat 1 2)) (aC (a.take (2^h)) (mE m k)))] (.aJ [eV w,.one (.bool true)]))
  (fin:k=2→r= .aJ [.one .nil,.one (.bool false)]):
  Pr Tryz.prog 152 [tV (h+1) t,eV a] r:=by
 have W':=W.tq.le (Nat.le_succ h);have h3:=W.tq.h3;have hp:2^h≤8:=Nat.pow_le_pow_right (n:=2) (by decide) (show h≤3 by omega);have sg:=lC hX1 hX W ha hs;have z:=jA (a.drop (2^h)) (by rw[ah ha];omega);have o0:=aS 0 (by decide) (by decide);have fz:=(dL (h:=h) (t:=t) (by omega) (Rat.ofInt 0)).rows;rw[BW]at fz;have lz:(zE (2^h)).length=2^h:=au;rw[decide_eq_false (by rw[ah ha];exact hv)]at z;have hn:(2^h:Nat)≤a.length:=by rw[ha,Nat.pow_succ];omega
 have cT:=ff hn;have cD:=eK (a:=a) (n:=2^h);have z:=z.args (xs:=[.one (ba a (2^h))]) ⟨.cell cD,trivial⟩;have W'q:=W'.q;have hr0:=W.tq.tk.len h (by omega);have hrq:=W.tq.q h (by omega);have btB:tB=32769:=rfl;have la1:=ai ha;have la2:=ah ha;have b1:=j5 (h:=h) (S:=X+X) (by omega);have b2:=j5 (h:=h) (S:=tB+mS h (X+X) tB) (by omega);have hge:=Go.Tw.il (h:=h) (S:=X+X) (C:=tB);have g1:=QB.mul fT W'q hX1 hX1 (hs.qb.take (2^h)) (hs.qb.take (2^h));have g2:=QB.mul fT W'q hX1 hX1 (hs.qb.drop (2^h)) (hs.qb.drop (2^h));have g3:=QB.mul fT W'q fT (by omega) hrq g2;have q1:mS h (X+X) tB<2^34:=by omega
 have q2:mS h (tB+mS h (X+X) tB) tB<2^34:=by omega
 have q3:1≤mS h (X+X) tB:=by omega
 have m1:=(fM fT W'.tk W'q hX1 hX1 la1 la1 (hs.qb.take _) (hs.qb.take _) q1).rows;have m2:=(fM fT W'.tk W'q hX1 hX1 la2 la2 (hs.qb.drop _) (hs.qb.drop _) q1).rows;have m3:=(fM fT W'.tk W'q fT q3 hr0 ae hrq g2 q2).rows;have sb:=(Hx (h:=h) (t:=t) _ _ (by rw[ae];omega) (by rw[ae,ae]) (Qk.of g1 q1) (Qk.of g3 q2)).rows;rw[Go.Tw.nq]at sb;have m1:=m1.args (xs:=[tV h t,.one (bf a (2^h)),.one (bf a (2^h))]) ⟨.refl _,.cell cT,.cell cT,trivial⟩;have m2:=m2.args (xs:=[tV h t,.one (ba a (2^h)),.one (ba a (2^h))]) ⟨.refl _,.cell cD,.cell cD,trivial⟩;obtain⟨e,he⟩:∃e,e=aL h t a:=⟨_,rfl⟩;obtain⟨p1,hp1⟩:∃p,p=aj h t (a.take (2^h)) (a.take (2^h)):=⟨_,rfl⟩;obtain⟨p2,hp2⟩:∃p,p=aj h t (a.drop (2^h)) (a.drop (2^h)):=⟨_,rfl⟩;rw[←he]at sb c;rw[←hp1]at m1 sb;rw[←hp2]at m2 m3 sb;obtain⟨p3,hp3⟩:∃p,p=aj h t (t.getD h []) p2:=⟨_,rfl⟩;rw[←hp3]at m3 sb;have fr:=uy 1 2 (by decide) (by decide) (by decide) (by decide+kernel) (by decide+kernel);have hf:=(dL (h:=h) (t:=t) (by omega) (mkRat 1 2)).rows;have qh:QB 8 (aX h (mkRat 1 2)):=FI (by decide+kernel) (by decide+kernel);have lh:(aX h (mkRat 1 2)).length=2^h:=aD;have lmj:=FP lm;have qmj:=L0 qm;have ad:∀j,Pr Tryz.prog 46 [tV h t,.one (bf a (2^h)),eV (mE m j)] (eV (aC (a.take (2^h)) (mE m j))):=fun j=>
  (tW (h:=h) (t:=t) (a.take (2^h)) (mE m j) (by rw[la1];omega) (by rw[la1,lmj j]) (.of (hs.qb.take _) (by omega)) (.of (qmj j) (by omega))).rows.args ⟨.refl _,.cell cT,.refl _,trivial⟩
 have b8:=kX (h:=h) (S:=8+X) (by omega) (by omega);have mh:∀j,j<2→Pr Tryz.prog 47 [tV h t,eV (aX h (mkRat 1 2)),eV (aC (a.take (2^h)) (mE m j))] (eV (aj h t (aX h (mkRat 1 2)) (aC (a.take (2^h)) (mE m j)))):=fun j hj=>
  (fM fT W'.tk W'q (by decide) hX1 lh (aq la1 (lmj j)) qh (qx j hj) b8).rows
 have ng:∀j,Pr Tryz.prog 51 [tV h t,eV (mE m j)] (eV (mE m (j+1))):=fun j=>
  (zx (h:=h) (t:=t) (mE m j) (by rw[lmj j];omega) (.of (qmj j) (by omega))).rows
 have fn:k<2→∃g,g=aj h t (a.drop (2^h)) i∧Pr Tryz.prog 49 [tV h t,eV w] (.aJ [eV i,.one (.int .i64 0)])∧Pr Tryz.prog 47 [tV h t,.one (ba a (2^h)),eV i] (eV g)∧
   Pr Tryz.prog 47 [tV h t,eV (aX h (mkRat 1 2)),eV g] (eV (aj h t (aX h (mkRat 1 2)) g))∧Pr Tryz.prog 195 [eV w,eV (aj h t (aX h (mkRat 1 2)) g)] (eV (w++aj h t (aX h (mkRat 1 2)) g)):=fun hk2=>by
  obtain⟨_,lw,iw,hi,qi,qg,_⟩:=yes hk2;have li:=Go.Proofs.YtgalhjhdgkoemaaGreat.jr hi;refine⟨_,rfl,((wO hX1 hX W' D' lw iw).1 i hi).rows,?_,(fM fT W'.tk W'q (by decide) hX1 lh ae qh qg b8).rows,A4 _ _ (by rw[lw,ae];omega)⟩;exact(fM fT W'.tk W'q hX1 hX1 la2 li (hs.qb.drop _) qi (kX (h:=h) (S:=X+X) (by omega) (by omega))).rows.args ⟨.refl _,.cell cD,.refl _,trivial⟩
 have yes:k<2→∃g,r= .aJ [eV (w++aj h t (aX h (mkRat 1 2)) g),.one (.bool true)]∧Pr Tryz.prog 152 [tV h t,eV (aj h t (aX h (mkRat 1 2)) (aC (a.take (2^h)) (mE m k)))] (.aJ [eV w,.one (.bool true)])∧
   Pr Tryz.prog 49 [tV h t,eV w] (.aJ [eV i,.one (.int .i64 0)])∧Pr Tryz.prog 47 [tV h t,.one (ba a (2^h)),eV i] (eV g)∧
   Pr Tryz.prog 47 [tV h t,eV (aX h (mkRat 1 2)),eV g] (eV (aj h t (aX h (mkRat 1 2)) g))∧Pr Tryz.prog 195 [eV w,eV (aj h t (aX h (mkRat 1 2)) g)] (eV (w++aj h t (aX h (mkRat 1 2)) g)):=fun hk2=>by
  obtain⟨g,hg,f1,f2,f3,f4⟩:=fn hk2;obtain⟨y1,_,_,_,_,_,y2⟩:=yes hk2;exact⟨g,by rw[hg];exact y1,y2,f1,f2,f3,f4⟩
 obtain⟨two,htwo⟩:∃x,x=aX h (mkRat 1 2):=⟨_,rfl⟩;obtain⟨u,hu⟩:∃u,u=a.take (2^h):=⟨_,rfl⟩;rw[←htwo]at hf mh no yes;rw[←hu]at ad mh no yes;obtain⟨n,hnn⟩:∃n,n=2^h:=⟨_,rfl⟩;have ha2:a.length=2*n:=by rw[ha,Nat.pow_succ,hnn];omega
 have w1:IntKind.i64.wrap (((h+1:Nat):Int)-1)=(h:Int):=by rw[IntWalk.i64_in _ (by omega)];omega
 have hn8:n≤8:=by omega
 have w2:IntKind.i64.wrap (((a.length:Nat):Int).tdiv 2)=(n:Int):=by
  rw[ha2,Int.tdiv_eq_ediv_of_nonneg (by omega),IntWalk.i64_in _ (by omega)];omega
 have w4:((a.length:Int)-(n:Int)).toNat=a.length-n:=by omega
 obtain⟨sgn',hsg⟩:∃s,s=bn (h+1) t a:=⟨_,rfl⟩;obtain⟨r0,hrr⟩:∃r,r=t.getD h []:=⟨_,rfl⟩;obtain⟨zn,hzn⟩:∃z,z=zE (2^h):=⟨_,rfl⟩;rw[←hzn]at fz lz;rw[←hsg]at sg hsn;rw[←hrr]at m3;rw[←hnn]at z m1 m2 hp lz ad yes;clear hv hnn hzn cT cD hn ha hs W W' W'q hr0 hrq la1 la2 b1 b2 hge g1 g2 g3 q1 q2 q3 he hp1 hp2 hp3 fn qh lh lmj qmj b8 D' lm qm qx htwo hu;refine pw Tryz.func152 ⟨[0,1,4,5,6,7,8,9,10,11,12,13,14,15,16,17,19,20,21,22,23,24,25,26,27,28,32,46,70,77,96,120,125,140],[(7,.nil),(9,.nil)]⟩ ?_;simp only[Tryz.f152,Tryz.ntmps152,iz,seval];simp only[vx,T,seval,tV,tC,eV,ag,bf,ba,QV,QC,GC,w1,w2,w4,←hrr];refine⟨fun h=>absurd h (by omega),fun _=>Lg ?_⟩;simp only[vx,T,seval,tV,tC,eV,ag,bf,ba,QV,QC,GC,w1,w2,w4,←hrr];refine Cg sg ?_;simp only[vx,T,seval,tV,tC,eV,ag,bf,ba,QV,QC,GC,w1,w2,w4,←hrr];refine⟨fun h=>absurd h (by omega),fun _=>Lg ?_⟩;simp only[vx,T,seval,tV,tC,eV,ag,bf,ba,QV,QC,GC,w1,w2,w4,←hrr];refine⟨⟨by omega,by omega⟩,⟨by omega,by omega⟩,⟨by omega,by omega⟩,⟨by omega,by omega,by omega⟩,Cg o0 ?_⟩;simp only[vx,T,seval,tV,tC,eV,ag,bf,ba,QV,QC,GC,w1,w2,w4,←hrr];refine Cg fz ?_;simp only[vx,T,seval,tV,tC,eV,ag,bf,ba,QV,QC,GC,w1,w2,w4,←hrr];refine Cg z ?_;simp only[vx,T,seval,tV,tC,eV,ag,bf,ba,QV,QC,GC,w1,w2,w4,←hrr];refine Cg m1 ?_;simp only[vx,T,seval,tV,tC,eV,ag,bf,ba,QV,QC,GC,w1,w2,w4,←hrr];refine Cg m2 ?_;simp only[vx,T,seval,tV,tC,eV,ag,bf,ba,QV,QC,GC,w1,w2,w4,←hrr];refine Cg m3 ?_;simp only[vx,T,seval,tV,tC,eV,ag,bf,ba,QV,QC,GC,w1,w2,w4,←hrr];refine Cg sb ?_;simp only[vx,T,seval,tV,tC,eV,ag,bf,ba,QV,QC,GC,w1,w2,w4,←hrr];refine Cg c ?_;simp only[vx,T,seval,tV,tC,eV,ag,bf,ba,QV,QC,GC,w1,w2,w4,←hrr];refine Cg fr ?_;simp only[vx,T,seval,tV,tC,eV,ag,bf,ba,QV,QC,GC,w1,w2,w4,←hrr];refine Cg hf ?_;simp only[vx,T,seval,tV,tC,eV,ag,bf,ba,QV,QC,GC,w1,w2,w4,←hrr];refine Lk (fun y:{j:Nat//j≤k}=>⟨[(4,.one .nil),(5,.one (.bool false)),(9,tV h t),(12,.one (bf a n)),(13,.one (ba a n)),(22,eV (mE m y.1)),(24,eV two),(25,.one (.int .i64 y.1))],[],2,159⟩) (fun y=>k-y.1) ⟨0,Nat.zero_le _⟩ ?_ (fun⟨j,hj⟩=>?_)
 ·refine Sa ?_;simp only[ry,seval,rz,tV,tC,eV,ag,bf,ba,mE];exact fun _ _ _ _=>rfl
 simp only;have wi:IntKind.i64.wrap ((j:Int)+1)=((j+1:Nat):Int):=by rw[IntWalk.i64_in _ (by omega)];omega
 simp only[vx,T,seval,tV,tC,eV,ag,bf,ba,QV,QC,GC,w1,w2,w4,←hrr];refine⟨fun g=>Lg ?_,fun g=>Lg ?_⟩
 ·have NR:=ad j;have mhj:=mh j (by omega);have ngj:=ng j;have hnoj:=no j;obtain⟨mj,hmj⟩:∃x,x=mE m j:=⟨_,rfl⟩;obtain⟨mj',hmj'⟩:∃x,x=mE m (j+1):=⟨_,rfl⟩;rw[←hmj,←hmj']at ngj;rw[←hmj]at NR mhj hnoj⊢;obtain⟨x,hx⟩:∃x,x=aC u mj:=⟨_,rfl⟩;rw[←hx]at NR mhj hnoj;obtain⟨y,hy⟩:∃y,y=aj h t two x:=⟨_,rfl⟩;rw[←hy]at mhj hnoj
  by_cases hjk:j<k
  ·obtain⟨l,hl⟩:=hnoj hjk;simp only[vx,T,seval,tV,tC,eV,ag,bf,ba,QV,QC,GC,w1,w2,w4,wi];refine Cg NR ?_;simp only[vx,T,seval,tV,tC,eV,ag,bf,ba,QV,QC,GC,w1,w2,w4,wi];refine Cg mhj ?_;simp only[vx,T,seval,tV,tC,eV,ag,bf,ba,QV,QC,GC,w1,w2,w4,wi];refine Cg hl ?_;simp only[vx,T,seval,tV,tC,eV,ag,bf,ba,QV,QC,GC,w1,w2,w4,wi];refine Cg ngj ?_;simp only[vx,T,seval,tV,tC,eV,ag,bf,ba,QV,QC,GC,w1,w2,w4,wi];refine Lq ⟨j+1,by omega⟩ ?_ (by show k-(j+1)<k-j;omega);refine Sa ?_;simp only[ry,seval,rz,tV,tC,eV,ag,GC,bf,ba,←hmj']
  obtain rfl:j=k:=by omega
  obtain⟨g',hr,y1,y2,y3,y4,y5⟩:=yes (by omega);rw[←hmj,←hx,←hy]at y1;rw[hr];obtain⟨q,hq⟩:∃q,q=aj h t two g':=⟨_,rfl⟩;rw[←hq]at y4 y5⊢;simp only[vx,T,seval,tV,tC,eV,ag,bf,ba,QV,QC,GC,w1,w2,w4,wi];refine Cg NR ?_;simp only[vx,T,seval,tV,tC,eV,ag,bf,ba,QV,QC,GC,w1,w2,w4,wi];refine Cg mhj ?_;simp only[vx,T,seval,tV,tC,eV,ag,bf,ba,QV,QC,GC,w1,w2,w4,wi];refine Cg y1 ?_;simp only[vx,T,seval,tV,tC,eV,ag,bf,ba,QV,QC,GC,w1,w2,w4,wi];refine Cg y2 ?_;simp only[vx,T,seval,tV,tC,eV,ag,bf,ba,QV,QC,GC,w1,w2,w4,wi];refine Cg y3 ?_;simp only[vx,T,seval,tV,tC,eV,ag,bf,ba,QV,QC,GC,w1,w2,w4,wi];refine Cg y4 ?_;simp only[vx,T,seval,tV,tC,eV,ag,bf,ba,QV,QC,GC,w1,w2,w4,wi];refine Cg y5 ?_;simp only[vx,T,seval,tV,tC,eV,ag,bf,ba,QV,QC,GC,w1,w2,w4,wi];exact Ve rfl
 have hk2:k=2:=by omega
 rw[fin hk2];simp only[vx,T,seval,tV,tC,eV,ag,bf,ba,QV,QC,GC,w1,w2,w4,←hrr];exact Ve rfl
open Go Go.Eng
open Go.Tw (El aC aG zE aj au ar aq ae QB mS ai ah aL aF tB aX aD cg lU kP iH val In Rd nU bn cP dA FH TG lP dH)
theorem mg {h:Nat}{t:List El}(x:El):aj h t (aX h (mkRat 1 2)) x=aj h t x (aX h (mkRat 1 2)):=Go.Tw.wz _ _
theorem ID {h:Nat}{t:List El}{a:El}(H:Go.Tw.Rl h t)(ha:a.length=2^h)(hs:bn h t a<0):nU h t (val h t a):=by
 intro z _ e;rw[cP H ha]at hs;have h1:=R.Mg z;rw[e]at h1
 rcases R.dv (val h t a)with⟨k,k2⟩|⟨k,k2⟩|⟨k,k2⟩
 ·omega
 ·omega
 exact h1 k
theorem tD {X:Nat}(hX1:1≤X)(hX:X≤2^26){t:List El}:∀{h:Nat} {a:El},AS X h t→Rd h t→a.length=2^h→kP X h t a→Kg h t a 152
 |0,a,_,_,ha,hs=>ED ha (.of hs.qb (by omega))
 |h+1,a,W,D,ha,hs=>by
  have W':=W.le (Nat.le_succ h);have D':=D.le (Nat.le_succ h);have ih:=fun{b:El} (hb:b.length=2^h) (k:kP X h t b)=>tD hX1 hX (a:=b) W' D' hb k;have lz:(zE (2^h)).length=2^h:=au;obtain⟨s1,s2,s3⟩:=hs
  by_cases hsn:bn (h+1) t a<0
  ·exact .inr ⟨ID D.rl ha hsn,[],Nat.zero_le _,Fu (Ou hX1 hX W ha s1 hsn)⟩
  by_cases hv:a.drop (2^h)=zE (2^h)
  ·obtain⟨g1,g2,g3⟩:=s2 hv
   rcases ih (ai ha) g1 with⟨w,lw,ew,cw⟩|⟨n1,l,hl,c⟩
   ·obtain⟨k1,k2⟩:=Go.Tw.zU hv lw ew;exact .inl ⟨_,k1,k2,NC hX1 hX W ha s1 hsn hv lw cw⟩
   obtain⟨i,hi,_,_⟩:=Go.Tw.js D' (D.rl h (by omega)).1 (R.mr (D.rl h (by omega)).2);obtain⟨qi,sq⟩:=g3 i hi
   rcases ih ae sq with⟨w,lw,ew,cw⟩|⟨n2,p,hp,c2⟩
   ·obtain⟨k1,k2⟩:=Go.Tw.AG D.rl ha hv hi lw ew;exact .inl ⟨_,k1,k2,Nx hX1 hX W ha s1 hsn hv D' lw c g2 hi qi cw⟩
   exact .inr ⟨Go.Tw.AE D ha hv hi n1 n2,[],Nat.zero_le _,Fu (NF hX1 hX W ha s1 hsn hv D' c g2 hi qi c2)⟩
  obtain⟨g1,g2⟩:=s3 hv
  rcases ih aF g1 with⟨n,ln,en,cn⟩|⟨n1,l,hl,c⟩
  ·have lm:(aG n).length=2^h:=by rw[ar,ln]
   have em:val h t (aG n)*val h t (aG n)=val h t (aL h t a):=by rw[Go.Tw.val_neg ln,R.neg_mul,R.mul_neg,R.neg_neg,en]
   obtain⟨k1,k2,k3,k4⟩:=g2 n ln en;obtain⟨k1',k2',k3',k4'⟩:=g2 (aG n) lm em;rw[y8]at k3 k4 k3' k4';have qx:∀j,j<2→QB X (aC (a.take (2^h)) (mE n j)):=fun j hj=>by
    match j,hj with
    |0,_=>exact k2
    |1,_=>exact k2'
   have fin:∀{m w:El},m.length=2^h→val h t m*val h t m=val h t (aL h t a)→w.length=2^h→val h t w*val h t w=val h t (aj h t (aC (a.take (2^h)) m) (aX h (mkRat 1 2)))→
     ∃i,cg h t w=some i∧(w++aj h t (aX h (mkRat 1 2)) (aj h t (a.drop (2^h)) i)).length=2^(h+1)∧
      val (h+1) t (w++aj h t (aX h (mkRat 1 2)) (aj h t (a.drop (2^h)) i))*val (h+1) t (w++aj h t (aX h (mkRat 1 2)) (aj h t (a.drop (2^h)) i))=val (h+1) t a:=by
    intro m w lm em lw ew;have h0:=Go.Tw.xq D ha hv lm em ew;obtain⟨i,hi,li,vi⟩:=Go.Tw.js D' lw h0;refine⟨i,hi,Go.Tw.wJ D ha hv lm em lw ew ae ?_⟩;rw[mg,Go.Tw.val_mul D'.rl ae aD,Go.Tw.b9,Go.Tw.val_mul D'.rl (ah ha) li,R.mul_comm (val h t w),R.mul_assoc,R.mul_comm (R.q _),←R.mul_assoc,R.mul_assoc (val h t (a.drop (2^h))),R.mul_comm (val h t i),vi,R.mul_one,R.nv]
   rcases ih ae k3 with⟨w,lw,ew,cw⟩|⟨n1,l1,_,c1⟩
   ·obtain⟨i,hi,f1,f2⟩:=fin ln en lw ew;obtain⟨_,m2,_,m4,_⟩:=k4 w lw ew;obtain⟨m5,m6⟩:=m4 i hi;exact .inl ⟨_,f1,f2,CG hX1 hX W ha s1 hsn hv D' (k:=0) (by omega) cn ln k1 qx (fun j hj=>absurd hj (Nat.not_lt_zero _)) (fun _=>⟨rfl,lw,m2,hi,m5,m6,by rw[mg];exact cw⟩) (fun e=>absurd e (by decide))⟩
   have no1:∀j,j<1→∃l:List (Nat→C),Pr Tryz.prog 152 [tV h t,eV (aj h t (aX h (mkRat 1 2)) (aC (a.take (2^h)) (mE n j)))] (.aJ [.one (GC l),.one (.bool false)]):=fun j hj=>by
    obtain rfl:j=0:=by omega
    rw[mg];exact⟨l1,c1⟩
   rcases ih ae k3' with⟨w,lw,ew,cw⟩|⟨n2,l2,_,c2⟩
   ·obtain⟨i,hi,f1,f2⟩:=fin lm em lw ew;obtain⟨_,m2,_,m4,_⟩:=k4' w lw ew;obtain⟨m5,m6⟩:=m4 i hi;exact .inl ⟨_,f1,f2,CG hX1 hX W ha s1 hsn hv D' (k:=1) (by omega) cn ln k1 qx no1 (fun _=>⟨rfl,lw,m2,hi,m5,m6,by rw[mg];exact cw⟩) (fun e=>absurd e (by decide))⟩
   refine .inr ⟨Go.Tw.wS D ha hv ln en n1 n2,[],Nat.zero_le _,Fu (CG (w:=[]) (i:=[]) hX1 hX W ha s1 hsn hv D' (k:=2) (by omega) cn ln k1 qx (fun j hj=>?_) (fun e=>absurd e (by decide)) (fun _=>rfl))⟩;rw[mg]
   match j,hj with
   |0,_=>exact⟨l1,c1⟩
   |1,_=>exact⟨l2,c2⟩
  exact .inr ⟨Go.Tw.vP D ha hv n1,[],Nat.zero_le _,Fu (Ms hX1 hX W ha s1 hsn hv c)⟩
open Go Go.Eng
open Go.Tw (El aC aG zE au ar QB kP iH val In FH Rd nU TG lP bn dH cP dA)
section
variable {X h:Nat}(hX1:1≤X)(hX:X≤2^26){t:List El}{a:El}
include hX1 hX
theorem Ao {w:El}(W:GQ X h t)(hw:w.length=2^h)(sw:iH X h t w)(c:Pr Tryz.prog 152 [tV h t,eV a] (.aJ [eV w,.one (.bool true)])):
  Pr Tryz.prog 155 [tV h t,eV a] (.aJ [eV (if bn h t w<0 then aG w else w),.one (.bool true)]):=by
 have h3:=W.rq.tq.h3;have hp:2^h≤8:=Nat.pow_le_pow_right (n:=2) (by decide) (show h≤3 by omega);have s:=lC hX1 hX W.rq hw sw;have n:=(zx (h:=h) (t:=t) w (by omega) (.of sw.qb (by omega))).rows;refine pw Tryz.func155 ⟨[0,1,4,5,6,7,15,19],[]⟩ ?_;simp only[Tryz.f155,Tryz.ntmps155,iz,seval];simp only[vx,T,seval,tV,tC,eV,ag];refine Cg c ?_;simp only[vx,T,seval,tV,tC,eV,ag];refine Cg s ?_;simp only[vx,T,seval,tV,tC,eV,ag];refine⟨fun g=>Lg ?_,fun g=>Lg ?_⟩
 ·rw[if_pos g];simp only[vx,T,seval,tV,tC,eV,ag];refine Cg n ?_;simp only[vx,T,seval,tV,tC,eV,ag];exact Ve rfl
 rw[if_neg g];simp only[vx,T,seval,tV,tC,eV,ag];exact Ve rfl
omit hX1 hX in
theorem zF {l:List (Nat→C)}(c:Pr Tryz.prog 152 [tV h t,eV a] (.aJ [.one (GC l),.one (.bool false)])):
  Pr Tryz.prog 155 [tV h t,eV a] (.aJ [.one .nil,.one (.bool false)]):=by
 refine pw Tryz.func155 ⟨[0,1,4,5,6,7,15,19],[]⟩ ?_;simp only[Tryz.f155,Tryz.ntmps155,iz,seval];simp only[vx,T,seval,tV,tC,eV,ag];refine Cg c ?_;simp only[vx,T,seval,tV,tC,eV,ag,GC];exact Ve rfl
theorem Mx (W:GQ X h t)(ha:a.length=2^h)(hB:FH X h t a):
  (∃w,w.length=2^h∧val h t w=R.sqrt (val h t a)∧Pr Tryz.prog 155 [tV h t,eV a] (.aJ [eV w,.one (.bool true)]))∨
  (nU h t (val h t a)∧Pr Tryz.prog 155 [tV h t,eV a] (.aJ [.one .nil,.one (.bool false)])):=by
 rcases tD hX1 hX W.rq W.rd ha hB.sq with⟨b,lb,eb,cb⟩|⟨no,l,_,c⟩
 ·refine .inl ⟨_,?_,?_,Ao hX1 hX W lb (hB.rt b lb eb) cb⟩
  ·split
   ·rw[ar,lb]
   exact lb
  have e:=cP W.rd.rl lb;have nn:∀x,x=val h t b∨x= -val h t b→R.nn x→x=R.sqrt (val h t a):=by
   intro x hx hn;rw[←eb]
   rcases hx with rfl|rfl
   ·exact(R.pR hn).symm
   rw[show val h t b*val h t b= -val h t b* -val h t b by rw[R.neg_mul,R.mul_neg,R.neg_neg]];exact(R.pR hn).symm
  split
  ·rename_i g
   rw[Go.Tw.val_neg lb];refine nn _ (.inr rfl) ?_
   rcases R.dv (val h t b)with⟨k,k2⟩|⟨k,k2⟩|⟨k,k2⟩
   ·rw[k,R.kj];exact R.bG.2 (.inl rfl)
   ·omega
   exact R.bG.2 (.inr k)
  rename_i g
  refine nn _ (.inl rfl) ?_
  rcases R.dv (val h t b)with⟨k,k2⟩|⟨k,k2⟩|⟨k,k2⟩
  ·rw[k];exact R.bG.2 (.inl rfl)
  ·exact R.bG.2 (.inr k)
  omega
 exact .inr ⟨no,zF c⟩
theorem Eb (W:GQ X h t):Pr Tryz.prog 103 [tV h t] (.one (.bool true)):=by
 have h3:=W.rq.tq.h3;have f:∀i,i<h→Pr Tryz.prog 104 [tV i t,eV (t.getD i [])] (.one (.bool true)):=fun i hi=>sY (W.rq.tq.tk.le (by omega)) _ (W.rd.rl i hi).1 (W.rq.tq.tk.q i hi);have s:∀i,i<h→Pr Tryz.prog 151 [tV i t,eV (t.getD i [])] (.one (.int .i64 1)):=fun i hi=>by
  have c:=lC hX1 hX (W.rq.le (show i≤h by omega)) (W.rd.rl i hi).1 (W.sq i hi).sg
  rwa [cP (W.rd.rl.le (by omega)) (W.rd.rl i hi).1,R.gQ (W.rd.rl i hi).2]at c
 have q:∀i,i<h→∃l,Pr Tryz.prog 152 [tV i t,eV (t.getD i [])] (.aJ [.one (GC l),.one (.bool false)]):=fun i hi=>by
  rcases tD hX1 hX (W.rq.le (show i≤h by omega)) (W.rd.le (by omega)) (W.rd.rl i hi).1 (W.sq i hi)with⟨b,lb,eb,_⟩|⟨_,l,_,c⟩
  ·exact absurd eb (W.rd.ns i hi _ (.of lb))
  exact⟨l,c⟩
 refine pw Tryz.func103 ⟨[0,2,3,5,9,31,43],[(6,.nil)]⟩ ?_;simp only[Tryz.f103,Tryz.ntmps103,iz,seval];simp only[vx,T,seval,tV,tC,ag];refine Lk (fun y:{i:Nat//i≤h}=>⟨[(0,tV h t),(2,.one (.bool false)),(3,.one (.int .i64 y.1))],[],1,44⟩) (fun y=>h-y.1) ⟨0,Nat.zero_le _⟩ ?_ (fun⟨i,hi⟩=>?_)
 ·refine Sa ?_;simp only[ry,seval,rz,tV,tC,ag]
 simp only;have wi:IntKind.i64.wrap ((i:Int)+1)=((i+1:Nat):Int):=by rw[IntWalk.i64_in _ (by omega)];omega
 simp only[vx,T,seval,tV,tC,ag];refine⟨fun k=>Lg ?_,fun k=>Lg ?_⟩
 ·have hlt:i<h:=by omega
  have fi:=f i hlt;have si:=s i hlt;obtain⟨l,qi⟩:=q i hlt;obtain⟨r,hr⟩:∃r,r=t.getD i []:=⟨_,rfl⟩;rw[←hr]at fi si qi;simp only[vx,T,seval,tV,tC,ag,←hr];refine⟨⟨by omega,by omega⟩,⟨by omega,by omega⟩,Cg fi ?_⟩;simp only[vx,T,seval,tV,tC,ag,←hr];refine⟨⟨by omega,by omega⟩,⟨by omega,by omega⟩,Cg si ?_⟩;simp only[vx,T,seval,tV,tC,ag,←hr];refine⟨⟨by omega,by omega⟩,⟨by omega,by omega⟩,Cg qi ?_⟩;simp only[vx,T,seval,tV,tC,ag,GC,wi];refine Lq ⟨i+1,by omega⟩ ?_ (by show h-(i+1)<h-i;omega);refine Sa ?_;simp only[ry,seval,rz,tV,tC,ag]
 simp only[vx,T,seval,tV,tC,ag];exact Ve rfl
end
section
variable {A:List R}(S:Go.Tw.Src 64 A)(hA:A.length≤3){t:List El}{a:El}
include S hA
theorem Hm (G:TG A t)(ha:a.length=2^t.length)(hn:R.nn (val t.length t a))(hB:FH lP t.length t a):
  (∃w,w.length=2^t.length∧val t.length t w=R.sqrt (val t.length t a)∧Pr Tryz.prog 105 [tV t.length t,eV a] (.aJ [tV t.length t,eV w,.one (.int .i64 0)]))∨
  (nU t.length t (val t.length t a)∧Pr Tryz.prog 105 [tV t.length t,eV a] (.aJ [tV (t.length+1) (t++[a]),eV (dH t.length),.one (.int .i64 0)])):=by
 have W:=DT S hA G (Nat.le_refl _);have hX1:1≤lP:=by decide
 have hX:lP≤2^26:=by decide
 have h3:=W.rq.tq.h3;have sg:=lC hX1 hX W.rq ha hB.sq.sg;have hs:¬bn t.length t a<0:=by
  rw[cP W.rd.rl ha]
  rcases R.dv (val t.length t a)with⟨k,k2⟩|⟨k,k2⟩|⟨k,k2⟩
  ·omega
  ·omega
  exact absurd k hn
 have ro:=MT (h:=t.length) (U:=t++[a]) (by omega);obtain⟨n,hnn⟩:∃n,n=t.length:=⟨_,rfl⟩
 rcases Mx hX1 hX W ha hB with⟨w,lw,ew,cw⟩|⟨no,c⟩
 ·refine .inl ⟨w,lw,ew,?_⟩;rw[←hnn]at sg cw hs⊢;refine pw Tryz.func105 ⟨[0,1,4,5,6,7,8,9,13,20,25],[]⟩ ?_;simp only[Tryz.f105,Tryz.ntmps105,iz,seval];simp only[vx,T,seval,tV,tC,eV,ag];refine Cg sg ?_;simp only[vx,T,seval,tV,tC,eV,ag];refine⟨fun h=>absurd h hs,fun _=>Lg ?_⟩;simp only[vx,T,seval,tV,tC,eV,ag];refine Cg cw ?_;simp only[vx,T,seval,tV,tC,eV,ag];exact Ve rfl
 refine .inr ⟨no,?_⟩;obtain⟨u,hu⟩:∃u,u=t++[a]:=⟨_,rfl⟩;have eu:∀i j,i<n+1→j<1→(if i<n then(if i<0 then([]:List C).getD (i*1+j) .any else ag (t.getD (i-0) []))else[ag a].getD ((i-n)*1+j) .any)=ag (u.getD i []):=fun i j hi hj=>by
  obtain rfl:j=0:=by omega
  rw[hnn,hu,if_neg (Nat.not_lt_zero i),Nat.sub_zero]
  by_cases h:i<t.length
  ·rw[if_pos h,Go.Tw.dr h]
  obtain rfl:i=t.length:=by omega
  rw[if_neg h,Go.Tw.gg,Nat.sub_self];rfl
 rw[←hu]at ro⊢;rw[←hnn]at sg c ro hs h3⊢;refine pw Tryz.func105 ⟨[0,1,4,5,6,7,8,9,13,20,25],[]⟩ ?_;simp only[Tryz.f105,Tryz.ntmps105,iz,seval];simp only[vx,T,seval,tV,tC,eV,ag];refine Cg sg ?_;simp only[vx,T,seval,tV,tC,eV,ag];refine⟨fun h=>absurd h hs,fun _=>Lg ?_⟩;simp only[vx,T,seval,tV,tC,eV,ag];refine Cg c ?_;simp only[vx,T,seval,tV,tC,eV,ag];refine⟨fun h=>absurd h (by omega),fun _=>Lg ?_⟩;simp only[vx,T,seval,tV,tC,eV,ag];refine⟨⟨by omega,by omega⟩,⟨by omega,by omega⟩,Cg (ro.args ⟨.cell (.rows rfl fun i j hi hj=>.of_eq (eu i j hi hj)),.refl _,trivial⟩) ?_⟩;simp only[vx,T,seval,tV,tC,eV,ag];exact jJ.aJ ⟨.cell (.rows rfl fun i j hi hj=>.of_eq (eu i j hi hj)),.refl _,.refl _,trivial⟩
theorem uS (G:TG A t)(ha:a.length=2^t.length)(hn:R.nn (val t.length t a))(hB:FH lP t.length t a):
  (∃w,w.length=2^t.length∧val t.length t w=R.sqrt (val t.length t a)∧Pr Tryz.prog 52 [tV t.length t,eV a] (.aJ [tV t.length t,eV w,.one (.int .i64 0)]))∨
  (nU t.length t (val t.length t a)∧Pr Tryz.prog 52 [tV t.length t,eV a] (.aJ [tV (t.length+1) (t++[a]),eV (dH t.length),.one (.int .i64 0)])):=by
 have W:=DT S hA G (Nat.le_refl _);have hX1:1≤lP:=by decide
 have hX:lP≤2^26:=by decide
 have f:=sY W.rq.tq.tk a ha (.of hB.sq.qb (by omega));have rd:=Eb hX1 hX W;have key:∀{m:Nat} {U:List El} {w:El},Pr Tryz.prog 105 [tV t.length t,eV a] (.aJ [tV m U,eV w,.one (.int .i64 0)])→Pr Tryz.prog 52 [tV t.length t,eV a] (.aJ [tV m U,eV w,.one (.int .i64 0)]):=by
  intro m U w c;refine pw Tryz.func52 ⟨[0,1,4,5,6,15],[]⟩ ?_;simp only[Tryz.f52,Tryz.ntmps52,iz,seval];simp only[vx,T,seval,tV,tC,eV,ag];refine Cg rd ?_;simp only[vx,T,seval,tV,tC,eV,ag];refine Cg f ?_;simp only[vx,T,seval,tV,tC,eV,ag];refine Cg c ?_;simp only[vx,T,seval,tV,tC,eV,ag];exact Ve rfl
 rcases Hm S hA G ha hn hB with⟨w,lw,ew,cw⟩|⟨no,c⟩
 ·exact .inl ⟨w,lw,ew,key cw⟩
 exact .inr ⟨no,key c⟩
end
open Go Go.Eng
open Go.Tw (El aC aG zE aj au QB mS tB val In Rd nU TG cB bL bc aY)
theorem M7 (a b:El)(hl:a.length<2^38)(ha:Qk a)(hb:Qk b):Pr Tryz.prog 187 [eV a,eV b] (.one (.bool (decide (a=b)))):=by
 refine pw Tryz.func187 ⟨[0,1,4,5,10,14,26],[]⟩ ?_;simp only[Tryz.f187,Tryz.ntmps187,iz,seval];simp only[vx,T,seval,eV,ag];refine⟨fun h=>Lg ?_,fun h=>Lg ?_⟩
 ·rw[show decide (a=b)=false from decide_eq_false fun e=>h (by rw[e])];simp only[vx,T,seval,eV,ag];exact Ve rfl
 have hlen:a.length=b.length:=by omega
 simp only[vx,T,seval,eV,ag];refine Lk (fun y:{i:Nat//i≤a.length∧∀j,j<i→a.getD j default=b.getD j default}=>⟨[(0,eV a),(1,eV b),(4,.one (.bool false)),(5,.one (.int .i64 y.1))],[],2,27⟩) (fun y=>a.length-y.1) ⟨0,Nat.zero_le _,fun j hj=>absurd hj (Nat.not_lt_zero _)⟩ ?_ (fun⟨i,hi,hz⟩=>?_)
 ·refine Sa ?_;simp only[ry,seval,rz,eV,ag]
 have i1:=wI i (by omega);simp only[vx,T,seval,eV,ag];refine⟨fun g=>Lg ?_,fun g=>Lg ?_⟩
 ·have hil:i<a.length:=by omega
  have c:=CM _ _ (ha.get i) (hb.get i);have key:a.getD i default≠b.getD i default→decide (a=b)=false:=fun h=>decide_eq_false fun e=>h (by rw[e]);have hnx:a.getD i default=b.getD i default→∀j,j<i+1→a.getD j default=b.getD j default:=fun h0 j hj=>by
   by_cases hji:j<i
   ·exact hz j hji
   obtain rfl:j=i:=by omega
   exact h0
  obtain⟨x,hx⟩:∃x,x=a.getD i default:=⟨_,rfl⟩;obtain⟨y,hy⟩:∃y,y=b.getD i default:=⟨_,rfl⟩;rw[←hx,←hy]at c key hnx;simp only[vx,T,seval,eV,ag,←hx,←hy,qC];refine⟨by omega,by omega,Cg c ?_⟩;simp only[vx,T,seval,eV,ag];refine⟨fun h=>Lg ?_,fun h=>Lg ?_⟩
  ·rw[key fun e=>h (w9.2 e)];simp only[vx,T,seval,eV,ag];exact Ve rfl
  have e:x=y:=w9.1 (by omega);simp only[vx,T,seval,eV,ag,i1];refine Lq ⟨i+1,by omega,hnx e⟩ ?_ (by show a.length-(i+1)<a.length-i;omega);refine Sa ?_;simp only[ry,seval,rz,eV,ag]
 have hil:i=a.length:=by omega
 subst hil;have e:a=b:=by
  refine List.ext_getElem hlen fun j h1 h2=>?_
  have:=hz j h1
  rwa [eT h1,eT h2]at this
 rw[decide_eq_true e];simp only[vx,T,seval,eV,ag];exact Ve rfl
theorem pn {h k:Nat}{t u:List El}(tk:Tk h t)(uk:Tk k u):Pr Tryz.prog 142 [tV h t,tV k u] (.one (.bool (fk h k t u))):=by
 have h8:=tk.le8;have k8:=uk.le8;refine pw Tryz.func142 ⟨[0,1,4,5,10,14,26],[]⟩ ?_;simp only[Tryz.f142,Tryz.ntmps142,iz,seval];simp only[vx,T,seval,tV,tC];refine⟨fun g=>Lg ?_,fun g=>Lg ?_⟩
 ·rw[show fk h k t u=false by unfold fk;rw[decide_eq_false (by omega:¬k≤h)];rfl];simp only[vx,T,seval,tV,tC];exact Ve rfl
 have hkh:k≤h:=by omega
 simp only[vx,T,seval,tV,tC];refine Lk (fun y:{i:Nat//i≤k∧∀j,j<i→t.getD j []=u.getD j []}=>⟨[(0,tV h t),(1,tV k u),(4,.one (.bool false)),(5,.one (.int .i64 y.1))],[],2,27⟩) (fun y=>k-y.1) ⟨0,Nat.zero_le _,fun j hj=>absurd hj (Nat.not_lt_zero _)⟩ ?_ (fun⟨i,hi,hz⟩=>?_)
 ·refine Sa ?_;simp only[ry,seval,rz,tV,tC]
 have i1:=wI i (by omega);simp only[vx,T,seval,tV,tC];refine⟨fun g2=>Lg ?_,fun g2=>Lg ?_⟩
 ·have hik:i<k:=by omega
  have c:=M7 (t.getD i []) (u.getD i []) (by rw[tk.len i (by omega)];exact aO (by omega)) (tk.q i (by omega)) (uk.q i hik);have key:t.getD i []≠u.getD i []→fk h k t u=false:=fun h0=>by
   unfold fk;rw[Bool.and_eq_false_iff]
   right
   rw[List.all_eq_false];exact⟨i,List.mem_range.2 hik,by simpa using h0⟩
  have hnx:t.getD i []=u.getD i []→∀j,j<i+1→t.getD j []=u.getD j []:=fun h0 j hj=>by
   by_cases hji:j<i
   ·exact hz j hji
   obtain rfl:j=i:=by omega
   exact h0
  obtain⟨x,hx⟩:∃x,x=t.getD i []:=⟨_,rfl⟩;obtain⟨y,hy⟩:∃y,y=u.getD i []:=⟨_,rfl⟩;rw[←hx,←hy]at c key hnx
  by_cases e:x=y
  ·rw[decide_eq_true e]at c;simp only[vx,T,seval,tV,tC,ag,←hx,←hy];refine⟨by omega,by omega,Cg c ?_⟩;simp only[vx,T,seval,tV,tC,i1];refine Lq ⟨i+1,by omega,hnx e⟩ ?_ (by show k-(i+1)<k-i;omega);refine Sa ?_;simp only[ry,seval,rz,tV,tC]
  rw[decide_eq_false e]at c;rw[key e];simp only[vx,T,seval,tV,tC,ag,←hx,←hy];refine⟨by omega,by omega,Cg c ?_⟩;simp only[vx,T,seval,tV,tC];exact Ve rfl
 have hik:i=k:=by omega
 subst hik;rw[show fk h i t u=true by
  unfold fk;rw[decide_eq_true hkh,Bool.true_and,List.all_eq_true];exact fun j hj=>decide_eq_true (hz j (List.mem_range.1 hj))]
 simp only[vx,T,seval,tV,tC];exact Ve rfl
theorem xu {h:Nat}{t:List El}{a:El}(hh:h≤8)(hl:a.length≤2^h):Pr Tryz.prog 144 [tV h t,eV a] (eV (cB h a)):=by
 have hp:=aO hh;have z:=aS 0 (by decide) (by decide);have hs:=dJ (h:=h) hh;have e:cB h a=a++zE (2^h-a.length):=rfl;rw[e];obtain⟨N,hN⟩:∃N,N=2^h:=⟨_,rfl⟩;rw[←hN]at hs hl hp⊢;refine pw Tryz.func144 ⟨[0,1,4,5,14],[]⟩ ?_;simp only[Tryz.f144,Tryz.ntmps144,iz,seval];simp only[vx,T,seval,tV,tC,eV,ag];refine⟨⟨by omega,by omega⟩,?_⟩;refine Lk (fun y:{k:Nat//a.length+k≤N}=>⟨[(0,tV h t),(4,.one .nil),(5,.one (.own 1 4 0 (a.length+y.1)))],[(1,⟨.rows 57 4 (a.length+y.1) (fQ (a++zE y.1)),true⟩)],2,20⟩) (fun y=>N-(a.length+y.1)) ⟨0,by omega⟩ ?_ (fun⟨k,hk⟩=>?_)
 ·refine Sa ?_;simp only[ry,seval,rz,tV,tC,eV,ag];exact fun i j _ _=>by rw[show a++zE 0=a from List.append_nil a,if_neg (Nat.not_lt_zero _),Nat.sub_zero];rfl
 simp only;simp only[vx,T,seval,tV,tC,eV,ag,hs];refine⟨by omega,?_⟩;refine⟨fun g=>Lg ?_,fun g=>Lg ?_⟩
 ·simp only[vx,T,seval,tV,tC,eV,ag,hs];refine Cg z ?_;simp only[vx,T,seval,tV,tC,eV,ag,hs,QV,QC];refine⟨⟨by omega,by omega⟩,Lq ⟨k+1,by omega⟩ ?_ (by show N-(a.length+(k+1))<N-(a.length+k);omega)⟩;refine Sa ?_;simp only[ry,seval,rz,tV,tC,eV,ag,hs];exact⟨by omega,by omega,by rw[DY];exact LM (by rw[X6,au])⟩
 simp only[vx,T,seval,tV,tC,eV,ag,hs];have ek:k=N-a.length:=by omega
 rw[←ek];exact jJ.cell (dg.rows (by rw[X6,au]) fun i j _ _=>.refl _)
open Go Go.Eng
open Go.Tw (El aC aG zE aj au ar aq ae QB mS ai ah tB aX aD val In Rd TG cB bL bc aY Ext nU)
theorem GH {B Y Z H:Nat}{U rs:List El}{N:Nat}{a:El}(hN:rs.length=N)(I:FG B Y Z H 0 U rs)(ha:a.length=2^0)(hq:QB B a):Pr Tryz.prog 145 [tV H U,tV N rs,eV a] (eV (bc H U rs 0 a)):=by
 obtain⟨x,rfl⟩:=Go.Tw.bD ha;have hB:=I.hB;have hx:qm x≤B:=hq x (by simp);have f:=(dL (h:=H) (t:=U) I.tq.tk.le8 x).rows;have e:bc H U rs 0 [x]=aX H x:=rfl;rw[e];refine pw Tryz.func145 ⟨[0,1,2,6,7,8,9,10,13,27],[]⟩ ?_;simp only[Tryz.f145,Tryz.ntmps145,iz,seval];simp only[vx,T,seval,tV,tC,eV,ag,QV,QC,qC,X0];refine Cg f ?_;simp only[vx,T,seval,tV,tC,eV,ag,QV,QC,qC,X0];exact Ve rfl
theorem yb {B Y Z H:Nat}{U rs:List El}{N:Nat}(hN:rs.length=N):∀{k:Nat} {a:El},FG B Y Z H k U rs→k≤rs.length→k≤8→a.length=2^k→QB B a→Pr Tryz.prog 145 [tV H U,tV N rs,eV a] (eV (bc H U rs k a))
 |0,a,I,_,_,ha,hq=>GH hN I ha hq
 |k+1,a,I,hkr,hk8,ha,hq=>by
  have I':=I.le (Nat.le_succ k);have la1:=ai ha;have la2:=ah ha;have c1:=yb hN I' (by omega) (by omega) la1 (hq.take _);have c2:=yb hN I' (by omega) (by omega) la2 (hq.drop _);have hB:=I.hB;have h3:=I.tq.h3;have hp:=aO (h:=k+1) hk8;have hH:2^H≤8:=Nat.pow_le_pow_right (n:=2) (by decide) h3;have hn:(2^k:Nat)≤a.length:=by rw[ha,Nat.pow_succ];omega
  have cT:=ff hn;have cD:=eK (a:=a) (n:=2^k);have c1:=c1.args (xs:=[tV H U,tV N rs,.one (bf a (2^k))]) ⟨.refl _,.refl _,.cell cT,trivial⟩;have c2:=c2.args (xs:=[tV H U,tV N rs,.one (ba a (2^k))]) ⟨.refl _,.refl _,.cell cD,trivial⟩;have hg:∀i,i≤k→(IntKind.i64.wrap (1*2^(if i≤63 then i+1 else 64))<((a.length:Nat):Int)↔i<k):=fun i hi=>by
   have hs:=dJ (h:=i+1) (by omega);rw[if_pos (by omega)]at hs⊢;rw[hs,ha]
   constructor
   ·intro h;refine Nat.lt_of_not_le fun h2=>?_
    have:=Nat.pow_le_pow_right (n:=2) (by decide) (show k+1≤i+1 by omega)
    omega
   intro h
   have:=Nat.pow_lt_pow_right (a:=2) (by decide) (show i+1<k+1 by omega)
   omega
  obtain⟨n,hnn⟩:∃n,n=2^k:=⟨_,rfl⟩;have ha2:a.length=2*n:=by rw[ha,Nat.pow_succ,hnn];omega
  have w2:IntKind.i64.wrap (((a.length:Nat):Int).tdiv 2)=(n:Int):=by
   rw[ha2,Int.tdiv_eq_ediv_of_nonneg (by omega),IntWalk.i64_in _ (by omega)];omega
  have w4:((a.length:Int)-(n:Int)).toNat=a.length-n:=by omega
  have hne:¬((a.length:Nat):Int)=1:=by
   have:=Nat.two_pow_pos k
   omega
  refine pw Tryz.func145 ⟨[0,1,2,6,7,8,9,10,13,27],[]⟩ ?_;simp only[Tryz.f145,Tryz.ntmps145,iz,seval];simp only[vx,T,seval,tV,tC,eV,ag,bf,ba,QV,QC,w2,w4];refine⟨fun h=>absurd h hne,fun _=>Lg ?_⟩;simp only[vx,T,seval,tV,tC,eV,ag,bf,ba,QV,QC,w2,w4];refine Lk (fun y:{i:Nat//i≤k}=>⟨[(0,tV H U),(1,tV N rs),(2,eV a),(6,.one .nil),(7,.one (.int .i64 n)),(8,.one (.int .i64 y.1))],[],1,54⟩) (fun y=>k-y.1) ⟨0,Nat.zero_le _⟩ ?_ (fun⟨i,hi⟩=>?_)
  ·refine Sa ?_;simp only[ry,seval,rz,tV,tC,eV,ag]
  simp only;have hgi:=hg i hi;have wi:IntKind.i64.wrap ((i:Int)+1)=((i+1:Nat):Int):=by rw[IntWalk.i64_in _ (by omega)];omega
  simp only[vx,T,seval,tV,tC,eV,ag,bf,ba,QV,QC,w2,w4,wi];refine⟨by omega,?_⟩;refine⟨fun g=>Lg ?_,fun g=>Lg ?_⟩
  ·have hik:=hgi.1 g;simp only[vx,T,seval,tV,tC,eV,ag,bf,ba,QV,QC,w2,w4,wi];refine Lq ⟨i+1,by omega⟩ ?_ (by show k-(i+1)<k-i;omega);refine Sa ?_;simp only[ry,seval,rz,tV,tC,eV,ag]
  have hik:i=k:=by
   have:¬i<k:=fun h=>g (hgi.2 h)
   omega
  subst hik;obtain⟨⟨m,hm,lr⟩,qr⟩:=I.r i (by omega);have q2:=I.y i (by omega) _ la2 (hq.drop _);have hlm:(rs.getD i []).length≤2^H:=by rw[lr];exact Nat.pow_le_pow_right (by decide) hm
  have pd:=xu (h:=H) (t:=U) (a:=rs.getD i []) (by omega) hlm;have mu:=(fM fT I.tq.tk I.tq.q I.hY I.hZ (aY (H:=H) (T:=U) (rs:=rs) (k:=i) (a:=a.drop (2^i))) (bL hlm) q2 (Go.Tw.QB.pad I.hZ qr) I.s).rows;have gm:=QB.mul (h:=H) (t:=U) fT I.tq.q I.hY I.hZ q2 (Go.Tw.QB.pad (H:=H) I.hZ qr);have hge:=Go.Tw.il (h:=H) (S:=Y+Z) (C:=tB);have hs:=I.s;have q1:=I.y i (by omega) _ la1 (hq.take _);have ad:=(tW (h:=H) (t:=U) (bc H U rs i (a.take (2^i))) _ (by rw[aY];omega) (by rw[ae,aY]) (.of q1 (by omega)) (.of gm hs)).rows;have er:bc H U rs (i+1) a=aC (bc H U rs i (a.take (2^i))) (aj H U (bc H U rs i (a.drop (2^i))) (cB H (rs.getD i []))):=rfl;rw[←er]at ad;obtain⟨r,hr⟩:∃r,r=bc H U rs (i+1) a:=⟨_,rfl⟩;obtain⟨x,hx⟩:∃x,x=bc H U rs i (a.take (2^i)):=⟨_,rfl⟩;obtain⟨y,hy⟩:∃y,y=bc H U rs i (a.drop (2^i)):=⟨_,rfl⟩;obtain⟨v,hv⟩:∃v,v=rs.getD i []:=⟨_,rfl⟩;obtain⟨p,hpp⟩:∃p,p=cB H v:=⟨_,rfl⟩;rw[←hr,←hx]at ad;rw[←hx]at c1;rw[←hy]at c2;rw[←hr];rw[←hv]at pd;rw[←hy,←hv,←hpp]at ad mu;rw[←hpp]at pd;obtain⟨z,hz⟩:∃z,z=aj H U y p:=⟨_,rfl⟩;rw[←hz]at ad mu;have hil:i<rs.length:=by omega
  rw[←hnn]at c1 c2;clear gm hge hs q1 q2 er hr hx hy hpp hz lr qr hlm hm la1 la2 hq;simp only[vx,T,seval,tV,tC,eV,ag,bf,ba,QV,QC,w2,w4,wi,←hv];refine⟨⟨by omega,by omega⟩,Cg c1 ?_⟩;simp only[vx,T,seval,tV,tC,eV,ag,bf,ba,QV,QC,w2,w4,wi,←hv];refine⟨⟨by omega,by omega,by omega⟩,Cg c2 ?_⟩;simp only[vx,T,seval,tV,tC,eV,ag,bf,ba,QV,QC,w2,w4,wi,←hv];refine⟨⟨by omega,by omega⟩,Cg pd ?_⟩;simp only[vx,T,seval,tV,tC,eV,ag,bf,ba,QV,QC,w2,w4,wi,←hv];refine Cg mu ?_;simp only[vx,T,seval,tV,tC,eV,ag,bf,ba,QV,QC,w2,w4,wi,←hv];refine Cg ad ?_;simp only[vx,T,seval,tV,tC,eV,ag,bf,ba,QV,QC,w2,w4,wi,←hv];exact Ve rfl
theorem Dq {P:Program}{fn:FuncId}{x y:V}{w n n':Nat}{f g:Nat→Nat→C}{B:Bk}{R:V→Bk→Prop}(h:Mc P fn [x,y,.one (.rows w n' g)] B R)(hc:dg (.rows w n f) (.rows w n' g)):Mc P fn [x,y,.one (.rows w n f)] B R:=
 ⟨h.1,fun ok W vs l h1 h2 h3 h4 hvs=>h.2 ok W vs l h1 h2 h3 h4 (by
  generalize vs.toList=ls at hvs⊢
  match ls,hvs with
  |[_,_,v2],⟨a,b,c,_⟩=>exact⟨a,b,hc ok W v2 c,trivial⟩)⟩
theorem Fx {B Y Z H:Nat}{U rs:List El}{N:Nat}{a:El}(hN:rs.length=N)(I:FG B Y Z H 0 U rs)(ha:a.length=2^0)(hq:QB B a):Mc Tryz.prog 145 [tV H U,.one (.own 0 1 0 N),eV a] (rB N rs) (Mh rs N (eV (bc H U rs 0 a))):=by
 obtain⟨x,rfl⟩:=Go.Tw.bD ha;have hB:=I.hB;have hx:qm x≤B:=hq x (by simp);have f:=(dL (h:=H) (t:=U) I.tq.tk.le8 x).rows;have e:bc H U rs 0 [x]=aX H x:=rfl;rw[e];refine mw Tryz.func145 ⟨[0,1,2,6,7,8,9,10,13,27],[(7,(.cons 5 [6,7,8,9,10] (.cons 11 [] (.cons 12 [] (.cons 13 [] .nil .nil) .nil) .nil) .nil))]⟩ ?_;simp only[Tryz.f145,Tryz.ntmps145,iz,seval];simp only[vx,T,seval,rB,tV,tC,eV,ag,QV,QC,qC,X0];refine Cg f ?_;simp only[vx,T,seval,rB,tV,tC,eV,ag,QV,QC,qC,X0];exact⟨rfl,rfl⟩
theorem tM {B Y Z H:Nat}{U rs:List El}{N:Nat}(hN:rs.length=N):∀{k:Nat} {a:El},FG B Y Z H k U rs→k≤rs.length→k≤8→a.length=2^k→QB B a→Mc Tryz.prog 145 [tV H U,.one (.own 0 1 0 N),eV a] (rB N rs) (Mh rs N (eV (bc H U rs k a)))
 |0,a,I,_,_,ha,hq=>Fx hN I ha hq
 |k+1,a,I,hkr,hk8,ha,hq=>by
  have I':=I.le (Nat.le_succ k);have la1:=ai ha;have la2:=ah ha;have c1:=tM hN I' (by omega) (by omega) la1 (hq.take _);have c2:=tM hN I' (by omega) (by omega) la2 (hq.drop _);have hB:=I.hB;have h3:=I.tq.h3;have hp:=aO (h:=k+1) hk8;have hH:2^H≤8:=Nat.pow_le_pow_right (n:=2) (by decide) h3;have hn:(2^k:Nat)≤a.length:=by rw[ha,Nat.pow_succ];omega
  have cT:=ff hn;have cD:=eK (a:=a) (n:=2^k);have c1:Mc Tryz.prog 145 [tV H U,.one (.own 0 1 0 N),.one (bf a (2^k))] (rB N rs) (Mh rs N (eV (bc H U rs k (a.take (2^k))))):=Dq c1 cT;have c2:Mc Tryz.prog 145 [tV H U,.one (.own 0 1 0 N),.one (ba a (2^k))] (rB N rs) (Mh rs N (eV (bc H U rs k (a.drop (2^k))))):=Dq c2 cD;have hg:∀i,i≤k→(IntKind.i64.wrap (1*2^(if i≤63 then i+1 else 64))<((a.length:Nat):Int)↔i<k):=fun i hi=>by
   have hs:=dJ (h:=i+1) (by omega);rw[if_pos (by omega)]at hs⊢;rw[hs,ha]
   constructor
   ·intro h;refine Nat.lt_of_not_le fun h2=>?_
    have:=Nat.pow_le_pow_right (n:=2) (by decide) (show k+1≤i+1 by omega)
    omega
   intro h
   have:=Nat.pow_lt_pow_right (a:=2) (by decide) (show i+1<k+1 by omega)
   omega
  obtain⟨n,hnn⟩:∃n,n=2^k:=⟨_,rfl⟩;have ha2:a.length=2*n:=by rw[ha,Nat.pow_succ,hnn];omega
  have w2:IntKind.i64.wrap (((a.length:Nat):Int).tdiv 2)=(n:Int):=by
   rw[ha2,Int.tdiv_eq_ediv_of_nonneg (by omega),IntWalk.i64_in _ (by omega)];omega
  have w4:((a.length:Int)-(n:Int)).toNat=a.length-n:=by omega
  have hne:¬((a.length:Nat):Int)=1:=by
   have:=Nat.two_pow_pos k
   omega
  refine mw Tryz.func145 ⟨[0,1,2,6,7,8,9,10,13,27],[(7,(.cons 5 [6,7,8,9,10] (.cons 11 [] (.cons 12 [] (.cons 13 [] .nil .nil) .nil) .nil) .nil))]⟩ ?_;simp only[Tryz.f145,Tryz.ntmps145,iz,seval];simp only[vx,T,seval,rB,tV,tC,eV,ag,bf,ba,QV,QC,w2,w4];refine⟨fun h=>absurd h hne,fun _=>Lg ?_⟩;simp only[vx,T,seval,rB,tV,tC,eV,ag,bf,ba,QV,QC,w2,w4];refine Lk (fun y:{i:Nat//i≤k}=>⟨[(0,tV H U),(1,.one (.own 0 1 0 N)),(2,eV a),(6,.one .nil),(7,.one (.int .i64 n)),(8,.one (.int .i64 y.1))],[(0,⟨rB N rs,true⟩)],1,54⟩) (fun y=>k-y.1) ⟨0,Nat.zero_le _⟩ ?_ (fun⟨i,hi⟩=>?_)
  ·refine Sa ?_;simp only[ry,seval,rz,rB,tV,tC,eV,ag]
  simp only;have hgi:=hg i hi;have wi:IntKind.i64.wrap ((i:Int)+1)=((i+1:Nat):Int):=by rw[IntWalk.i64_in _ (by omega)];omega
  simp only[vx,T,seval,rB,tV,tC,eV,ag,bf,ba,QV,QC,w2,w4,wi];refine⟨by omega,?_⟩;refine⟨fun g=>Lg ?_,fun g=>Lg ?_⟩
  ·have hik:=hgi.1 g;simp only[vx,T,seval,rB,tV,tC,eV,ag,bf,ba,QV,QC,w2,w4,wi];refine Lq ⟨i+1,by omega⟩ ?_ (by show k-(i+1)<k-i;omega);refine Sa ?_;simp only[ry,seval,rz,rB,tV,tC,eV,ag]
  have hik:i=k:=by
   have:¬i<k:=fun h=>g (hgi.2 h)
   omega
  subst hik;obtain⟨⟨m,hm,lr⟩,qr⟩:=I.r i (by omega);have q2:=I.y i (by omega) _ la2 (hq.drop _);have hlm:(rs.getD i []).length≤2^H:=by rw[lr];exact Nat.pow_le_pow_right (by decide) hm
  have pd:=xu (h:=H) (t:=U) (a:=rs.getD i []) (by omega) hlm;have mu:=(fM fT I.tq.tk I.tq.q I.hY I.hZ (aY (H:=H) (T:=U) (rs:=rs) (k:=i) (a:=a.drop (2^i))) (bL hlm) q2 (Go.Tw.QB.pad I.hZ qr) I.s).rows;have gm:=QB.mul (h:=H) (t:=U) fT I.tq.q I.hY I.hZ q2 (Go.Tw.QB.pad (H:=H) I.hZ qr);have hge:=Go.Tw.il (h:=H) (S:=Y+Z) (C:=tB);have hs:=I.s;have q1:=I.y i (by omega) _ la1 (hq.take _);have ad:=(tW (h:=H) (t:=U) (bc H U rs i (a.take (2^i))) _ (by rw[aY];omega) (by rw[ae,aY]) (.of q1 (by omega)) (.of gm hs)).rows;have er:bc H U rs (i+1) a=aC (bc H U rs i (a.take (2^i))) (aj H U (bc H U rs i (a.drop (2^i))) (cB H (rs.getD i []))):=rfl;rw[←er]at ad;obtain⟨r,hr⟩:∃r,r=bc H U rs (i+1) a:=⟨_,rfl⟩;obtain⟨x,hx⟩:∃x,x=bc H U rs i (a.take (2^i)):=⟨_,rfl⟩;obtain⟨y,hy⟩:∃y,y=bc H U rs i (a.drop (2^i)):=⟨_,rfl⟩;obtain⟨v,hv⟩:∃v,v=rs.getD i []:=⟨_,rfl⟩;obtain⟨p,hpp⟩:∃p,p=cB H v:=⟨_,rfl⟩;rw[←hr,←hx]at ad;rw[←hx]at c1;rw[←hy]at c2;rw[←hr];rw[←hv]at pd;rw[←hy,←hv,←hpp]at ad mu;rw[←hpp]at pd;obtain⟨z,hz⟩:∃z,z=aj H U y p:=⟨_,rfl⟩;rw[←hz]at ad mu;have hil:i<rs.length:=by omega
  rw[←hnn]at c1 c2;clear gm hge hs q1 q2 er hr hx hy hpp hz lr qr hlm hm la1 la2 hq;simp only[vx,T,seval,rB,tV,tC,eV,ag,bf,ba,QV,QC,w2,w4,wi,←hv];refine⟨⟨by omega,by omega⟩,⟨by omega,by omega,by omega⟩,Cm 0 (B:=rB N rs) rfl trivial c1 ?_⟩;rintro _ _ ⟨rfl,rfl⟩ _;simp only[vx,T,seval,rB,tV,tC,eV,ag,bf,ba,QV,QC,w2,w4,wi,←hv];refine⟨⟨by omega,by omega,by omega⟩,Cm 0 (B:=rB N rs) rfl trivial c2 ?_⟩;rintro _ _ ⟨rfl,rfl⟩ _;simp only[vx,T,seval,rB,tV,tC,eV,ag,bf,ba,QV,QC,w2,w4,wi,←hv];refine⟨⟨by omega,by omega⟩,Cg pd ?_⟩;simp only[vx,T,seval,rB,tV,tC,eV,ag,bf,ba,QV,QC,w2,w4,wi,←hv];refine Cg mu ?_;simp only[vx,T,seval,rB,tV,tC,eV,ag,bf,ba,QV,QC,w2,w4,wi,←hv];refine Cg ad ?_;simp only[vx,T,seval,rB,tV,tC,eV,ag,bf,ba,QV,QC,w2,w4,wi,←hv];exact⟨rfl,rfl⟩
open Go Go.Eng
open Go.Tw (El aC aG zE aj au QB mS tB val In Rd nU TG cB bL bc aY Ext lP yX)
def O2 (u:List El)(i:Nat)(x y:List El×List El):Prop:=
 ∃e w,Mc Tryz.prog 145 [tV x.1.length x.1,.one (.own 0 1 0 i),eV (u.getD i [])] (rB i x.2) (Mh x.2 i (eV e))∧Pr Tryz.prog 52 [tV x.1.length x.1,eV e] (.aJ [tV y.1.length y.1,eV w,.one (.int .i64 0)])∧y.2=x.2++[w]
section
variable {A:List R}(S:Go.Tw.Src 64 A)(hA:A.length≤3){t u:List El}
include S hA
theorem Cp (G:TG A t)(Gu:TG A u):∃s:Nat→List El×List El,s 0=(t,[])∧(∀i,i≤u.length→Lb A t u i (s i))∧∀i,i<u.length→O2 u i (s i) (s (i+1)):=by
 have h3:=Gu.lS S hA;refine Go.Tw.chain (I:=Lb A t u) ⟨⟨[],(List.append_nil t).symm⟩,⟨G,rfl,fun i hi=>absurd hi (Nat.not_lt_zero _)⟩,fun _=>rfl⟩ fun i x hi hx=>?_;obtain⟨U,rs⟩:=x;obtain⟨⟨s,hs⟩,E,hall⟩:=hx;have hs:U=t++s:=hs;have E:Ext A u i U rs:=E;have lu:=(Gu.rd.rl i hi).1;have ci:=tM E.len (GK S hA Gu E (by omega)) (by rw[E.len];exact Nat.le_refl _) (by omega) lu (Gu.qb S hA hi);have le:(bc U.length U rs i (u.getD i [])).length=2^U.length:=aY;have ve:=Go.Tw.lB E (Nat.le_refl _) lu;have hm:val U.length U (bc U.length U rs i (u.getD i []))∈A:=by rw[ve];exact Gu.mem i hi
 have hp:R.pos (val U.length U (bc U.length U rs i (u.getD i []))):=by rw[ve];exact(Gu.rd.rl i hi).2
 have rb:=E.tg.Pq S hA le hm hp
 rcases uS S hA E.tg le (R.bG.2 (.inr hp)) rb with⟨w,lw,vw,cw⟩|⟨no,c⟩
 ·refine⟨(U,rs++[w]),⟨_,w,ci,cw,rfl⟩,⟨s,hs⟩,?_,fun h=>hall fun j hj=>h j (by omega)⟩
  have:=E.up (S:=[]) (r:=w) (m:=U.length) (by rw[List.append_nil];exact E.tg) (by rw[List.append_nil];exact Nat.le_refl _) lw (by rw[List.append_nil,vw,ve])
  rwa [List.append_nil]at this
 have G':=E.tg.snoc le hm hp no;have hl:(U++[bc U.length U rs i (u.getD i [])]).length=U.length+1:=by simp
 refine⟨(U++[bc U.length U rs i (u.getD i [])],rs++[Go.Tw.dH U.length]),⟨_,Go.Tw.dH U.length,ci,?_,rfl⟩,⟨s++[bc U.length U rs i (u.getD i [])],by rw[hs,List.append_assoc]⟩,?_,fun h=>?_⟩
 ·show Pr _ _ _ (.aJ [tV (U++[bc U.length U rs i (u.getD i [])]).length _,_,_]);rw[hl];exact c
 ·exact E.up G' (m:=U.length+1) (by rw[hl];exact Nat.le_refl _) Go.Tw.kK (by rw[Go.Tw.qW,ve])
 have eU:U=t:=hall fun j hj=>h j (by omega);have hin:=h i (by omega);rw[←eU]at hin;refine absurd ?_ (no _ hin);rw[ve];exact R.dU (R.bG.2 (.inr (Gu.rd.rl i hi).2))
theorem yT (G:TG A t)(Gu:TG A u):∃U rs s,U=t++s∧Ext A u u.length U rs∧((∀j,j<u.length→In t.length t (R.sqrt (val j u (u.getD j []))))→U=t)∧
  Pr Tryz.prog 143 [tV t.length t,tV u.length u] (.aJ [tV U.length U,tV rs.length rs,.one (.int .i64 0)]):=by
 obtain⟨s,e0,hI,hS⟩:=Cp S hA G Gu;have h3:=Gu.lS S hA;obtain⟨⟨z,hz⟩,E,hall⟩:=hI u.length (Nat.le_refl _);refine⟨(s u.length).1,(s u.length).2,z,hz,E,hall,?_⟩;have hl:∀i,i≤u.length→(s i).2.length=i:=fun i hi=>(hI i hi).2.1.len;have h3':∀i,i≤u.length→(s i).1.length≤3:=fun i hi=>(hI i hi).2.1.tg.lS S hA;have e1:(s 0).1=t:=by rw[e0]
 rw[←e1];clear e0 e1 hI hz E hall;obtain⟨n,hn⟩:∃n,n=u.length:=⟨_,rfl⟩;rw[←hn]at hS h3 hl h3'⊢;rw[hl n (Nat.le_refl n)];refine pw Tryz.func143 ⟨[0,1,4,5,6,7,8,9,10,11,15,32],[]⟩ ?_;simp only[Tryz.f143,Tryz.ntmps143,iz,seval];simp only[vx,T,seval,tV,tC,eV,ag];refine Lk (fun y:{i:Nat//i≤n}=>⟨[(0,tV (s y.1).1.length (s y.1).1),(1,tV n u),(4,.one .nil),(5,.one .nil),(6,.one (.int .i64 0)),(7,.one (.own 1 1 0 y.1)),(8,.one (.int .i64 y.1))],[(1,⟨.rows 33 1 y.1 (fun j _=>ag ((s y.1).2.getD j [])),true⟩)],2,41⟩) (fun y=>n-y.1) ⟨0,Nat.zero_le _⟩ ?_ (fun⟨i,hi⟩=>?_)
 ·refine Sa ?_;simp only[ry,seval,rz,tV,tC,eV,ag]
 simp only;have wi:IntKind.i64.wrap ((i:Int)+1)=((i+1:Nat):Int):=by rw[IntWalk.i64_in _ (by omega)];omega
 simp only[vx,T,seval,tV,tC,eV,ag,wi];refine⟨fun g=>Lg ?_,fun g=>Lg ?_⟩
 ·have hil:i<n:=by omega
  obtain⟨e,w,ci,ca,er⟩:=hS i hil;have hli:=hl i hi;have h3i:=h3' i hi;obtain⟨v,hv⟩:∃v,v=u.getD i []:=⟨_,rfl⟩;rw[←hv]at ci;obtain⟨U,hU⟩:∃U,U=(s i).1:=⟨_,rfl⟩;obtain⟨rs,hrs⟩:∃rs,rs=(s i).2:=⟨_,rfl⟩;rw[←hrs]at er hli;rw[←hU,←hrs]at ci;rw[←hU]at ca h3i;rw[←hU,←hrs];simp only[vx,T,seval,tV,tC,eV,ag,←hv];refine⟨⟨by omega,by omega⟩,Cm 1 (B:=rB i rs) rfl trivial ci ?_⟩;rintro _ _ ⟨rfl,rfl⟩ _;simp only[vx,T,seval,rB,tV,tC,eV,ag,←hv];refine Cg ca ?_;simp only[vx,T,seval,rB,tV,tC,eV,ag,←hv,wi];have es:(s (i+1)).2=rs++[w]:=er;have e1:∀j,j<i→(rs++[w]).getD j []=rs.getD j []:=fun j hj=>Go.Tw.dr (by omega);have e2:(rs++[w]).getD i []=w:=by rw[←hli];exact Go.Tw.gg
  refine⟨⟨by omega,by omega⟩,Lq ⟨i+1,by omega⟩ ?_ (by show n-(i+1)<n-i;omega)⟩;refine Sa ?_;simp only[ry,seval,rz,tV,tC,eV,ag];rw[es];intro k j hk hj;obtain rfl:j=0:=by omega
  by_cases hki:k<i
  ·rw[if_pos hki,e1 k hki]
  obtain rfl:k=i:=by omega
  rw[if_neg hki,e2,Nat.sub_self];rfl
 have hil:i=n:=by omega
 subst hil;simp only[vx,T,seval,tV,tC,eV,ag,wi];exact Ve rfl
end
open Go Go.Eng
open Go.Tw (El aC aG zE aj au ar aq ae QB mS tB val In Rd nU TG cB bL bc aY Ext lP yX ax qN lR)
theorem cH {t u:List El}:fk t.length u.length t u=true↔∃s,t=u++s:=by
 unfold fk;rw[Bool.and_eq_true,decide_eq_true_eq,List.all_eq_true]
 constructor
 ·rintro⟨h1,h2⟩;refine⟨t.drop u.length,?_⟩;have e:t.take u.length=u:=by
   refine List.ext_getElem (by rw[X5];omega) fun i k1 k2=>?_
   have:=of_decide_eq_true (h2 i (List.mem_range.2 k2))
   rw[X7,X7,X8 (by omega),X8 k2]at this;rw[List.getElem_take];exact this
  conv=>lhs;rw[←List.take_append_drop u.length t,e]
 rintro⟨s,rfl⟩;exact⟨by rw[X6];omega,fun i hi=>decide_eq_true (Go.Tw.dr (List.mem_range.1 hi))⟩
theorem Qk.pad {h:Nat}{a:El}(hq:Qk a):Qk (cB h a):=fun x hx=>by
 rcases List.mem_append.1 hx with hx|hx
 ·exact hq x hx
 rw[List.eq_of_mem_replicate hx];decide+kernel
theorem HO (x y:List El×El):dg (.rows 2 2 (fun i j=>[tC x.1.length x.1,ag x.2,tC y.1.length y.1,ag y.2].getD (i*2+j) .any)) (aZ [x,y]):=by
 refine dg.rows rfl fun i j hi hj=>dg.of_eq ?_
 match i,hi,j,hj with
 |0,_,0,_=>rfl
 |0,_,1,_=>rfl
 |1,_,0,_=>rfl
 |1,_,1,_=>rfl
theorem pH (f:FuncId)(x y:List El×El)(U:List El)(ea eb ec:El)(hj:Pr Tryz.prog 115 [.one (aZ [x,y])] (.aJ [.one (aZ [(U,ea),(U,eb)]),.one (.int .i64 0)]))
  (hf:Pr Tryz.prog f [tV U.length U,eV ea,eV eb] (eV ec)):Pr Tryz.prog 74 [nX x,nX y,.one (.fn f 0 (fun _=>.any))] (.aJ [nX (U,ec),.one (.int .i64 0)]):=by
 have hj:=hj.HG (HO x y);refine pw Tryz.func74 ⟨[0,1,2,3,4,6,7,8,9,10,19],[]⟩ ?_;simp only[Tryz.f74,Tryz.ntmps74,iz,seval];simp only[vx,T,seval,nX,nV,tC,eV,ag];refine Cg hj ?_;simp only[vx,T,seval,aZ,fU,ir,tC,ag,X0,X1];refine Cg hf ?_;simp only[vx,T,seval,eV,ag];exact Ve rfl
theorem Lx (x y:List El×El)(U:List El)(ea eb ec:El)(hj:Pr Tryz.prog 115 [.one (aZ [x,y])] (.aJ [.one (aZ [(U,ea),(U,eb)]),.one (.int .i64 0)]))
  (hf:Pr Tryz.prog 76 [tV U.length U,eV ea,eV eb] (eV ec)):Pr Tryz.prog 35 [nX x,nX y] (.aJ [nX (U,ec),.one (.int .i64 0)]):=by
 have c:=pH _ x y U ea eb ec hj hf;refine pw Tryz.func35 ⟨[0,1,2,3,4,5],[]⟩ ?_;simp only[Tryz.f35,Tryz.ntmps35,iz,seval];simp only[vx,T,seval,nX,nV,tC,eV,ag];refine Cg c ?_;simp only[vx,T,seval,nX,nV,tC,eV,ag];exact Ve rfl
theorem KL (x y:List El×El)(U:List El)(ea eb ec:El)(hj:Pr Tryz.prog 115 [.one (aZ [x,y])] (.aJ [.one (aZ [(U,ea),(U,eb)]),.one (.int .i64 0)]))
  (hf:Pr Tryz.prog 75 [tV U.length U,eV ea,eV eb] (eV ec)):Pr Tryz.prog 34 [nX x,nX y] (.aJ [nX (U,ec),.one (.int .i64 0)]):=by
 have c:=pH _ x y U ea eb ec hj hf;refine pw Tryz.func34 ⟨[0,1,2,3,4,5],[]⟩ ?_;simp only[Tryz.f34,Tryz.ntmps34,iz,seval];simp only[vx,T,seval,nX,nV,tC,eV,ag];refine Cg c ?_;simp only[vx,T,seval,nX,nV,tC,eV,ag];exact Ve rfl
open Go Go.Eng
open Go.Tw (El aC aG zE aj au ar aq ae QB mS tB val In Rd nU TG cB bL bc aY Ext lP yX ax qN lR jβ jμ)
end Go.Proofs.YtgalhjhdgkoemaaGreat
namespace Go.Tw
open Go Go.Eng
theorem ax.pad {A:List R}{t s:List El}{a:El}{x:R}{β μ:Nat}(h:ax A t a x β μ)(G:TG A (t++s)):ax A (t++s) (cB (t++s).length a) x β μ:=by
 have hl:t.length≤(t++s).length:=by rw[X6];omega
 refine⟨G,bL (by rw[h.len];exact Nat.pow_le_pow_right (by decide) hl),?_,h.sz.trans (fun _ h=>h) fun z hz=>((Go.Tw.kY (Nat.le_refl _) z).2 hz).le hl⟩;rw[Go.Tw.sB h.len hl,Go.Tw.eC (Nat.le_refl _),h.val]
theorem ax.image {A:List R}{t U rs:List El}{a:El}{x:R}{β μ:Nat}(h:ax A t a x β μ)(E:Ext A t t.length U rs):ax A U (bc U.length U rs t.length a) x β μ:=
 ⟨E.tg,aY,by rw[Go.Tw.lB E (Nat.le_refl _) h.len,h.val],h.sz.trans (fun _ h=>h) fun _ hz=>In.xU E (Nat.le_refl _) hz⟩
end Go.Tw
namespace Go.Proofs.YtgalhjhdgkoemaaGreat
open Go Go.Eng
open Go.Tw (El aC aG zE aj au ar aq ae QB mS tB val In Rd nU TG cB bL bc aY Ext lP yX ax qN lR jβ jμ)
theorem Iu:Tk 0 []:=⟨by decide,fun i h=>absurd h (Nat.not_lt_zero _),fun i h=>absurd h (Nat.not_lt_zero _)⟩
def Sm (β μ:Nat):Prop:=∀h,h≤3→qN h β μ<2^34
theorem Sm.of {β μ:Nat}(h1:β≤2^22)(h2:μ≤1000):Sm β μ:=fun h hh=>Nat.lt_of_le_of_lt (Go.Tw.sQ h1 h2) (by
 match h,hh with
 |0,_=>decide+kernel
 |1,_=>decide+kernel
 |2,_=>decide+kernel
 |3,_=>decide+kernel)
theorem Sm.mono {β μ β' μ':Nat}(H:Sm β' μ')(h1:β≤β')(h2:μ≤μ'):Sm β μ:=fun h hh=>Nat.lt_of_le_of_lt (Go.Tw.sQ h1 h2) (H h hh)
section
variable {A:List R}(S:Go.Tw.Src 64 A)(hA:A.length≤3)
include S hA
theorem s8 {t:List El}{a:El}{x:R}{β μ:Nat}(h:ax A t a x β μ)(hs:Sm β μ):Qk a:=.of (h.qb S hA) (hs _ (h.tg.lS S hA))
theorem uD {t:List El}(G:TG A t):Tk t.length t:=(pD S hA G).tk
theorem L8 {x y:List El×El}{vx vy:R}{βx μx βy μy:Nat}(hx:ax A x.1 x.2 vx βx μx)(hy:ax A y.1 y.2 vy βy μy)(sx:Sm βx μx)(sy:Sm βy μy)(h1:βy≤jβ)(h2:μy≤jμ):
  ∃U ea eb,ax A U ea vx βx μx∧ax A U eb vy βy μy∧(∀z,In x.1.length x.1 z→In U.length U z)∧(∀z,In y.1.length y.1 z→In U.length U z)∧
   Pr Tryz.prog 115 [.one (aZ [x,y])] (.aJ [.one (aZ [(U,ea),(U,eb)]),.one (.int .i64 0)]):=by
 have xk:=uD S hA hx.tg;have yk:=uD S hA hy.tg;have x3:=hx.tg.lS S hA;have y3:=hy.tg.lS S hA;have s0:DO [] x.1 x.1:=by
  by_cases h:x.1=[]
  ·rw[h];exact .inl ⟨cH.2 ⟨[],rfl⟩,rfl⟩
  refine .inr (.inl ⟨?_,cH.2 ⟨x.1,rfl⟩,rfl⟩);refine Bool.eq_false_iff.2 fun k=>?_;obtain⟨s,e⟩:=cH.1 k;exact h (List.append_eq_nil_iff.1 e.symm).1
 -- what is shown of the common tower
 have fin:∀(U eb:_) (s:List El),U=x.1++s→DO x.1 y.1 U→TG A U→ax A U eb vy βy μy→(∀z,In y.1.length y.1 z→In U.length U z)→HP U y eb→
   ∃U ea eb,ax A U ea vx βx μx∧ax A U eb vy βy μy∧(∀z,In x.1.length x.1 z→In U.length U z)∧(∀z,In y.1.length y.1 z→In U.length U z)∧
    Pr Tryz.prog 115 [.one (aZ [x,y])] (.aJ [.one (aZ [(U,ea),(U,eb)]),.one (.int .i64 0)]):=by
  intro U eb s hU st G nb iy sj;have uk:=uD S hA G;have na:ax A U (cB U.length x.2) vx βx μx:=by rw[hU]at G⊢;exact hx.pad G
  have ul:=G.lS S hA;have pl:∀{e:El},e.length=2^U.length→e.length<2^38:=fun h=>by rw[h];exact aO (by omega)
  refine⟨U,cB U.length x.2,eb,na,nb,fun z hz=>?_,iy,?_⟩
  ·rw[hU];exact((Go.Tw.kY (Nat.le_refl _) z).2 hz).le (by rw[X6];omega)
  have cm:=yE [x,y] (by simp) (fun i=>if i=0 then[]else if i=1 then x.1 else U) rfl (fun i hi=>by
    match i,hi with
    |0,_=>exact Iu
    |1,_=>exact xk
    |2,_=>exact uk) (fun i hi=>by
    match i,hi with
    |0,_=>exact xk
    |1,_=>exact yk) (fun i hi=>by
    match i,hi with
    |0,_=>exact s0
    |1,_=>exact st)
  refine D7 [x,y] [(U,cB U.length x.2),(U,eb)] (by simp) rfl U uk (fun i hi=>by
    match i,hi with
    |0,_=>exact xk
    |1,_=>exact yk) cm fun i hi=>?_
  match i,hi with
  |0,_=>
   refine⟨rfl,pl na.len,s8 S hA na sx,.inl ⟨cH.2 ⟨s,hU⟩,?_⟩⟩;refine qj (by omega) ?_ ?_
   ·show 0<x.2.length;rw[hx.len];exact Nat.two_pow_pos _
   show x.2.length≤_;rw[hx.len,hU,X6];exact Nat.pow_le_pow_right (by decide) (by omega)
  |1,_=>exact⟨rfl,pl nb.len,s8 S hA nb sy,sj⟩
 have ypos:0<y.2.length:=by rw[hy.len];exact Nat.two_pow_pos _
 -- padding y
 have padY:∀(U s:List El),U=y.1++s→TG A U→ax A U (cB U.length y.2) vy βy μy∧(∀z,In y.1.length y.1 z→In U.length U z)∧HP U y (cB U.length y.2):=by
  intro U s hU G;have ul:=G.lS S hA;refine⟨by rw[hU]at G⊢;exact hy.pad G,fun z hz=>?_,.inl ⟨cH.2 ⟨s,hU⟩,qj (by omega) ypos ?_⟩⟩
  ·rw[hU];exact((Go.Tw.kY (Nat.le_refl _) z).2 hz).le (by rw[X6];omega)
  rw[hy.len,hU,X6];exact Nat.pow_le_pow_right (by decide) (by omega)
 cases hb:fk x.1.length y.1.length x.1 y.1 with
 |true=>
  obtain⟨s,e⟩:=cH.1 hb;obtain⟨p1,p2,p3⟩:=padY x.1 s e hx.tg;exact fin x.1 _ [] (List.append_nil _).symm (.inl ⟨hb,rfl⟩) hx.tg p1 p2 p3
 |false=>
  cases hb':fk y.1.length x.1.length y.1 x.1 with
  |true=>
   obtain⟨s,e⟩:=cH.1 hb';obtain⟨p1,p2,p3⟩:=padY y.1 [] (List.append_nil _).symm hy.tg;exact fin y.1 _ s e (.inr (.inl ⟨hb,hb',rfl⟩)) hy.tg p1 p2 p3
  |false=>
   obtain⟨U,rs,s,eU,E,_,c⟩:=rK S hA hx.tg hy.tg;have st:DO x.1 y.1 U:=.inr (.inr ⟨hb,hb',rs,c⟩)
   cases hbu:fk U.length y.1.length U y.1 with
   |true=>
    obtain⟨s',e'⟩:=cH.1 hbu;obtain⟨p1,p2,p3⟩:=padY U s' e' E.tg;exact fin U _ s eU st E.tg p1 p2 p3
   |false=>
    obtain⟨U',rs',s',eU',E',hall,c'⟩:=rK S hA E.tg hy.tg;obtain rfl:U'=U:=hall fun j hj=>E.sP hj;obtain⟨qb,I⟩:=hy.Pv S hA h1 h2 E';have tq:=pD S hA E'.tg;have im:=oO (a:=y.2) ⟨tq,I.hB,I.hY,Go.Tw.kV,I.y,I.r,I.s⟩ (by rw[E'.len];exact Nat.le_refl _) (by omega) hy.len qb;exact fin U' _ s eU st E.tg (hy.image E') (fun z hz=>In.xU E' (Nat.le_refl _) hz) (.inr ⟨hbu,U',rs',c',im⟩)
theorem E9 {x y:List El×El}{vx vy:R}{βx μx βy μy:Nat}(hx:ax A x.1 x.2 vx βx μx)(hy:ax A y.1 y.2 vy βy μy)(sx:Sm βx μx)(sy:Sm βy μy)(h1:βy≤jβ)(h2:μy≤jμ):
  ∃z:List El×El,ax A z.1 z.2 (vx+vy) (βx+βy+1) (μx+μy)∧Pr Tryz.prog 35 [nX x,nX y] (.aJ [nX z,.one (.int .i64 0)]):=by
 obtain⟨U,ea,eb,na,nb,_,_,j⟩:=L8 S hA hx hy sx sy h1 h2;refine⟨(U,aC ea eb),⟨na.tg,aq na.len nb.len,by rw[←na.val,←nb.val];exact Go.Tw.val_add na.len nb.len,na.sz.add nb.sz⟩,?_⟩;exact Lx x y U ea eb _ j (kx (uD S hA na.tg) _ _ na.len nb.len (s8 S hA na sx) (s8 S hA nb sy))
theorem Ej {x y:List El×El}{vx vy:R}{βx μx βy μy:Nat}(hx:ax A x.1 x.2 vx βx μx)(hy:ax A y.1 y.2 vy βy μy)(sx:Sm βx μx)(sy:Sm βy μy)(h1:βy≤jβ)(h2:μy≤jμ)
  (hm:∀h,h≤3→mS h (qN h βx μx+qN h βy μy) tB<2^34):
  ∃z:List El×El,ax A z.1 z.2 (vx*vy) (βx+βy) (μx+μy)∧Pr Tryz.prog 34 [nX x,nX y] (.aJ [nX z,.one (.int .i64 0)]):=by
 obtain⟨U,ea,eb,na,nb,_,_,j⟩:=L8 S hA hx hy sx sy h1 h2;have tq:=pD S hA na.tg;refine⟨(U,aj U.length U ea eb),⟨na.tg,ae,by rw[←na.val,←nb.val];exact Go.Tw.val_mul na.tg.rd.rl na.len nb.len,na.sz.mul nb.sz⟩,?_⟩;exact KL x y U ea eb _ j (gD fT tq.tk tq.q Go.Tw.kV Go.Tw.kV _ _ na.len nb.len (na.qb S hA) (nb.qb S hA) (hm _ (na.tg.lS S hA)))
end
open Go Go.Eng
open Go.Tw (El aC aG zE aj au ar aq ae QB mS tB val In Rd nU TG cB bL bc aY Ext lP yX ax qN lR jβ jμ)
def OQ (t x t':List El):Prop:=
 (t.length<x.length∧fk x.length t.length x t=true∧t'=x)∨(¬t.length<x.length∧fk t.length x.length t x=true∧t'=t)∨
 ((t.length<x.length→fk x.length t.length x t=false)∧fk t.length x.length t x=false∧∃rs:List El,Pr Tryz.prog 143 [tV t.length t,tV x.length x] (.aJ [tV t'.length t',tV rs.length rs,.one (.int .i64 0)]))
def Oq (U:List El)(x:List El×El)(e:El):Prop:=
 (fk U.length x.1.length U x.1=true∧Pr Tryz.prog 144 [tV U.length U,eV x.2] (eV e))∨
 (fk U.length x.1.length U x.1=false∧∃V rs:List El,Pr Tryz.prog 143 [tV U.length U,tV x.1.length x.1] (.aJ [tV V.length V,tV rs.length rs,.one (.int .i64 0)])∧Pr Tryz.prog 145 [tV U.length U,tV rs.length rs,eV x.2] (eV e))
theorem Am (l os:List (List El×El))(hl:l.length<2^30)(hos:os.length=l.length)(tt:Nat→List El)(h0:tt 0=[])(tk:∀i,i≤l.length→Tk (tt i).length (tt i))(xk:∀i,i<l.length→Tk (l.getD i default).1.length (l.getD i default).1)
  (sc:∀i,i<l.length→OQ (tt i) (l.getD i default).1 (tt (i+1)))
  (st:∀i,i<l.length→(os.getD i default).1=tt l.length∧(os.getD i default).2.length<2^38∧Oq (tt l.length) (l.getD i default) (os.getD i default).2):
  Pr Tryz.prog 93 [.one (aZ l)] (.aJ [.one (aZ os),.one (.int .i64 0)]):=by
 have e0:(tt 0).length=0:=by rw[h0];rfl
 have uk:=tk l.length (Nat.le_refl _);have u8:=uk.le8;refine pw Tryz.func93 ⟨[0,2,3,4,5,6,8,9,10,11,13,18,38,51,64,70,81],[]⟩ ?_;simp only[Tryz.f93,Tryz.ntmps93,iz,seval];simp only[vx,T,seval,aZ];refine Lk (fun y:{i:Nat//i≤l.length}=>⟨[(0,.one (aZ l)),(2,.one .nil),(3,.one (.int .i64 0)),(4,tV (tt y.1).length (tt y.1)),(5,.one (.int .i64 y.1))],[],1,115⟩) (fun y=>l.length-y.1) ⟨0,Nat.zero_le _⟩ ?_ (fun⟨i,hi⟩=>?_)
 ·refine Sa ?_;simp only[ry,seval,rz,aZ,tV,tC,e0]
 simp only;have wi:IntKind.i64.wrap ((i:Int)+1)=((i+1:Nat):Int):=by rw[IntWalk.i64_in _ (by omega)];omega
 simp only[vx,T,seval,aZ,tV,tC,wi];refine⟨fun g=>Lg ?_,fun g=>Lg ?_⟩
 ·have hil:i<l.length:=by omega
  have sti:=sc i hil;have b1:=pn (tk i hi) (xk i hil);have b2:=pn (xk i hil) (tk i hi);have t8:=(tk i hi).le8;have x8:=(xk i hil).le8;obtain⟨x,hx⟩:∃x,x=l.getD i default:=⟨_,rfl⟩;rw[←hx]at sti b1 b2 x8;obtain⟨t,ht⟩:∃t,t=tt i:=⟨_,rfl⟩;rw[←ht]at sti b1 b2 t8;obtain⟨t',ht'⟩:∃t',t'=tt (i+1):=⟨_,rfl⟩;rw[←ht']at sti;rw[←ht];clear uk u8 hos st;simp only[vx,T,seval,aZ,fU,ir,tV,tC,←hx,wi];have mea:l.length-(i+1)<l.length-i:=by omega
  rcases sti with⟨g0,g1,e⟩|⟨g0,g1,e⟩|⟨g0,g1,rs,c⟩
  ·have b3:=pn (xk i hil) (tk i hi);rw[←hx,←ht,g1]at b3;refine⟨by omega,fun _=>Lg ?_,fun h=>absurd (by omega) h⟩;simp only[vx,T,seval,aZ,fU,ir,tV,tC,←hx,wi]
   first|refine Cg b3 ?_|refine ⟨by omega,Cg b3 ?_⟩
   simp only[vx,T,seval,aZ,fU,ir,tV,tC,←hx,wi]
   first|refine Lq ⟨i+1,by omega⟩ ?_ mea|refine ⟨by omega,Lq ⟨i+1,by omega⟩ ?_ mea⟩
   refine Sa ?_;simp only[ry,seval,rz,aZ,tV,tC,←ht',e]
  ·rw[g1]at b1;refine⟨by omega,fun h=>absurd h (by omega),fun _=>Lg ?_⟩;simp only[vx,T,seval,aZ,fU,ir,tV,tC,←hx,wi]
   first|refine Cg b1 ?_|refine ⟨by omega,Cg b1 ?_⟩
   simp only[vx,T,seval,aZ,fU,ir,tV,tC,←hx,wi]
   first|refine Lq ⟨i+1,by omega⟩ ?_ mea|refine ⟨by omega,Lq ⟨i+1,by omega⟩ ?_ mea⟩
   refine Sa ?_;simp only[ry,seval,rz,aZ,tV,tC,←ht',e]
  rw[g1]at b1;refine⟨by omega,fun h=>Lg ?_,fun _=>Lg ?_⟩
  ·rw[g0 (by omega)]at b2;simp only[vx,T,seval,aZ,fU,ir,tV,tC,←hx,wi]
   first|refine Cg b2 ?_|refine ⟨by omega,Cg b2 ?_⟩
   simp only[vx,T,seval,aZ,fU,ir,tV,tC,←hx,wi]
   first|refine Cg b1 ?_|refine ⟨by omega,Cg b1 ?_⟩
   simp only[vx,T,seval,aZ,fU,ir,tV,tC,←hx,wi]
   first|refine Cg c ?_|refine ⟨by omega,Cg c ?_⟩
   simp only[vx,T,seval,aZ,fU,ir,tV,tC,←hx,wi]
   first|refine Lq ⟨i+1,by omega⟩ ?_ mea|refine ⟨by omega,Lq ⟨i+1,by omega⟩ ?_ mea⟩
   refine Sa ?_;simp only[ry,seval,rz,aZ,tV,tC,←ht']
  simp only[vx,T,seval,aZ,fU,ir,tV,tC,←hx,wi]
  first|refine Cg b1 ?_|refine ⟨by omega,Cg b1 ?_⟩
  simp only[vx,T,seval,aZ,fU,ir,tV,tC,←hx,wi]
  first|refine Cg c ?_|refine ⟨by omega,Cg c ?_⟩
  simp only[vx,T,seval,aZ,fU,ir,tV,tC,←hx,wi]
  first|refine Lq ⟨i+1,by omega⟩ ?_ mea|refine ⟨by omega,Lq ⟨i+1,by omega⟩ ?_ mea⟩
  refine Sa ?_;simp only[ry,seval,rz,aZ,tV,tC,←ht']
 have hil:i=l.length:=by omega
 subst hil;clear sc wi;obtain⟨U,hU⟩:∃U,U=tt l.length:=⟨_,rfl⟩;rw[←hU]at st uk u8⊢;simp only[vx,T,seval,aZ,tV,tC];refine Lk (fun y:{i:Nat//i≤l.length}=>⟨[(0,.one (aZ l)),(2,.one .nil),(3,.one (.int .i64 0)),(4,tV U.length U),(9,.one (.own 1 2 0 y.1)),(10,.one (.int .i64 y.1))],[(1,⟨.rows 35 2 y.1 (fU (os.take y.1)),true⟩)],2,115⟩) (fun y=>l.length-y.1) ⟨0,Nat.zero_le _⟩ ?_ (fun⟨i,hi⟩=>?_)
 ·refine Sa ?_;simp only[ry,seval,rz,aZ,tV,tC]
 simp only;have wi:IntKind.i64.wrap ((i:Int)+1)=((i+1:Nat):Int):=by rw[IntWalk.i64_in _ (by omega)];omega
 simp only[vx,T,seval,aZ,tV,tC,wi];refine⟨fun g=>Lg ?_,fun g=>Lg ?_⟩
 ·have hil:i<l.length:=by omega
  obtain⟨s1,s2,sj⟩:=st i hil;have b1:=pn uk (xk i hil);have hst:os.take (i+1)=os.take i++[os.getD i default]:=by rw[List.take_add_one,X7,X8 (by omega)];rfl
  have htl:(os.take i).length=i:=by rw[X5];omega
  have sn:=sV htl (os.getD i default);rw[←hst]at sn;obtain⟨x,hx⟩:∃x,x=l.getD i default:=⟨_,rfl⟩;rw[←hx]at sj b1;obtain⟨o,ho⟩:∃o,o=os.getD i default:=⟨_,rfl⟩;rw[←ho]at s1 s2 sj sn;rw[s1]at sn;have mea:l.length-(i+1)<l.length-i:=by omega
  rcases sj with⟨g1,c⟩|⟨g1,V,rs,c,d⟩
  ·rw[g1]at b1;simp only[vx,T,seval,aZ,fU,ir,tV,tC,←hx,wi]
   first|refine Cg b1 ?_|refine ⟨by omega,Cg b1 ?_⟩
   simp only[vx,T,seval,aZ,fU,ir,tV,tC,←hx,wi]
   first|refine Cg c ?_|refine ⟨by omega,Cg c ?_⟩
   simp only[vx,T,seval,aZ,fU,ir,tV,tC,eV,ag,←hx,wi];refine⟨⟨by omega,by omega⟩,Lq ⟨i+1,by omega⟩ ?_ mea⟩;refine Sa ?_;simp only[ry,seval,rz,aZ,tV,tC,ag];exact sn
  rw[g1]at b1;simp only[vx,T,seval,aZ,fU,ir,tV,tC,←hx,wi]
  first|refine Cg b1 ?_|refine ⟨by omega,Cg b1 ?_⟩
  simp only[vx,T,seval,aZ,fU,ir,tV,tC,←hx,wi]
  first|refine Cg c ?_|refine ⟨by omega,Cg c ?_⟩
  simp only[vx,T,seval,aZ,fU,ir,tV,tC,eV,ag,←hx,wi]
  first|refine Cg d ?_|refine ⟨by omega,Cg d ?_⟩
  simp only[vx,T,seval,aZ,fU,ir,tV,tC,eV,ag,←hx,wi];refine⟨⟨by omega,by omega⟩,Lq ⟨i+1,by omega⟩ ?_ mea⟩;refine Sa ?_;simp only[ry,seval,rz,aZ,tV,tC,ag];exact sn
 have hil:i=l.length:=by omega
 subst hil;have e:os.take l.length=os:=by rw[←hos,List.take_length]
 simp only[vx,T,seval,aZ,tV,tC,wi,e];rw[hos];exact jJ.refl _
open Go Go.Eng
open Go.Tw (El aC aG zE aj au ar aq ae QB mS tB val In Rd nU TG cB bL bc aY Ext lP yX ax qN lR jβ jμ)
section
variable {A:List R}(S:Go.Tw.Src 64 A)(hA:A.length≤3)
include S hA
theorem Ik {x y:List El×El}{vx vy:R}{βx μx βy μy:Nat}(hx:ax A x.1 x.2 vx βx μx)(hy:ax A y.1 y.2 vy βy μy)(sx:Sm βx μx)(sy:Sm βy μy)(h1:βy≤jβ)(h2:μy≤jμ):
  ∃U ea eb,ax A U ea vx βx μx∧ax A U eb vy βy μy∧(∀z,In x.1.length x.1 z→In U.length U z)∧(∀z,In y.1.length y.1 z→In U.length U z)∧
   Pr Tryz.prog 93 [.one (aZ [x,y])] (.aJ [.one (aZ [(U,ea),(U,eb)]),.one (.int .i64 0)]):=by
 have xk:=uD S hA hx.tg;have yk:=uD S hA hy.tg;have x3:=hx.tg.lS S hA;have y3:=hy.tg.lS S hA;have s0:OQ [] x.1 x.1:=by
  by_cases h:x.1=[]
  ·rw[h];exact .inr (.inl ⟨Nat.lt_irrefl _,cH.2 ⟨[],rfl⟩,rfl⟩)
  exact .inl ⟨List.length_pos_iff.2 h,cH.2 ⟨x.1,rfl⟩,rfl⟩
 -- what is shown of the common tower
 have fin:∀(U eb:_) (s:List El),U=x.1++s→OQ x.1 y.1 U→TG A U→ax A U eb vy βy μy→(∀z,In y.1.length y.1 z→In U.length U z)→Oq U y eb→
   ∃U ea eb,ax A U ea vx βx μx∧ax A U eb vy βy μy∧(∀z,In x.1.length x.1 z→In U.length U z)∧(∀z,In y.1.length y.1 z→In U.length U z)∧
    Pr Tryz.prog 93 [.one (aZ [x,y])] (.aJ [.one (aZ [(U,ea),(U,eb)]),.one (.int .i64 0)]):=by
  intro U eb s hU st G nb iy sj;have uk:=uD S hA G;have na:ax A U (cB U.length x.2) vx βx μx:=by rw[hU]at G⊢;exact hx.pad G
  have ul:=G.lS S hA;have pl:∀{e:El},e.length=2^U.length→e.length<2^38:=fun h=>by rw[h];exact aO (by omega)
  refine⟨U,cB U.length x.2,eb,na,nb,fun z hz=>?_,iy,?_⟩
  ·rw[hU];exact((Go.Tw.kY (Nat.le_refl _) z).2 hz).le (by rw[X6];omega)
  refine Am [x,y] [(U,cB U.length x.2),(U,eb)] (by simp) rfl (fun i=>if i=0 then[]else if i=1 then x.1 else U) rfl (fun i hi=>by
    match i,hi with
    |0,_=>exact Iu
    |1,_=>exact xk
    |2,_=>exact uk) (fun i hi=>by
    match i,hi with
    |0,_=>exact xk
    |1,_=>exact yk) (fun i hi=>by
    match i,hi with
    |0,_=>exact s0
    |1,_=>exact st) fun i hi=>?_
  have l0:Oq U x (cB U.length x.2):=.inl ⟨cH.2 ⟨s,hU⟩,xu (by omega) (by
   show x.2.length≤_;rw[hx.len,hU,X6];exact Nat.pow_le_pow_right (by decide) (by omega))⟩
  show _=U∧_∧Oq U _ _
  match i,hi with
  |0,_=>exact⟨rfl,pl na.len,l0⟩
  |1,_=>exact⟨rfl,pl nb.len,sj⟩
 -- padding y
 have padY:∀(U s:List El),U=y.1++s→TG A U→ax A U (cB U.length y.2) vy βy μy∧(∀z,In y.1.length y.1 z→In U.length U z)∧Oq U y (cB U.length y.2):=by
  intro U s hU G;have ul:=G.lS S hA;refine⟨by rw[hU]at G⊢;exact hy.pad G,fun z hz=>?_,.inl ⟨cH.2 ⟨s,hU⟩,xu (by omega) ?_⟩⟩
  ·rw[hU];exact((Go.Tw.kY (Nat.le_refl _) z).2 hz).le (by rw[X6];omega)
  rw[hy.len,hU,X6];exact Nat.pow_le_pow_right (by decide) (by omega)
 have bl:∀{t u:List El},fk t.length u.length t u=true→u.length≤t.length:=fun h=>by
  obtain⟨s,e⟩:=cH.1 h;rw[e,X6];omega
 cases hb:fk x.1.length y.1.length x.1 y.1 with
 |true=>
  obtain⟨s,e⟩:=cH.1 hb
  have:=bl hb
  obtain⟨p1,p2,p3⟩:=padY x.1 s e hx.tg;exact fin x.1 _ [] (List.append_nil _).symm (.inr (.inl ⟨by omega,hb,rfl⟩)) hx.tg p1 p2 p3
 |false=>
  cases hb':fk y.1.length x.1.length y.1 x.1 with
  |true=>
   obtain⟨s,e⟩:=cH.1 hb';have h1:=bl hb';have hlt:x.1.length<y.1.length:=by
    refine Nat.lt_of_le_of_ne h1 fun h=>?_;have l:=congrArg List.length e;rw[X6]at l;have s0:s=[]:=List.length_eq_zero_iff.1 (by omega);rw[s0,List.append_nil]at e;rw[cH.2 ⟨[],by rw[List.append_nil];exact e.symm⟩]at hb
    cases hb
   obtain⟨p1,p2,p3⟩:=padY y.1 [] (List.append_nil _).symm hy.tg;exact fin y.1 _ s e (.inl ⟨hlt,hb',rfl⟩) hy.tg p1 p2 p3
  |false=>
   obtain⟨U,rs,s,eU,E,_,c⟩:=yT S hA hx.tg hy.tg;have st:OQ x.1 y.1 U:=.inr (.inr ⟨fun _=>hb',hb,rs,c⟩)
   cases hbu:fk U.length y.1.length U y.1 with
   |true=>
    obtain⟨s',e'⟩:=cH.1 hbu;obtain⟨p1,p2,p3⟩:=padY U s' e' E.tg;exact fin U _ s eU st E.tg p1 p2 p3
   |false=>
    obtain⟨U',rs',s',eU',E',hall,c'⟩:=yT S hA E.tg hy.tg;obtain rfl:U'=U:=hall fun j hj=>E.sP hj;obtain⟨qb,I⟩:=hy.Pv S hA h1 h2 E';have tq:=pD S hA E'.tg;have y3':=hy.tg.lS S hA;have im:=yb (a:=y.2) rfl ⟨tq,I.hB,I.hY,Go.Tw.kV,I.y,I.r,I.s⟩ (by rw[E'.len];exact Nat.le_refl _) (by omega) hy.len qb;exact fin U' _ s eU st E.tg (hy.image E') (fun z hz=>In.xU E' (Nat.le_refl _) hz) (.inr ⟨hbu,U',rs',c',im⟩)
end
open Go Go.Eng
open Go.Tw (El aC aG zE aj au ar aq ae QB mS tB val In Rd nU TG cB bL bc aY Ext lP yX ax qN lR jβ jμ)
theorem Ma (x y:List El×El)(U:List El)(ea eb:El)(hj:Pr Tryz.prog 93 [.one (aZ [x,y])] (.aJ [.one (aZ [(U,ea),(U,eb)]),.one (.int .i64 0)])):
  Pr Tryz.prog 45 [nX x,nX y] (.aJ [nX (U,ea),nX (U,eb),.one (.int .i64 0)]):=by
 have hj:=hj.HG (HO x y);refine pw Tryz.func45 ⟨[0,1,2,3,4,5,6,7,8,17],[(4,(.cons 6 [3,4,5] (.cons 7 [] (.cons 8 [] .nil .nil) .nil) .nil))]⟩ ?_;simp only[Tryz.f45,Tryz.ntmps45,iz,seval];simp only[vx,T,seval,nX,nV,tC,eV,ag];refine Cg hj ?_;simp only[vx,T,seval,aZ,fU,ir,tC,ag,X0,X1];exact Ve rfl
theorem HA (x y:List El×El)(U:List El)(ea eb ec:El)(hj:Pr Tryz.prog 93 [.one (aZ [x,y])] (.aJ [.one (aZ [(U,ea),(U,eb)]),.one (.int .i64 0)]))
  (hf:Pr Tryz.prog 46 [tV U.length U,eV ea,eV eb] (eV ec)):Pr Tryz.prog 14 [nX x,nX y] (.aJ [nX (U,ec),.one (.int .i64 0)]):=by
 have c:=Ma x y U ea eb hj;refine pw Tryz.func14 ⟨[0,1,2,3,4,5,6,15],[]⟩ ?_;simp only[Tryz.f14,Tryz.ntmps14,iz,seval];simp only[vx,T,seval,nX,nV,tC,eV,ag];refine Cg c ?_;simp only[vx,T,seval,nX,nV,tV,tC,eV,ag];refine Cg hf ?_;simp only[vx,T,seval,nX,nV,tV,tC,eV,ag];exact Ve rfl
theorem G1 (x y:List El×El)(U:List El)(ea eb ec:El)(hj:Pr Tryz.prog 93 [.one (aZ [x,y])] (.aJ [.one (aZ [(U,ea),(U,eb)]),.one (.int .i64 0)]))
  (hf:Pr Tryz.prog 47 [tV U.length U,eV ea,eV eb] (eV ec)):Pr Tryz.prog 15 [nX x,nX y] (.aJ [nX (U,ec),.one (.int .i64 0)]):=by
 have c:=Ma x y U ea eb hj;refine pw Tryz.func15 ⟨[0,1,2,3,4,5,6,15],[]⟩ ?_;simp only[Tryz.f15,Tryz.ntmps15,iz,seval];simp only[vx,T,seval,nX,nV,tC,eV,ag];refine Cg c ?_;simp only[vx,T,seval,nX,nV,tV,tC,eV,ag];refine Cg hf ?_;simp only[vx,T,seval,nX,nV,tV,tC,eV,ag];exact Ve rfl
theorem GW (x:List El×El)(ec:El)(hf:Pr Tryz.prog 51 [tV x.1.length x.1,eV x.2] (eV ec)):Pr Tryz.prog 21 [nX x] (nX (x.1,ec)):=by
 refine pw Tryz.func21 ⟨[0,1,2],[]⟩ ?_;simp only[Tryz.f21,Tryz.ntmps21,iz,seval];simp only[vx,T,seval,nX,nV,tC,eV,ag];refine Cg hf ?_;simp only[vx,T,seval,nX,nV,tV,tC,eV,ag];exact Ve rfl
theorem Hl (x y n z:List El×El)(hn:Pr Tryz.prog 21 [nX y] (nX n))(ha:Pr Tryz.prog 14 [nX x,nX n] (.aJ [nX z,.one (.int .i64 0)])):
  Pr Tryz.prog 18 [nX x,nX y] (.aJ [nX z,.one (.int .i64 0)]):=by
 refine pw Tryz.func18 ⟨[0,1,2,3,4,5],[]⟩ ?_;simp only[Tryz.f18,Tryz.ntmps18,iz,seval];simp only[vx,T,seval,nX,nV,tC,eV,ag];refine Cg hn ?_;simp only[vx,T,seval,nX,nV,tV,tC,eV,ag];refine Cg ha ?_;simp only[vx,T,seval,nX,nV,tV,tC,eV,ag];exact Ve rfl
section
variable {A:List R}(S:Go.Tw.Src 64 A)(hA:A.length≤3)
include S hA
theorem lI {x y:List El×El}{vx vy:R}{βx μx βy μy:Nat}(hx:ax A x.1 x.2 vx βx μx)(hy:ax A y.1 y.2 vy βy μy)(sx:Sm βx μx)(sy:Sm βy μy)(h1:βy≤jβ)(h2:μy≤jμ):
  ∃z:List El×El,ax A z.1 z.2 (vx+vy) (βx+βy+1) (μx+μy)∧Pr Tryz.prog 14 [nX x,nX y] (.aJ [nX z,.one (.int .i64 0)]):=by
 obtain⟨U,ea,eb,na,nb,_,_,j⟩:=Ik S hA hx hy sx sy h1 h2;refine⟨(U,aC ea eb),⟨na.tg,aq na.len nb.len,by rw[←na.val,←nb.val];exact Go.Tw.val_add na.len nb.len,na.sz.add nb.sz⟩,?_⟩;have u3:=na.tg.lS S hA;have p8:2^U.length≤2^3:=Nat.pow_le_pow_right (by decide) u3;exact HA x y U ea eb _ j (tW ea eb (by rw[na.len];omega) (by rw[nb.len,na.len]) (s8 S hA na sx) (s8 S hA nb sy)).rows
theorem kT {x y:List El×El}{vx vy:R}{βx μx βy μy:Nat}(hx:ax A x.1 x.2 vx βx μx)(hy:ax A y.1 y.2 vy βy μy)(sx:Sm βx μx)(sy:Sm βy μy)(h1:βy≤jβ)(h2:μy≤jμ)
  (hm:∀h,h≤3→mS h (qN h βx μx+qN h βy μy) tB<2^34):
  ∃z:List El×El,ax A z.1 z.2 (vx*vy) (βx+βy) (μx+μy)∧Pr Tryz.prog 15 [nX x,nX y] (.aJ [nX z,.one (.int .i64 0)]):=by
 obtain⟨U,ea,eb,na,nb,_,_,j⟩:=Ik S hA hx hy sx sy h1 h2;have tq:=pD S hA na.tg;refine⟨(U,aj U.length U ea eb),⟨na.tg,ae,by rw[←na.val,←nb.val];exact Go.Tw.val_mul na.tg.rd.rl na.len nb.len,na.sz.mul nb.sz⟩,?_⟩;exact G1 x y U ea eb _ j (fM fT tq.tk tq.q Go.Tw.kV Go.Tw.kV na.len nb.len (na.qb S hA) (nb.qb S hA) (hm _ (na.tg.lS S hA))).rows
theorem tP {x:List El×El}{vx:R}{βx μx:Nat}(hx:ax A x.1 x.2 vx βx μx)(sx:Sm βx μx):Pr Tryz.prog 21 [nX x] (nX (x.1,aG x.2)):=by
 have u3:=hx.tg.lS S hA;have p8:2^x.1.length≤2^3:=Nat.pow_le_pow_right (by decide) u3;exact GW x _ (zx x.2 (by rw[hx.len];omega) (s8 S hA hx sx)).rows
end
open Go Go.Eng
open Go.Tw (El aC aG zE aj au ar aq ae QB mS tB val In Rd nU TG cB bL bc aY Ext lP yX ax qN lR jβ jμ iH bn)
end Go.Proofs.YtgalhjhdgkoemaaGreat
namespace Go.Tw
open Go Go.Eng
theorem ax.neg {A:List R}{t:List El}{a:El}{x:R}{β μ:Nat}(h:ax A t a x β μ):ax A t (aG a) (-x) β μ:=
 ⟨h.tg,by rw[ar,h.len],by rw[←h.val];exact Go.Tw.val_neg h.len,h.sz.neg⟩
end Go.Tw
namespace Go.Proofs.YtgalhjhdgkoemaaGreat
open Go Go.Eng
open Go.Tw (El aC aG zE aj au ar aq ae QB mS tB val In Rd nU TG cB bL bc aY Ext lP yX ax qN lR jβ jμ iH bn)
theorem H2 {X:Nat}(hX1:1≤X)(hX:X≤2^26){x:List El×El}(W:TQ x.1.length x.1)(ha:x.2.length=2^x.1.length)(hs:iH X x.1.length x.1 x.2):
  Pr Tryz.prog 20 [nX x] (.one (.int .i64 (bn x.1.length x.1 x.2))):=by
 have c:=NM hX1 hX W ha hs;refine pw Tryz.func20 ⟨[0,1,2],[]⟩ ?_;simp only[Tryz.f20,Tryz.ntmps20,iz,seval];simp only[vx,T,seval,nX,nV,tC,eV,ag];refine Cg c ?_;simp only[vx,T,seval,nX,nV,tV,tC,eV,ag];exact Ve rfl
section
variable {A:List R}(S:Go.Tw.Src 64 A)(hA:A.length≤3)
include S hA
theorem tA {x y:List El×El}{vx vy:R}{βx μx βy μy:Nat}(hx:ax A x.1 x.2 vx βx μx)(hy:ax A y.1 y.2 vy βy μy)(sx:Sm βx μx)(sy:Sm βy μy)(h1:βy≤jβ)(h2:μy≤jμ):
  ∃z:List El×El,ax A z.1 z.2 (vx+ -vy) (βx+βy+1) (μx+μy)∧Pr Tryz.prog 18 [nX x,nX y] (.aJ [nX z,.one (.int .i64 0)]):=by
 obtain⟨z,nz,c⟩:=lI S hA hx (x:=x) (y:=(y.1,aG y.2)) hy.neg sx sy h1 h2;exact⟨z,nz,Hl x y _ z (tP S hA hy sy) c⟩
end
open Go Go.Eng
open Go.Tw (El)
theorem qZ (q:Rat)(t:List El):Pr Tryz.prog 38 [QV q] (nV 0 t [q]):=by
 refine pw Tryz.func38 ⟨[0,1,2],[]⟩ ?_;simp only[Tryz.f38,Tryz.ntmps38,iz,seval];simp only[vx,T,seval,QV,QC];refine jJ.Ow (.pJ _ _) (.rows rfl fun i j hi hj=>.of_eq ?_);obtain rfl:i=0:=by omega
 show List.getD _ (0*4+j) _=_;rw[Nat.zero_mul,Nat.zero_add];exact dx q rfl j
theorem Fz (z:Int)(h1: -9223372036854775808≤z)(h2:z≤9223372036854775807):Pr Tryz.prog 37 [.one (.int .i64 z)] (nX ([],[Rat.ofInt z])):=by
 have c:=aS z h1 h2;have d:=qZ (Rat.ofInt z) [];refine pw Tryz.func37 ⟨[0,2],[]⟩ ?_;simp only[Tryz.f37,Tryz.ntmps37,iz,seval];simp only[vx,T,seval];refine Cg c ?_;simp only[vx,T,seval,QV,QC];refine Cg d ?_;simp only[vx,T,seval,nX,nV,tC,ag];exact Ve rfl
open Go Go.Eng
open Go.Tw (El)
theorem GP (x y z:List El×El)(s:Int)(hs:Pr Tryz.prog 18 [nX x,nX y] (.aJ [nX z,.one (.int .i64 0)]))(hg:Pr Tryz.prog 20 [nX z] (.one (.int .i64 s))):
  Pr Tryz.prog 39 [nX x,nX y] (.aJ [.one (.int .i64 s),.one (.int .i64 0)]):=by
 refine pw Tryz.func39 ⟨[0,1,2,3,4,5,6,7,15],[]⟩ ?_;simp only[Tryz.f39,Tryz.ntmps39,iz,seval];simp only[vx,T,seval,nX,nV,tC,eV,ag];refine Cg hs ?_;simp only[vx,T,seval,nX,nV,tV,tC,eV,ag];refine Cg hg ?_;simp only[vx,T,seval,nX,nV,tV,tC,eV,ag];exact Ve rfl
theorem BF (x y:List El×El)(s:Int)(hc:Pr Tryz.prog 39 [nX x,nX y] (.aJ [.one (.int .i64 s),.one (.int .i64 0)])):
  Pr Tryz.prog 11 [nX x,nX y] (.one (.bool (decide (s=0)))):=by
 refine pw Tryz.func11 ⟨[0,1,2,3,4,5,6],[]⟩ ?_;simp only[Tryz.f11,Tryz.ntmps11,iz,seval];simp only[vx,T,seval,nX,nV,tC,eV,ag];refine Cg hc ?_;simp only[vx,T,seval,nX,nV,tV,tC,eV,ag];exact Ve rfl
theorem qF (x:List El×El)(U:List El)(w:El)(ha:Pr Tryz.prog 52 [tV x.1.length x.1,eV x.2] (.aJ [tV U.length U,eV w,.one (.int .i64 0)])):
  Pr Tryz.prog 22 [nX x] (.aJ [nX (U,w),.one (.int .i64 0)]):=by
 refine pw Tryz.func22 ⟨[0,1,2,3,4,5,6,17],[]⟩ ?_;simp only[Tryz.f22,Tryz.ntmps22,iz,seval];simp only[vx,T,seval,nX,nV,tC,eV,ag];refine Cg ha ?_;simp only[vx,T,seval,nX,nV,tV,tC,eV,ag];exact Ve rfl
theorem GS (x y z:List El×El)(v:El)(hi:Pr Tryz.prog 49 [tV y.1.length y.1,eV y.2] (.aJ [eV v,.one (.int .i64 0)]))(hm:Pr Tryz.prog 15 [nX x,nX (y.1,v)] (.aJ [nX z,.one (.int .i64 0)])):
  Pr Tryz.prog 19 [nX x,nX y] (.aJ [nX z,.one (.int .i64 0)]):=by
 refine pw Tryz.func19 ⟨[0,1,2,3,4,5,6,7,17],[]⟩ ?_;simp only[Tryz.f19,Tryz.ntmps19,iz,seval];simp only[vx,T,seval,nX,nV,tC,eV,ag];refine Cg hi ?_;simp only[vx,T,seval,nX,nV,tV,tC,eV,ag];refine Cg hm ?_;simp only[vx,T,seval,nX,nV,tV,tC,eV,ag];exact Ve rfl
open Go Go.Eng
open Go.Tw (El)
theorem MU (n:Int)(d:Nat)(hn: -9223372036854775808≤n∧n≤9223372036854775807)(hd:d≤9223372036854775807)(h0:0<d)(k1:zn n<2^35)(k2:nl d<2^35):
  Pr Tryz.prog 16 [.one (.int .i64 n),.one (.int .i64 d)] (nX ([],[mkRat n d])):=by
 have c:=uy n d hn hd h0 k1 k2;have e:=qZ (mkRat n d) [];refine pw Tryz.func16 ⟨[0,1,4],[]⟩ ?_;simp only[Tryz.f16,Tryz.ntmps16,iz,seval];simp only[vx,T,seval];refine Cg c ?_;simp only[vx,T,seval,QV,QC];refine Cg e ?_;simp only[vx,T,seval,nX,nV,tC,ag];exact Ve rfl
open Go Go.Eng
open Go.Tw (El)
structure EH where
 k:Nat
 a:Nat
 b:Nat
 n:Int
 d:Nat
instance:Inhabited EH:=⟨⟨0,0,0,0,0⟩⟩
structure EH.Ok (o:EH):Prop where
 k:o.k<256
 a:o.a<256
 b:o.b<256
 n: -128≤o.n∧o.n≤127
 d:o.d<256
def oC (o:EH):Nat→C
 |0=>.int .u8 o.k
 |1=>.int .u8 o.a
 |2=>.int .u8 o.b
 |3=>.int .i8 o.n
 |4=>.int .u8 o.d
 |_=>.any
def mv (r:List EH):V:=.one (.rows 5 r.length (fun i=>oC (r.getD i default)))
def BO (k q q':Nat)(a b x:List El×El):Prop:=
 (k=1∧q'=q∧Pr Tryz.prog 14 [nX a,nX b] (.aJ [nX x,.one (.int .i64 0)]))∨
 (k=2∧q'=q∧Pr Tryz.prog 18 [nX a,nX b] (.aJ [nX x,.one (.int .i64 0)]))∨
 (k=3∧q'=q∧Pr Tryz.prog 15 [nX a,nX b] (.aJ [nX x,.one (.int .i64 0)]))∨
 (k=4∧q'=q∧Pr Tryz.prog 19 [nX a,nX b] (.aJ [nX x,.one (.int .i64 0)]))∨
 (k=4∧q'=q∧x=a∧Pr Tryz.prog 19 [nX a,nX b] (.aJ [.agg [.nil,.nil],.one (.int .i64 6)]))∨
 (k=5∧∃s c,Pr Tryz.prog 20 [nX a] (.one (.int .i64 s))∧((s<0∧Pr Tryz.prog 21 [nX a] (nX c))∨(¬s<0∧c=a))∧
  ((q<3∧q'=q+1∧Pr Tryz.prog 22 [nX c] (.aJ [nX x,.one (.int .i64 0)]))∨(¬q<3∧q'=q∧x=a)))
def BS (o:EH)(q:Nat)(l:List (List El×El))(q':Nat)(l':List (List El×El)):Prop:=
 ∃f x y z,Pr Tryz.prog 16 [.one (.int .i64 o.n),.one (.int .i64 (o.d%8+1:Nat))] (nX f)∧
  (((l=[]∨o.k%6=0)∧q'=q∧x=f)∨(l≠[]∧BO (o.k%6) q q' (l.getD (o.a%l.length) default) (l.getD (o.b%l.length) default) x))∧
  ((l=[]∧y=x)∨(l≠[]∧Pr Tryz.prog 23 [nX x] (.one (.bool false))∧y=x)∨(l≠[]∧Pr Tryz.prog 23 [nX x] (.one (.bool true))∧y=l.getD (l.length-1) default))∧
  Pr Tryz.prog 24 [nX y] (nX z)∧l'=l++[z]
theorem xA (r:List EH)(hr:∀o∈r,o.Ok)(hrl:r.length<2^63)(ro:Nat→Nat)(l:Nat→List (List El×El))(h0:ro 0=0)(l0:l 0=[])(hll:∀i,i≤24→i≤r.length→(l i).length=i∧ro i≤3)
  (st:∀i,i<24→i<r.length→BS (r.getD i default) (ro i) (l i) (ro (i+1)) (l (i+1))):Pr Tryz.prog 4 [mv r] (.one (aZ (l (min r.length 24)))):=by
 obtain⟨N,hN⟩:∃N,N=min r.length 24:=⟨_,rfl⟩;rw[←hN];have l0':(l 0).length=0:=by rw[l0];rfl
 refine pw Tryz.func4 ⟨[0,2,3,4,5,6,7,8,9,10,11,12,13,14,15,16,17,18,19,27,51,73,76,80,92,104,116,128,146],[(9,(.cons 20 [9,10,11,12,13,14,15,16,17] (.cons 21 [] .nil .nil) .nil))]⟩ ?_;simp only[Tryz.f4,Tryz.ntmps4,iz,seval];simp only[vx,T,seval,mv];refine Lk (fun y:{i:Nat//i≤24∧i≤r.length}=>⟨[(0,mv r),(2,.one .nil),(3,.one (.own 1 2 0 (l y.1).length)),(4,.one (.int .i64 (ro y.1))),(5,.one (.int .i64 y.1))],[(1,⟨.rows 35 2 (l y.1).length (fU (l y.1)),true⟩)],2,159⟩) (fun y=>24-y.1) ⟨0,by omega,by omega⟩ ?_ (fun⟨i,hi,hir⟩=>?_)
 ·refine Sa ?_;simp only[ry,seval,rz,mv,l0',h0]
 simp only;have wi:IntKind.i64.wrap ((i:Int)+1)=((i+1:Nat):Int):=by rw[IntWalk.i64_in _ (by omega)];omega
 simp only[vx,T,seval,mv];refine⟨fun g=>Lg ?_,fun g=>Lg ?_⟩
 ·simp only[vx,T,seval,mv];refine⟨fun g2=>Lg ?_,fun g2=>Lg ?_⟩
  ·have hil:i<r.length:=by omega
   have ok:(r.getD i default).Ok:=hr _ (by rw[X7,X8 hil];exact List.getElem_mem _);obtain⟨f,x,y,z,cf,hx,hy,ct,hl'⟩:=st i (by omega) hil;obtain⟨hli,hq⟩:=hll i hi hir;have hq':=(hll (i+1) (by omega) hil).2;obtain⟨o,ho⟩:∃o,o=r.getD i default:=⟨_,rfl⟩;rw[←ho]at ok cf hx;obtain⟨L,hL⟩:∃L,L=l i:=⟨_,rfl⟩;rw[←hL]at hx hy hl' hli;obtain⟨L',hL'⟩:∃L',L'=l (i+1):=⟨_,rfl⟩;rw[←hL']at hl';obtain⟨q,hqe⟩:∃q,q=ro i:=⟨_,rfl⟩;rw[←hqe]at hx hq;obtain⟨q',hqe'⟩:∃q',q'=ro (i+1):=⟨_,rfl⟩;rw[←hqe']at hx hq';rw[←hL,←hqe];obtain⟨k1,k2,k3,k4,k5⟩:=ok;have o1:(o.d:Int).tmod 8=((o.d%8:Nat):Int):=rfl;have w1:IntKind.i64.wrap o.n=o.n:=IntWalk.i64_in _ (by omega);have w2:IntKind.i64.wrap ((o.d%8:Nat):Int)=((o.d%8:Nat):Int):=IntWalk.i64_in _ (by omega);have w3:IntKind.i64.wrap (((o.d%8:Nat):Int)+1)=((o.d%8+1:Nat):Int):=by rw[IntWalk.i64_in _ (by omega)];omega
   have w4:IntKind.i64.wrap (o.a:Int)=o.a:=IntWalk.i64_in _ (by omega);have w5:IntKind.i64.wrap (o.b:Int)=o.b:=IntWalk.i64_in _ (by omega);have w6:IntKind.i64.wrap ((i:Int)-1)=(i:Int)-1:=IntWalk.i64_in _ (by omega);have o3:(o.a:Int).tmod (i:Int)=((o.a%i:Nat):Int):=rfl;have o4:(o.b:Int).tmod (i:Int)=((o.b%i:Nat):Int):=rfl;have o2:(o.k:Int).tmod 6=((o.k%6:Nat):Int):=rfl;clear st hr hll h0 l0 l0' hi hir;simp only[vx,T,seval,mv,←ho,oC,o1,o2];refine⟨by omega,?_⟩;simp only[w1,w2,w3];refine Cg cf ?_
   by_cases hne:L=[]
   ·obtain⟨rfl,rfl⟩:q'=q∧x=f:=by
     rcases hx with⟨_,h⟩|⟨h,_⟩
     ·exact h
     exact absurd hne h
    obtain rfl:y=x:=by
     rcases hy with⟨_,h⟩|⟨h,_⟩|⟨h,_⟩
     ·exact h
     ·exact absurd hne h
     exact absurd hne h
    subst hne;obtain rfl:i=0:=hli.symm;simp only[vx,T,seval,nX,nV,tC,ag,o2];refine Cg ct ?_;simp only[vx,T,seval,nX,nV,tC,ag,wi];refine Lq ⟨1,by omega,hil⟩ ?_ (by show 24-1<24-0;omega);have hl1:L'=[z]:=hl';refine Sa ?_;simp only[ry,seval,rz,mv,←hL',hl1,←hqe',List.length_cons,List.length_nil];exact⟨rfl,sV (ks:=[]) rfl z⟩
   have ip:0<i:=by rw[←hli];exact List.length_pos_iff.2 hne
   obtain⟨b,cl,hyb⟩:∃b:Bool,Pr Tryz.prog 23 [nX x] (.one (.bool b))∧((b=false∧y=x)∨(b=true∧y=L.getD (i-1) default)):=by
    rcases hy with⟨h,_⟩|⟨_,h1,h2⟩|⟨_,h1,h2⟩
    ·exact absurd h hne
    ·exact⟨false,h1,.inl ⟨rfl,h2⟩⟩
    exact⟨true,h1,.inr ⟨rfl,by rw[h2,hli]⟩⟩
   clear hy;rw[hli]at hx;have ia:o.a%i<i:=Nat.mod_lt _ ip;have ib:o.b%i<i:=Nat.mod_lt _ ip;obtain⟨a,hae⟩:∃a,a=L.getD (o.a%i) default:=⟨_,rfl⟩;obtain⟨c,hce⟩:∃c,c=L.getD (o.b%i) default:=⟨_,rfl⟩;rw[←hae,←hce]at hx;have w7:((i:Int)-1).toNat=i-1:=by omega
   have w8:IntKind.i64.wrap ((q:Int)+1)=((q+1:Nat):Int):=by rw[IntWalk.i64_in _ (by omega)];omega
   rcases hx with⟨hx,rfl,rfl⟩|⟨_,hbo⟩
   have hk:=hx.resolve_left hne;simp only[vx,T,seval,nX,nV,tC,ag,o2,hk,hli,w4,w5,o3,o4,fU,←hae,←hce,ir];refine⟨fun _=>Lg ?_,fun h=>absurd (by omega) h⟩;simp only[vx,T,seval,nX,nV,tC,ag,o2,hk,hli,w4,w5,o3,o4,fU,←hae,←hce,ir]
   rotate_left
   rcases hbo with⟨hk,rfl,c1⟩|⟨hk,rfl,c1⟩|⟨hk,rfl,c1⟩|⟨hk,rfl,c1⟩|⟨hk,rfl,rfl,c1⟩|⟨hk,s,d,c1,c2,c3⟩
   iterate 6 (simp only[vx,T,seval,nX,nV,tC,ag,o2,hk,hli,w4,w5,o3,o4,fU,←hae,←hce,ir];refine⟨fun _=>Lg ?_,fun h=>absurd (by omega) h⟩;simp only[vx,T,seval,nX,nV,tC,ag,o2,hk,hli,w4,w5,o3,o4,fU,←hae,←hce,ir];refine⟨by omega,by omega,by omega,by omega,by omega,Cg c1 ?_⟩;simp only[vx,T,seval,nX,nV,tC,ag,o2,hk,hli,w4,w5,o3,o4,fU,←hae,←hce,ir];rotate_left)
   rotate_left
   iterate 4 (refine Cg (vD x a) ?_;simp only[vx,T,seval,nX,nV,tC,ag,o2,hk,hli,w4,w5,o3,o4,fU,←hae,←hce,ir];rotate_left)
   refine Cg (BZ x) ?_;simp only[vx,T,seval,nX,nV,tC,ag,o2,hk,hli,w4,w5,o3,o4,fU,←hae,←hce,ir]
   rotate_left
   rcases c2 with⟨g3,c2⟩|⟨g3,rfl⟩
   refine⟨fun _=>Lg ?_,fun h=>absurd g3 h⟩;simp only[vx,T,seval,nX,nV,tC,ag,o2,hk,hli,w4,w5,o3,o4,fU,←hae,←hce,ir];refine Cg c2 ?_;simp only[vx,T,seval,nX,nV,tC,ag,o2,hk,hli,w4,w5,o3,o4,fU,←hae,←hce,ir]
   rotate_left
   refine⟨fun h=>absurd h g3,fun _=>Lg ?_⟩;simp only[vx,T,seval,nX,nV,tC,ag,o2,hk,hli,w4,w5,o3,o4,fU,←hae,←hce,ir]
   rotate_right
   iterate 2 (
    rcases c3 with⟨g4,rfl,c3⟩|⟨g4,rfl,rfl⟩
    refine⟨fun _=>Lg ?_,fun h=>absurd (by omega) h⟩;simp only[vx,T,seval,nX,nV,tC,ag,w8];refine Cg c3 ?_;simp only[vx,T,seval,nX,nV,tC,ag,w8];refine Cg (vD x d) ?_;simp only[vx,T,seval,nX,nV,tC,ag,w8,hli]
    rotate_left
    refine⟨fun h=>absurd h (by omega),fun _=>Lg ?_⟩;simp only[vx,T,seval,nX,nV,tC,ag,w8,hli]
    rotate_left)
   all_goals
    refine⟨fun _=>Lg ?_,fun h=>absurd (by omega) h⟩;simp only[vx,T,seval,nX,nV,tC,ag];refine Cg cl ?_;simp only[vx,T,seval,nX,nV,tC,ag]
    rcases hyb with⟨rfl,rfl⟩|⟨rfl,hyl⟩
    ·simp only[vx,T,seval,nX,nV,tC,ag];refine Cg ct ?_;simp only[vx,T,seval,nX,nV,tC,ag,wi,hli];refine⟨by omega,Lq ⟨i+1,by omega,hil⟩ ?_ (by show 24-(i+1)<24-i;omega)⟩;refine Sa ?_;simp only[ry,seval,rz,mv,←hL',hl',←hqe',X6,List.length_cons,List.length_nil,hli];exact sV hli z
    simp only[vx,T,seval,nX,nV,tC,ag,hli,w6,w7,fU,←hyl,ir];refine⟨by omega,?_⟩;refine Cg ct ?_;simp only[vx,T,seval,nX,nV,tC,ag,wi,hli];refine⟨by omega,Lq ⟨i+1,by omega,hil⟩ ?_ (by show 24-(i+1)<24-i;omega)⟩;refine Sa ?_;simp only[ry,seval,rz,mv,←hL',hl',←hqe',X6,List.length_cons,List.length_nil,hli];exact sV hli z
  obtain rfl:i=N:=by omega
  simp only[vx,T,seval,mv];exact Ve rfl
 obtain rfl:i=N:=by omega
 simp only[vx,T,seval,mv];exact Ve rfl
open Go Go.Eng
open Go.Tw (El ax qN jβ jμ bn)
section
variable {A:List R}(S:Go.Tw.Src 64 A)(hA:A.length≤3)
include S hA
end
open Go Go.Eng
open Go.Tw (El ax qN jβ jμ bn bY TG iD QB lR val dH In mS tB aG)
theorem Ep (x y:List El×El)(hi:Pr Tryz.prog 49 [tV y.1.length y.1,eV y.2] (.aJ [.one .nil,.one (.int .i64 6)])):
  Pr Tryz.prog 19 [nX x,nX y] (.aJ [.agg [.nil,.nil],.one (.int .i64 6)]):=by
 refine pw Tryz.func19 ⟨[0,1,2,3,4,5,6,7,17],[]⟩ ?_;simp only[Tryz.f19,Tryz.ntmps19,iz,seval];simp only[vx,T,seval,nX,nV,tC,eV,ag];refine Cg hi ?_;simp only[vx,T,seval,nX,nV,tV,tC,eV,ag];exact Ve rfl
theorem C4 {a:El}(h:∀i,i<a.length→¬nf 2 (a.getD i default)):iD 64 a:=by
 have:QB 2 a:=fun c hc=>by
  obtain⟨i,hi,rfl⟩:=List.mem_iff_getElem.1 hc
  have:=h i hi
  rw[X7,X8 hi,Option.getD_some]at this;unfold nf at this;unfold qm;omega
 exact this.bits
theorem IQ {A:List R}{x:List El×El}{v:R}{β μ:Nat}(h:ax A x.1 x.2 v β μ)(hl:¬LgA 2 x):bY A 64 x.1 x.2 v:=
 ⟨h.tg,h.len,h.val,C4 fun i hi hq=>hl (.inl ⟨i,hi,hq⟩),fun j hj=>C4 fun i hi hq=>hl (.inr ⟨j,hj,i,hi,hq⟩)⟩
theorem CT {A:List R}{n:Int}{d:Nat}(hn: -128≤n∧n≤127)(h0:0<d)(hd:d≤8):bY A 64 [] [mkRat n d] (R.q (mkRat n d)):=by
 refine⟨⟨⟨fun i hi=>absurd hi (Nat.not_lt_zero _),fun i hi=>absurd hi (Nat.not_lt_zero _)⟩,fun i hi=>absurd hi (Nat.not_lt_zero _)⟩,rfl,rfl,QB.bits (B:=2) fun c hc=>?_,fun i hi=>absurd hi (Nat.not_lt_zero _)⟩;rw[List.mem_singleton.1 hc];refine Nat.le_trans (IB h0) ?_;have h1:nl n.natAbs≤2:=aB (by have:BB^2=18446744073709551616:=rfl;omega);have h2:nl d≤2:=aB (by have:BB^2=18446744073709551616:=rfl;omega);show max (nl n.natAbs) _≤_;omega
theorem EV:R.sqrt (R.q 0)=R.q 0:=R.OP (R.dU (R.bG.2 (.inl rfl)))
theorem xp:∀h,h≤3→qN h 520 8≤2^26∧mS h (qN h 520 8+qN h 520 8) tB<2^34:=by
 intro h hh
 match h,hh with
 |0,_=>decide+kernel
 |1,_=>decide+kernel
 |2,_=>decide+kernel
 |3,_=>decide+kernel
section
variable {A:List R}(S:Go.Tw.Src 64 A)(hA:A.length≤3)
include S hA
theorem nm {x:List El×El}{v:R}(h:bY A 64 x.1 x.2 v):ax A x.1 x.2 v 520 8:=by
 have h3:=h.tg.lS S hA;have h8:2^x.1.length≤2^3:=Nat.pow_le_pow_right (by decide) h3;exact h.num.mono (by omega) h8
theorem NZ (h2:A.length≤2){c:List El×El}{v:R}(h:bY A 64 c.1 c.2 v)(hn:R.nn v):∃(A':List R) (x:List El×El),Go.Tw.Src 64 A'∧(∀a,a∈A→a∈A')∧A'.length≤A.length+1∧ax A' x.1 x.2 (R.sqrt v) 0 1∧Pr Tryz.prog 22 [nX c] (.aJ [nX x,.one (.int .i64 0)]):=by
 have hv:=h.val
 by_cases h0:v=R.q 0
 ·have tl:=h.tg.F3 hA;have rb:=h.tg.OV S hA (by omega) h.len (by rw[hv,h0])
  rcases uS S hA h.tg h.len (by rw[hv];exact hn) rb with⟨w,lw,ew,cw⟩|⟨no,_⟩
  ·refine⟨A,(c.1,w),S,fun _ h=>h,by omega,⟨h.tg,lw,by rw[ew,hv],?_⟩,qF c c.1 w cw⟩;rw[h0,EV];exact(lR.rat (by decide) (by decide)).mono (Nat.le_refl _) (by omega)
  exact absurd (by rw[hv,h0,R.zero_mul]) (no _ (In.rat 0))
 have hp:R.pos v:=(R.bG.1 hn).resolve_left h0;have S':Go.Tw.Src 64 (A++[val c.1.length c.1 c.2]):=S.snoc hA h.tg h.len h.bits (by rw[hv];exact hp);rw[hv]at S';have hA':(A++[v]).length≤3:=by rw[X6];show _+1≤3;omega
 have sub:∀a,a∈A→a∈A++[v]:=fun a ha=>List.mem_append_left _ ha;have mem:v∈A++[v]:=List.mem_append_right _ (by simp);have G:=h.tg.sub sub;have rb:=G.Pq S' hA' h.len (by rw[hv];exact mem) (by rw[hv];exact hp);have hl:(A++[v]).length≤A.length+1:=by rw[X6];exact Nat.le_refl _
 rcases uS S' hA' G h.len (by rw[hv];exact hn) rb with⟨w,lw,ew,cw⟩|⟨no,cw⟩
 ·exact⟨_,(c.1,w),S',sub,hl,⟨G,lw,by rw[ew,hv],.root mem ⟨w,lw,by rw[ew,hv]⟩⟩,qF c c.1 w cw⟩
 have T':=G.snoc h.len (by rw[hv];exact mem) (by rw[hv];exact hp) no;have e1:(c.1++[c.2]).length=c.1.length+1:=by simp
 have lr:(dH c.1.length).length=2^(c.1++[c.2]).length:=by rw[e1];exact Go.Tw.kK
 have vr:val (c.1++[c.2]).length (c.1++[c.2]) (dH c.1.length)=R.sqrt v:=by rw[e1,Go.Tw.qW,hv]
 rw[←e1]at cw;exact⟨_,(c.1++[c.2],dH c.1.length),S',sub,hl,⟨T',lr,vr,.root mem ⟨_,lr,vr⟩⟩,qF c _ _ cw⟩
theorem P1 {k:Nat}(hk:k<6)(h0:k≠0){a b:List El×El}{va vb:R}(ha:bY A 64 a.1 a.2 va)(hb:bY A 64 b.1 b.2 vb){q:Nat}(hq:A.length≤q)(hq3:q≤3):
  ∃(A':List R) (q':Nat) (x:List El×El) (v:R),BO k q q' a b x∧Go.Tw.Src 64 A'∧(∀y,y∈A→y∈A')∧A'.length≤q'∧q'≤3∧ax A' x.1 x.2 v 2000 32:=by
 have na:=nm S hA ha;have nb:=nm S hA hb;have sm:Sm 520 8:=.of (by decide) (by decide);have j1:520≤jβ:=by decide
 have j2:8≤jμ:=by decide
 have same:∀{x:List El×El} {v:R},BO k q q a b x→ax A x.1 x.2 v 2000 32→∃(A':List R) (q':Nat) (x:List El×El) (v:R),BO k q q' a b x∧Go.Tw.Src 64 A'∧(∀y,y∈A→y∈A')∧A'.length≤q'∧q'≤3∧ax A' x.1 x.2 v 2000 32:=
  fun hb hx=>⟨A,q,_,_,hb,S,fun _ h=>h,hq,hq3,hx⟩
 have hm:∀h,h≤3→mS h (qN h 520 8+qN h 520 8) tB<2^34:=fun h hh=>(xp h hh).2
 match k,hk,h0 with
 |1,_,_=>
  obtain⟨z,nz,c⟩:=lI S hA na nb sm sm j1 j2;exact same (.inl ⟨rfl,rfl,c⟩) (nz.mono (by decide) (by decide))
 |2,_,_=>
  obtain⟨z,nz,c⟩:=tA S hA na nb sm sm j1 j2;exact same (.inr (.inl ⟨rfl,rfl,c⟩)) (nz.mono (by decide) (by decide))
 |3,_,_=>
  obtain⟨z,nz,c⟩:=kT S hA na nb sm sm j1 j2 hm;exact same (.inr (.inr (.inl ⟨rfl,rfl,c⟩))) (nz.mono (by decide) (by decide))
 |4,_,_=>
  have iv:=wO Go.Tw.kV (xp _ (hb.tg.lS S hA)).1 (pD S hA hb.tg) hb.tg.rd hb.len (nb.PY S hA)
  cases e:Go.Tw.cg b.1.length b.1 b.2 with
  |none=>exact same (.inr (.inr (.inr (.inr (.inl ⟨rfl,rfl,rfl,Ep a b (iv.2 e)⟩))))) (na.mono (by decide) (by decide))
  |some n=>
   obtain⟨ln,en⟩:=Go.Tw.du hb.tg.rd.rl hb.len e;rw[hb.val]at en;obtain⟨z,nz,c⟩:=kT S hA na (y:=(b.1,n)) ⟨hb.tg,ln,rfl,nb.sz.inv en⟩ sm sm j1 j2 hm;exact same (.inr (.inr (.inr (.inl ⟨rfl,rfl,GS a b z n (iv.1 n e).rows c⟩)))) (nz.mono (by decide) (by decide))
 |5,_,_=>
  have sg:=H2 Go.Tw.kV (xp _ (ha.tg.lS S hA)).1 (pD S hA ha.tg) ha.len (na.OR S hA);rw[Go.Tw.cP ha.tg.rd.rl ha.len,ha.val]at sg;have key:∃(c:List El×El) (w:R),bY A 64 c.1 c.2 w∧R.nn w∧((R.cJ va<0∧Pr Tryz.prog 21 [nX a] (nX c))∨(¬R.cJ va<0∧c=a)):=by
   rcases R.dv va with⟨e,es⟩|⟨e,es⟩|⟨e,es⟩
   ·exact⟨a,va,ha,R.bG.2 (.inl e),.inr ⟨by omega,rfl⟩⟩
   ·exact⟨a,va,ha,R.bG.2 (.inr e),.inr ⟨by omega,rfl⟩⟩
   refine⟨(a.1,aG a.2),-va,⟨ha.tg,by rw[Go.Tw.ar,ha.len],by rw[←ha.val];exact Go.Tw.val_neg ha.len,fun c hc=>?_,ha.tb⟩,R.bG.2 (.inr e),.inl ⟨by omega,tP S hA na sm⟩⟩;obtain⟨x,hx,rfl⟩:=List.mem_map.1 hc
   have:=ha.bits x hx
   rw[Rat.neg_num,Rat.neg_den,Int.natAbs_neg];exact this
  obtain⟨c,w,hc,hw,hs⟩:=key
  by_cases g:q<3
  ·obtain⟨A',x,S',sub,hl,nx,cs⟩:=NZ S hA (by omega) hc hw;exact⟨A',q+1,x,_,.inr (.inr (.inr (.inr (.inr ⟨rfl,_,c,sg,hs,.inl ⟨g,rfl,cs⟩⟩)))),S',sub,by omega,by omega,nx.mono (by decide) (by decide)⟩
  exact same (.inr (.inr (.inr (.inr (.inr ⟨rfl,_,c,sg,hs,.inr ⟨g,rfl,rfl⟩⟩))))) (na.mono (by decide) (by decide))
end
open Go Go.Eng
open Go.Tw (El ax bY TG)
theorem Ob {A:List R}(S:Go.Tw.Src 64 A){o:EH}(ho:o.Ok){q:Nat}(hq:A.length≤q)(hq3:q≤3){l:List (List El×El)}(hl:∀x∈l,∃v,bY A 64 x.1 x.2 v):
  ∃(A':List R) (q':Nat) (l':List (List El×El)),BS o q l q' l'∧Go.Tw.Src 64 A'∧A'.length≤q'∧q'≤3∧l'.length=l.length+1∧∀x∈l',∃v,bY A' 64 x.1 x.2 v:=by
 have hA:A.length≤3:=by omega
 have hn:=ho.n;have fc:=MU o.n (o.d%8+1) (by omega) (by omega) (by omega) (Nat.lt_of_le_of_lt (show zn o.n≤2 from aB (by have:BB^2=18446744073709551616:=rfl;omega)) (by decide)) (Nat.lt_of_le_of_lt (show nl _≤2 from aB (by have:BB^2=18446744073709551616:=rfl;omega)) (by decide));have fs:bY A 64 [] [mkRat o.n (o.d%8+1:Nat)] _:=CT hn (by omega) (by omega);have get:∀i,i<l.length→∃v,bY A 64 (l.getD i default).1 (l.getD i default).2 v:=fun i hi=>hl _ (by rw[X7,X8 hi];exact List.getElem_mem _)
 -- the number made
 have hx:∃(A':List R) (q':Nat) (x:List El×El) (v:R),Go.Tw.Src 64 A'∧(∀y,y∈A→y∈A')∧A'.length≤q'∧q'≤3∧ax A' x.1 x.2 v 2000 32∧(l=[]→∃v,bY A' 64 x.1 x.2 v)∧
   (((l=[]∨o.k%6=0)∧q'=q∧x=([],[mkRat o.n (o.d%8+1:Nat)]))∨(l≠[]∧BO (o.k%6) q q' (l.getD (o.a%l.length) default) (l.getD (o.b%l.length) default) x)):=by
  by_cases h:l=[]∨o.k%6=0
  ·exact⟨A,q,_,_,S,fun _ h=>h,hq,hq3,(nm S hA (x:=([],[mkRat o.n (o.d%8+1:Nat)])) fs).mono (by decide) (by decide),fun _=>⟨_,fs⟩,.inl ⟨h,rfl,rfl⟩⟩
  have hne:l≠[]:=fun e=>h (.inl e);have lp:=List.length_pos_iff.2 hne;obtain⟨va,ha⟩:=get _ (Nat.mod_lt o.a lp);obtain⟨vb,hb⟩:=get _ (Nat.mod_lt o.b lp);obtain⟨A',q',x,v,b,S',sub,h1,h2,nx⟩:=P1 S hA (k:=o.k%6) (Nat.mod_lt _ (by decide)) (fun e=>h (.inr e)) ha hb hq hq3;exact⟨A',q',x,v,S',sub,h1,h2,nx,fun e=>absurd e hne,.inr ⟨hne,b⟩⟩
 obtain⟨A',q',x,v,S',sub,h1,h2,nx,hs0,hx⟩:=hx;have hA':A'.length≤3:=by omega
 have x3:=nx.tg.lS S' hA';have xl:x.2.length<2^38:=by rw[nx.len];exact aO (by omega)
 have lg:∀b:Bool,(b=true↔LgA 2 x)→Pr Tryz.prog 23 [nX x] (.one (.bool b)):=fun b hb=>Ni x xl (by omega) (fun j hj=>by rw[(nx.tg.rd.rl j hj).1];exact aO (by omega)) hb;have hl':∀x∈l,∃v,bY A' 64 x.1 x.2 v:=fun x hx=>(hl x hx).imp fun _ h=>h.sub sub
 -- the number kept
 have hy:∃(y:List El×El) (w:R),bY A' 64 y.1 y.2 w∧((l=[]∧y=x)∨(l≠[]∧Pr Tryz.prog 23 [nX x] (.one (.bool false))∧y=x)∨(l≠[]∧Pr Tryz.prog 23 [nX x] (.one (.bool true))∧y=l.getD (l.length-1) default)):=by
  by_cases h:l=[]
  ·obtain⟨w,hw⟩:=hs0 h;exact⟨x,w,hw,.inl ⟨h,rfl⟩⟩
  by_cases g:LgA 2 x
  ·have lp:=List.length_pos_iff.2 h;obtain⟨w,hw⟩:=get (l.length-1) (by omega);exact⟨_,w,hw.sub sub,.inr (.inr ⟨h,lg true ⟨fun _=>g,fun _=>rfl⟩,rfl⟩)⟩
  exact⟨x,v,IQ nx g,.inr (.inl ⟨h,lg false ⟨fun e=>(by cases e),fun k=>absurd k g⟩,rfl⟩)⟩
 obtain⟨y,w,sy,hy⟩:=hy;refine⟨A',q',l++[kL y.1.length y],⟨_,x,y,_,fc,hx,hy,Mo S' hA' y sy,rfl⟩,S',h1,h2,by rw[X6];rfl,fun z hz=>?_⟩
 rcases List.mem_append.1 hz with hz|hz
 ·exact hl' z hz
 rw[List.mem_singleton.1 hz];exact⟨w,mM _ (Nat.le_refl _) sy⟩
theorem KG (r:List EH)(hr:∀o∈r,o.Ok)(hrl:r.length<2^63):∃(A:List R) (l:List (List El×El)),Go.Tw.Src 64 A∧A.length≤3∧l.length≤24∧(∀x∈l,∃v,bY A 64 x.1 x.2 v)∧Pr Tryz.prog 4 [mv r] (.one (aZ l)):=by
 obtain⟨s,e0,hI,hS⟩:=Go.Tw.chain (α:=List R×Nat×List (List El×El)) (x0:=([],0,[])) (n:=min r.length 24)
  (I:=fun i y=>Go.Tw.Src 64 y.1∧y.1.length≤y.2.1∧y.2.1≤3∧y.2.2.length=i∧∀x∈y.2.2,∃v,bY y.1 64 x.1 x.2 v)
  (St:=fun i y y'=>BS (r.getD i default) y.2.1 y.2.2 y'.2.1 y'.2.2)
  ⟨⟨fun k hk=>absurd hk (Nat.not_lt_zero _),fun k hk=>absurd hk (Nat.not_lt_zero _)⟩,Nat.le_refl _,by decide,rfl,fun x hx=>(by cases hx)⟩
  (fun i y hi ⟨h1,h2,h3,h4,h5⟩=>by
   obtain⟨A',q',l',b,k1,k2,k3,k4,k5⟩:=Ob h1 (o:=r.getD i default) (hr _ (by rw[X7,X8 (by omega)];exact List.getElem_mem _)) h2 h3 h5;exact⟨(A',q',l'),b,k1,k2,k3,by show l'.length=i+1;rw[k4,h4],k5⟩)
 obtain⟨k1,k2,k3,k4,k5⟩:=hI _ (Nat.le_refl _);refine⟨_,_,k1,by omega,by omega,k5,xA r hr hrl (fun i=>(s i).2.1) (fun i=>(s i).2.2) (by rw[e0]) (by rw[e0]) (fun i h1 h2=>?_) (fun i h1 h2=>hS i (by omega))⟩;obtain⟨_,_,g3,g4,_⟩:=hI i (by omega);exact⟨g4,g3⟩
open Go Go.Eng
theorem H3 (x y:Int):ef x y=ox x y:=rfl
theorem Gn (a b:List Int)(h:a=[]):uc a b=0:=by subst h;rfl
theorem rW (a b:List Int)(ha:a.length<2^40)(hb:b.length<2^40):Pr Tryz.prog 67 [.one (.ints .i64 a),.one (.ints .i64 b)] (.one (.int .i64 (LZ a b))):=by
 refine pw Tryz.func67 ⟨[0,1,4,5,10,19,30],[]⟩ ?_;simp only[Tryz.f67,Tryz.ntmps67,iz,seval];simp only[vx,T,seval];refine⟨fun h1=>Lg ?_,fun h1=>Lg ?_⟩
 ·have e1:LZ a b=(a.length:Int)-b.length:=by unfold LZ;rw[if_neg (by omega)]
  have e2:IntKind.i64.wrap ((a.length:Int)-b.length)=(a.length:Int)-b.length:=IntWalk.i64_in _ (by omega);simp only[vx,T,seval];rw[e1,e2];exact Ve rfl
 have hl:a.length=b.length:=by omega
 have e1:LZ a b=uc a b:=by unfold LZ;rw[if_pos hl]
 rw[e1];simp only[vx,T,seval];refine Lk (fun y:{i:Nat//i≤a.length∧uc a b=uc (a.drop i) (b.drop i)}=>⟨[(0,.one (.ints .i64 a)),(1,.one (.ints .i64 b)),(4,.one (.int .i64 0)),(5,.one (.int .i64 y.1))],[],1,40⟩) (fun y=>a.length-y.1) ⟨0,by omega,rfl⟩ ?_ (fun⟨i,hi,he⟩=>?_)
 ·refine Sa ?_;simp only[ry,seval,rz]
 simp only[vx,T,seval];refine⟨fun h2=>Lg ?_,fun h2=>Lg ?_⟩
 ·have hia:i<a.length:=by omega
  have hib:i<b.length:=by omega
  have i1:=wI i (by omega);rw[nr hia,nr hib]at he;simp only[uc]at he;simp only[vx,T,seval];refine⟨by omega,by omega,?_⟩;refine⟨fun h3=>Lg ?_,fun h3=>Lg ?_⟩
  ·rw[if_neg h3]at he;simp only[vx,T,seval];refine⟨by omega,by omega,?_⟩;rw[he];exact Ve rfl
  rw[if_pos (by omega)]at he;simp only[vx,T,seval];simp only[i1];refine Lq ⟨i+1,by omega,he⟩ ?_ ?_
  ·refine Sa ?_;simp only[ry,seval,rz]
  simp only;omega
 simp only[vx,T,seval];rw[he,Gn _ _ (List.drop_eq_nil_of_le (by omega))];exact Ve rfl
theorem vn (a b:List Int)(ha:a.length<2^40)(hb:b.length<2^40):Pr Tryz.prog 121 [.one (.ints .i64 a),.one (.ints .i64 b)] (.one (.int .i64 (gk a b))):=by
 refine pw Tryz.func121 ⟨[0,1,4,5,6,7,8,9,10,11,12,19,28,35],[]⟩ ?_;simp only[Tryz.f121,Tryz.ntmps121,iz,seval];simp only[vx,T,seval];refine Lk (fun y:{i:Nat//i≤a.length∧i≤b.length∧gk a b=gk (a.drop i) (b.drop i)}=>⟨[(0,.one (.ints .i64 a)),(1,.one (.ints .i64 b)),(4,.one (.int .i64 0)),(9,.one (.ints .i64 a)),(10,.one (.int .i64 a.length)),(11,.one (.int .i64 y.1))],[],1,36⟩) (fun y=>a.length-y.1) ⟨0,by omega,by omega,rfl⟩ ?_ (fun⟨i,hi,hi2,he⟩=>?_)
 ·refine Sa ?_;simp only[ry,seval,rz]
 simp only[vx,T,seval];refine⟨fun h2=>Lg ?_,fun h2=>Lg ?_⟩
 ·have hia:i<a.length:=by omega
  rw[nr hia]at he;simp only[vx,T,seval];refine⟨by omega,?_⟩;refine⟨fun h3=>Lg ?_,fun h3=>Lg ?_⟩
  ·rw[List.drop_eq_nil_of_le (show b.length≤i by omega)]at he;simp only[vx,T,seval];rw[he];exact Ve rfl
  have hib:i<b.length:=by omega
  have i1:=wI i (by omega);rw[nr hib]at he;simp only[gk]at he;simp only[vx,T,seval];refine⟨by omega,Cg (eY _ _) ?_⟩;rw[H3];simp only[vx,T,seval];refine⟨fun h4=>Lg ?_,fun h4=>Lg ?_⟩
  ·rw[if_neg h4]at he;simp only[vx,T,seval];rw[he];exact Ve rfl
  rw[if_pos (by omega)]at he;simp only[vx,T,seval];simp only[i1];refine Lq ⟨i+1,by omega,by omega,he⟩ ?_ ?_
  ·refine Sa ?_;simp only[ry,seval,rz]
  simp only;omega
 rw[List.drop_eq_nil_of_le (show a.length≤i by omega)]at he;simp only[vx,T,seval];refine⟨fun h3=>Lg ?_,fun h3=>Lg ?_⟩
 ·simp only[vx,T,seval];rw[he]
  cases hd:b.drop i with
  |nil=>have:=List.drop_eq_nil_iff.1 hd;omega
  |cons y ys=>exact Ve rfl
 simp only[vx,T,seval];rw[he,List.drop_eq_nil_of_le (by omega)];exact Ve rfl
theorem nZ (a b:List Int)(ha:a.length<2^40)(hb:b.length<2^40):Pr Tryz.prog 79 [.one (.ints .i64 a),.one (.ints .i64 b)] (.one (.int .i64 (cI a b))):=by
 refine pw Tryz.func79 ⟨[0,1,4,5,12],[]⟩ ?_;simp only[Tryz.f79,Tryz.ntmps79,iz,seval];simp only[vx,T,seval];refine Cg (eY _ _) ?_;rw[H3];simp only[vx,T,seval];refine⟨fun h1=>Lg ?_,fun h1=>Lg ?_⟩
 ·have e1:cI a b=ox a.length b.length:=by unfold cI;rw[if_neg h1]
  simp only[vx,T,seval];rw[e1];exact Ve rfl
 have e1:cI a b=gk a b:=by unfold cI;rw[if_pos (by omega)]
 simp only[vx,T,seval];refine Cg (vn a b ha hb) ?_;simp only[vx,T,seval];rw[e1];exact Ve rfl
open Go Go.Eng
def mC (m:ao):Nat→C
 |0=>.bool (zs m.1.num)
 |1=>.ints .u32 (zm m.1.num)
 |2=>.bool (zs (m.1.den:Int))
 |3=>.ints .u32 (zm (m.1.den:Int))
 |4=>.ints .i64 m.2
 |_=>.any
def MV (m:ao):V:=.agg [mC m 0,mC m 1,mC m 2,mC m 3,mC m 4]
def PC (p:List ao):C:=.rows 5 p.length (fun i=>mC (p.getD i default))
def PV (p:List ao):V:=.one (PC p)
theorem wB (p q:List ao)(hp:MS p)(hq:MS q):Pr Tryz.prog 27 [PV p,PV q] (.one (.bool (decide (p=q)))):=by
 obtain⟨hpl,hpm⟩:=id hp;obtain⟨hql,hqm⟩:=id hq;refine pw Tryz.func27 ⟨[0,1,4,5,10,14,42],[]⟩ ?_;simp only[Tryz.f27,Tryz.ntmps27,iz,seval];simp only[vx,T,seval,PV,PC];refine⟨fun h1=>Lg ?_,fun h1=>Lg ?_⟩
 ·simp only[vx,T,seval];refine vb (decide_eq_false ?_).symm;rintro rfl;exact h1 rfl
 have hl:p.length=q.length:=by omega
 simp only[vx,T,seval,PV,PC];refine Lk (fun y:{i:Nat//i≤p.length∧(p=q↔p.drop i=q.drop i)}=>⟨[(0,PV p),(1,PV q),(4,.one (.bool false)),(5,.one (.int .i64 y.1))],[],1,43⟩) (fun y=>p.length-y.1) ⟨0,by omega,Iff.rfl⟩ ?_ (fun⟨i,hi,he⟩=>?_)
 ·refine Sa ?_;simp only[ry,seval,rz,PV,PC]
 simp only[vx,T,seval,PV,PC];refine⟨fun h2=>Lg ?_,fun h2=>Lg ?_⟩
 ·have hip:i<p.length:=by omega
  have hiq:i<q.length:=by omega
  have i1:=wI i (by omega);rw[s6 hip,s6 hiq,List.cons.injEq]at he;have m1:=hp.get i;have m2:=hq.get i;obtain⟨a,ha⟩:∃a,a=p.getD i default:=⟨_,rfl⟩;obtain⟨b,hb⟩:∃b,b=q.getD i default:=⟨_,rfl⟩;rw[←ha]at m1 he;rw[←hb]at m2 he;obtain⟨e1,e2⟩:=yr m1.inr m2.inr;simp only[vx,T,seval,PV,PC,←ha,←hb,mC];refine⟨by omega,by omega,Cg (rW a.2 b.2 (Nat.lt_trans m1.len (by decide)) (Nat.lt_trans m2.len (by decide))) ?_⟩;simp only[vx,T,seval];refine⟨fun h3=>Lg ?_,fun h3=>Lg ?_⟩
  ·rw[e2]at h3;simp only[vx,T,seval];refine vb (decide_eq_false ?_).symm;rw[he];rintro⟨rfl,_⟩;exact h3 rfl
  have h3:a.2=b.2:=e2.1 (by omega);simp only[vx,T,seval,←ha,←hb,mC];refine⟨by omega,by omega,Cg (yZ a.1 b.1 (Nat.lt_trans m1.q (by decide)) (Nat.lt_trans m2.q (by decide))) ?_⟩;simp only[vx,T,seval];refine⟨fun h4=>Lg ?_,fun h4=>Lg ?_⟩
  ·simp only[vx,T,seval];refine vb (decide_eq_false ?_).symm;rw[he];rintro⟨rfl,_⟩;simp at h4
  have h4:a=b:=Prod.ext (by simpa using h4) h3;simp only[vx,T,seval];simp only[i1];refine Lq ⟨i+1,by omega,by rw[he];exact⟨fun h=>h.2,fun h=>⟨h4,h⟩⟩⟩ ?_ ?_
  ·refine Sa ?_;simp only[ry,seval,rz,PV,PC]
  simp only;omega
 simp only[vx,T,seval];refine vb (decide_eq_true ?_).symm;rw[he,List.drop_eq_nil_of_le (show p.length≤i by omega),List.drop_eq_nil_of_le (show q.length≤i by omega)]
open Go Go.Eng
def rC (m:Raw):Nat→C
 |0=>.bool m.s
 |1=>.ints .u32 m.xs
 |2=>.bool m.t
 |3=>.ints .u32 m.ys
 |4=>.ints .i64 m.vs
 |_=>.any
def RC (p:List Raw):C:=.rows 5 p.length (fun i=>rC (p.getD i default))
def RV (p:List Raw):V:=.one (RC p)
def so (m:Raw):Bool:=yt m.s m.xs m.t m.ys&&decide (val m.xs≠0)
def gB (p:List Raw)(i:Nat):Bool:=so (p.getD i default)&&(vB (p.getD i default).vs&&(decide (i=0)||decide (cI (p.getD (i-1) default).vs (p.getD i default).vs<0)))
def vR (p:List Raw):Bool:=(List.range p.length).all (gB p)
theorem Hg {s t:Bool}{xs ys:List Int}(h:yt s xs t ys=true):∃q:Rat,s=zs q.num∧xs=zm q.num∧t=zs (q.den:Int)∧ys=zm (q.den:Int):=by
 obtain⟨q,hq⟩:=No h;unfold QC at hq;simp only[List.cons.injEq,C.bool.injEq,C.ints.injEq,and_true,true_and]at hq;exact⟨q,hq⟩
open Go Go.Eng
theorem dV {z:Int}:cJ z=0↔z=0:=by unfold cJ;(repeat' split)<;>omega
def zh (vs:List Int)(k:Nat):Bool:=decide (0≤vs.getD k 0)&&(decide (k=0)||decide (vs.getD (k-1) 0≤vs.getD k 0))
theorem xy (p:List Raw)(hp:La p):Pr Tryz.prog 30 [RV p] (.one (.bool (vR p))):=by
 obtain⟨hpl,hpm⟩:=id hp;have hvR:vR p=(List.range p.length).all (gB p):=rfl;refine pw Tryz.func30 ⟨[0,2,3,4,5,9,46,55,78],[]⟩ ?_;simp only[Tryz.f30,Tryz.ntmps30,iz,seval];simp only[vx,T,seval,RV,RC];refine Lk (fun y:{i:Nat//i≤p.length∧∀j,j<i→gB p j=true}=>⟨[(0,RV p),(2,.one (.bool false)),(3,.one (.int .i64 y.1))],[],1,79⟩) (fun y=>p.length-y.1) ⟨0,by omega,fun j hj=>by omega⟩ ?_ (fun⟨i,hi,he⟩=>?_)
 ·refine Sa ?_;simp only[ry,seval,rz,RV,RC]
 simp only[vx,T,seval,RV,RC];refine⟨fun h2=>Lg ?_,fun h2=>Lg ?_⟩
 ·have hip:i<p.length:=by omega
  have i1:=wI i (by omega);have m1:=hp.get i;have m0:=hp.get (i-1)
  have hgi:gB p i=(so (p.getD i default)&&(vB (p.getD i default).vs&&(decide (i=0)||decide (cI (p.getD (i-1) default).vs (p.getD i default).vs<0)))):=rfl
  have hasc0:i≠0→vB (p.getD (i-1) default).vs=true:=fun h0=>by
   have:=he (i-1) (by omega)
   unfold gB at this;simp only[Bool.and_eq_true]at this;exact this.2.1
  obtain⟨a,ha⟩:∃a,a=p.getD i default:=⟨_,rfl⟩;obtain⟨b,hb⟩:∃b,b=p.getD (i-1) default:=⟨_,rfl⟩;rw[←ha]at m1 hgi;rw[←hb]at m0 hgi hasc0;have i2:i≠0→IntKind.i64.wrap ((i:Int)-1)=((i-1:Nat):Int):=fun h0=>by rw[IntWalk.i64_in _ (by omega)];omega
  have hbad:so a=false→gB p i=false:=fun h=>by rw[hgi,h];rfl
  have hbad2:vB a.vs=false→gB p i=false:=fun h=>by rw[hgi,h,Bool.false_and,Bool.and_false]
  have hbad3:i≠0→¬cI b.vs a.vs<0→gB p i=false:=fun h0 h=>by rw[hgi,decide_eq_false h0,decide_eq_false h];simp
  simp only[vx,T,seval,RV,RC,←ha,rC];refine⟨by omega,Cg (pg a.s a.t a.xs a.ys m1.x m1.y (Nat.lt_trans m1.xl (by decide)) (Nat.lt_trans m1.yl (by decide))) ?_⟩;simp only[vx,T,seval];refine⟨fun h3=>Lg ?_,fun h3=>Lg ?_⟩
  ·simp only[vx,T,seval];exact vb (bo hip (hbad (by unfold so;rw[show yt a.s a.xs a.t a.ys=false by simpa using h3];rfl))).symm
  have h3:yt a.s a.xs a.t a.ys=true:=by simpa using h3
  obtain⟨q,e1,e2,e3,e4⟩:=Hg h3;have hq:qm q<2^30:=by
   have h5:=m1.xl;have h6:=m1.yl;rw[e2,aN]at h5;rw[e4,aN,ay]at h6;unfold qm;omega
  have hokM:so a=decide (q.num≠0):=by
   unfold so;rw[h3,e2,iu]
   simp
  simp only[vx,T,seval,←ha,rC,e1,e2,e3,e4];refine⟨by omega,Cg (me q (by omega)) ?_⟩;simp only[vx,T,seval];refine⟨fun h4=>Lg ?_,fun h4=>Lg ?_⟩
  ·simp only[vx,T,seval];refine vb (bo hip (hbad ?_)).symm;rw[hokM,decide_eq_false];rw[dV]at h4;exact fun h=>h h4
  rw[dV]at h4;have hok:so a=true:=by rw[hokM,decide_eq_true h4]
  simp only[vx,T,seval,←ha,rC];refine⟨fun h5=>Lg ?_,fun h5=>Lg ?_⟩
  ·have h50:i≠0:=by omega
   have i3:=i2 h50;have hb3:=nC m0.v (hasc0 h50);simp only[vx,T,seval,←ha,←hb,rC,i3];refine⟨by omega,by omega,Cg (rW b.vs a.vs (Nat.lt_trans m0.vl (by decide)) (Nat.lt_trans m1.vl (by decide))) ?_⟩;simp only[vx,T,seval];refine⟨fun h6=>Lg ?_,fun h6=>Lg ?_⟩
   ·simp only[vx,T,seval];refine vb (bo hip ?_).symm
    cases hab:vB a.vs with
    |false=>exact hbad2 hab
    |true=>exact hbad3 h50 (fun hc=>by have:=(yr hb3 (nC m1.v hab)).1.2 hc;omega)
   have hfin:vB a.vs=true→gB p i=true:=fun hab=>by
    have:=(yr hb3 (nC m1.v hab)).1.1 (by omega)
    rw[hgi,hok,hab,decide_eq_true this];simp
   simp only[vx,T,seval,←ha,rC];refine⟨by omega,Lk (fun y:{k:Nat//k≤a.vs.length∧∀j,j<k→zh a.vs j=true}=>⟨[(0,RV p),(2,.one (.bool false)),(3,.one (.int .i64 i)),(4,.one (.ints .i64 a.vs)),(5,.one (.int .i64 y.1))],[],1,79⟩) (fun y=>a.vs.length-y.1) ⟨0,by omega,fun j hj=>by omega⟩ ?_ (fun⟨k,hk,hke⟩=>?_)⟩
   ·refine Sa ?_;simp only[ry,seval,rz,RV,RC]
   have hvl:=m1.vl;simp only[vx,T,seval,RV,RC];refine⟨fun h7=>Lg ?_,fun h7=>Lg ?_⟩
   ·have hkv:k<a.vs.length:=by omega
    have k1:IntKind.i64.wrap ((k:Int)+1)=((k+1:Nat):Int):=by rw[IntWalk.i64_in _ (by omega)];omega
    have k2:k≠0→IntKind.i64.wrap ((k:Int)-1)=((k-1:Nat):Int):=fun h0=>by rw[IntWalk.i64_in _ (by omega)];omega
    have hkd:zh a.vs k=(decide (0≤a.vs.getD k 0)&&(decide (k=0)||decide (a.vs.getD (k-1) 0≤a.vs.getD k 0))):=rfl
    simp only[vx,T,seval];refine⟨by omega,fun h8=>Lg ?_,fun h8=>Lg ?_⟩
    ·simp only[vx,T,seval];refine vb (bo hip (hbad2 (bo hkv ?_))).symm;show zh a.vs k=false;rw[hkd,decide_eq_false (by omega)];rfl
    simp only[vx,T,seval];refine⟨fun h9=>Lg ?_,fun h9=>Lg ?_⟩
    ·have h90:k≠0:=by omega
     have k3:=k2 h90;simp only[vx,T,seval,k3];refine⟨by omega,by omega,?_⟩;refine⟨fun h10=>Lg ?_,fun h10=>Lg ?_⟩
     ·simp only[vx,T,seval];refine vb (bo hip (hbad2 (bo hkv ?_))).symm;show zh a.vs k=false;rw[hkd,decide_eq_false h90,decide_eq_false (p:=a.vs.getD (k-1) 0≤a.vs.getD k 0) (by omega),Bool.or_false,Bool.and_false]
     simp only[vx,T,seval];simp only[k1];refine Lq ⟨k+1,by omega,fun j hj=>?_⟩ ?_ ?_
     ·by_cases hji:j=k
      ·subst hji;rw[hkd,decide_eq_true (by omega),decide_eq_true (p:=a.vs.getD (j-1) 0≤a.vs.getD j 0) (by omega),Bool.or_true];rfl
      exact hke j (by omega)
     ·refine Sa ?_;simp only[ry,seval,rz,RV,RC]
     simp only;omega
    simp only[vx,T,seval];simp only[k1];refine Lq ⟨k+1,by omega,fun j hj=>?_⟩ ?_ ?_
    ·by_cases hji:j=k
     ·subst hji;rw[hkd,decide_eq_true (by omega),decide_eq_true (p:=j=0) (by omega)];rfl
     exact hke j (by omega)
    ·refine Sa ?_;simp only[ry,seval,rz,RV,RC]
    simp only;omega
   simp only[vx,T,seval,RV,RC];simp only[i1];refine Lq ⟨i+1,by omega,fun j hj=>?_⟩ ?_ ?_
   ·by_cases hji:j=i
    ·subst hji;exact hfin (cK.2 fun l hl=>hke l (by omega))
    exact he j (by omega)
   ·refine Sa ?_;simp only[ry,seval,rz,RV,RC]
   simp only;omega
  have h50:i=0:=by omega
  have hfin:vB a.vs=true→gB p i=true:=fun hab=>by
   rw[hgi,hok,hab,decide_eq_true h50];rfl
  simp only[vx,T,seval,←ha,rC];refine⟨by omega,Lk (fun y:{k:Nat//k≤a.vs.length∧∀j,j<k→zh a.vs j=true}=>⟨[(0,RV p),(2,.one (.bool false)),(3,.one (.int .i64 i)),(4,.one (.ints .i64 a.vs)),(5,.one (.int .i64 y.1))],[],1,79⟩) (fun y=>a.vs.length-y.1) ⟨0,by omega,fun j hj=>by omega⟩ ?_ (fun⟨k,hk,hke⟩=>?_)⟩
  ·refine Sa ?_;simp only[ry,seval,rz,RV,RC]
  have hvl:=m1.vl;simp only[vx,T,seval,RV,RC];refine⟨fun h7=>Lg ?_,fun h7=>Lg ?_⟩
  ·have hkv:k<a.vs.length:=by omega
   have k1:IntKind.i64.wrap ((k:Int)+1)=((k+1:Nat):Int):=by rw[IntWalk.i64_in _ (by omega)];omega
   have k2:k≠0→IntKind.i64.wrap ((k:Int)-1)=((k-1:Nat):Int):=fun h0=>by rw[IntWalk.i64_in _ (by omega)];omega
   have hkd:zh a.vs k=(decide (0≤a.vs.getD k 0)&&(decide (k=0)||decide (a.vs.getD (k-1) 0≤a.vs.getD k 0))):=rfl
   simp only[vx,T,seval];refine⟨by omega,fun h8=>Lg ?_,fun h8=>Lg ?_⟩
   ·simp only[vx,T,seval];refine vb (bo hip (hbad2 (bo hkv ?_))).symm;show zh a.vs k=false;rw[hkd,decide_eq_false (by omega)];rfl
   simp only[vx,T,seval];refine⟨fun h9=>Lg ?_,fun h9=>Lg ?_⟩
   ·have h90:k≠0:=by omega
    have k3:=k2 h90;simp only[vx,T,seval,k3];refine⟨by omega,by omega,?_⟩;refine⟨fun h10=>Lg ?_,fun h10=>Lg ?_⟩
    ·simp only[vx,T,seval];refine vb (bo hip (hbad2 (bo hkv ?_))).symm;show zh a.vs k=false;rw[hkd,decide_eq_false h90,decide_eq_false (p:=a.vs.getD (k-1) 0≤a.vs.getD k 0) (by omega),Bool.or_false,Bool.and_false]
    simp only[vx,T,seval];simp only[k1];refine Lq ⟨k+1,by omega,fun j hj=>?_⟩ ?_ ?_
    ·by_cases hji:j=k
     ·subst hji;rw[hkd,decide_eq_true (by omega),decide_eq_true (p:=a.vs.getD (j-1) 0≤a.vs.getD j 0) (by omega),Bool.or_true];rfl
     exact hke j (by omega)
    ·refine Sa ?_;simp only[ry,seval,rz,RV,RC]
    simp only;omega
   simp only[vx,T,seval];simp only[k1];refine Lq ⟨k+1,by omega,fun j hj=>?_⟩ ?_ ?_
   ·by_cases hji:j=k
    ·subst hji;rw[hkd,decide_eq_true (by omega),decide_eq_true (p:=j=0) (by omega)];rfl
    exact hke j (by omega)
   ·refine Sa ?_;simp only[ry,seval,rz,RV,RC]
   simp only;omega
  simp only[vx,T,seval,RV,RC];simp only[i1];refine Lq ⟨i+1,by omega,fun j hj=>?_⟩ ?_ ?_
  ·by_cases hji:j=i
   ·subst hji;exact hfin (cK.2 fun l hl=>hke l (by omega))
   exact he j (by omega)
  ·refine Sa ?_;simp only[ry,seval,rz,RV,RC]
  simp only;omega
 simp only[vx,T,seval];refine vb ?_;exact(cK.2 fun j hj=>he j (by omega)).symm
open Go Go.Eng
end Go.Proofs.YtgalhjhdgkoemaaGreat
/-
  Insertion sort in place, on a part of a list.
-/
namespace Go.Eng
variable {α:Type}[Inhabited α]
theorem gN {xs:List α}{i:Nat}{x:α}(h:i<xs.length):(xs.set i x).getD i default=x:=by
 rw[X7,List.getElem?_set_self h];rfl
theorem eR {xs:List α}{i j:Nat}{x:α}(h:i≠j):(xs.set i x).getD j default=xs.getD j default:=by
 rw[X7,List.getElem?_set_ne h,X7]
def swp (xs:List α)(i j:Nat):List α:=(xs.set i (xs.getD j default)).set j (xs.getD i default)
theorem oU (xs:List α)(i j:Nat):(swp xs i j).length=xs.length:=by simp[swp]
theorem swp_get {xs:List α}{i j k:Nat}(hi:i<xs.length)(hj:j<xs.length):
  (swp xs i j).getD k default=if k=j then xs.getD i default else if k=i then xs.getD j default else xs.getD k default:=by
 unfold swp
 by_cases h1:k=j
 ·subst h1;rw[if_pos rfl,gN (by simpa using hj)]
 rw[if_neg h1,eR (fun e=>h1 e.symm)]
 by_cases h2:k=i
 ·subst h2;rw[if_pos rfl,gN hi]
 rw[if_neg h2,eR (fun e=>h2 e.symm)]
theorem getD_eq {xs:List α}{i:Nat}(h:i<xs.length):xs.getD i default=xs[i]:=by
 rw[X7,X8 h];rfl
theorem IC {xs:List α}{i j:Nat}(hi:i<xs.length)(hj:j<xs.length):(swp xs i j).Perm xs:=by
 unfold swp;rw[getD_eq hi,getD_eq hj];exact List.set_set_perm hi hj
def bu (le:α→α→Prop)(xs:List α)(lo hi:Nat):Prop:=∀a b,lo≤a→a<b→b<hi→le (xs.getD a default) (xs.getD b default)
def Out (xs0 xs:List α)(lo hi:Nat):Prop:=xs.length=xs0.length∧xs.Perm xs0∧∀j,(j<lo∨hi≤j)→xs.getD j default=xs0.getD j default
theorem Out.refl (xs:List α)(lo hi:Nat):Out xs xs lo hi:=⟨rfl,.refl _,fun _ _=>rfl⟩
theorem Out.trans {xs ys zs:List α}{lo hi:Nat}(h1:Out xs ys lo hi)(h2:Out ys zs lo hi):Out xs zs lo hi:=
 ⟨h2.1.trans h1.1,h2.2.1.trans h1.2.1,fun j hj=>(h2.2.2 j hj).trans (h1.2.2 j hj)⟩
theorem Out.mono {xs ys:List α}{lo hi lo' hi':Nat}(h:Out xs ys lo hi)(h1:lo'≤lo)(h2:hi≤hi'):Out xs ys lo' hi':=
 ⟨h.1,h.2.1,fun j hj=>h.2.2 j (by omega)⟩
theorem Out.swp {xs0 xs:List α}{lo hi i j:Nat}(h:Out xs0 xs lo hi)(hi1:lo≤i)(hi2:i<hi)(hj1:lo≤j)(hj2:j<hi)(hl:hi≤xs.length):Out xs0 (swp xs i j) lo hi:=by
 refine⟨by rw[oU];exact h.1,(IC (by omega) (by omega)).trans h.2.1,fun k hk=>?_⟩;rw[swp_get (by omega) (by omega),if_neg (by omega),if_neg (by omega)];exact h.2.2 k hk
theorem bu.mono {le:α→α→Prop}{xs:List α}{lo hi lo' hi':Nat}(h:bu le xs lo hi)(h1:lo≤lo')(h2:hi'≤hi):bu le xs lo' hi':=
 fun a b ha hab hb=>h a b (by omega) hab (by omega)
theorem bu.out {le:α→α→Prop}{xs ys:List α}{lo hi l h:Nat}(hs:bu le xs l h)(ho:Out xs ys lo hi)(hd:h≤lo∨hi≤l):bu le ys l h:=by
 intro a b ha hab hb;rw[ho.2.2 a (by omega),ho.2.2 b (by omega)];exact hs a b ha hab hb
structure Ins (le:α→α→Prop) (lo i k:Nat) (xs:List α):Prop where
 lok:lo≤k
 ki:k≤i
 rest:∀a b,lo≤a→a<b→b≤i→a≠k→b≠k→le (xs.getD a default) (xs.getD b default)
 up:∀b,k<b→b≤i→le (xs.getD k default) (xs.getD b default)
theorem Ins.init {le:α→α→Prop}{lo i:Nat}{xs:List α}(h:bu le xs lo i)(hl:lo≤i):Ins le lo i i xs:=
 ⟨hl,Nat.le_refl _,fun a b ha hab hb h1 h2=>h a b ha hab (by omega),fun b h1 h2=>by omega⟩
theorem Ins.step {le:α→α→Prop}{lo i k:Nat}{xs:List α}(h:Ins le lo i k xs)(hk:lo<k)(hl:i<xs.length)(hle:le (xs.getD k default) (xs.getD (k-1) default)):Ins le lo i (k-1) (swp xs (k-1) k):=by
 have hki:=h.ki;have g:∀j,(swp xs (k-1) k).getD j default=if j=k then xs.getD (k-1) default else if j=k-1 then xs.getD k default else xs.getD j default:=fun j=>swp_get (by omega) (by omega)
 refine⟨by omega,by omega,fun a b ha hab hb h1 h2=>?_,fun b h1 h2=>?_⟩
 ·rw[g a,g b,if_neg h1,if_neg h2]
  by_cases hak:a=k
  ·rw[if_pos hak,if_neg (by omega)];exact h.rest (k-1) b (by omega) (by omega) hb (by omega) (by omega)
  rw[if_neg hak]
  by_cases hbk:b=k
  ·rw[if_pos hbk];exact h.rest a (k-1) ha (by omega) (by omega) hak (by omega)
  rw[if_neg hbk];exact h.rest a b ha hab hb hak hbk
 rw[g (k-1),g b,if_neg (by omega),if_pos rfl]
 by_cases hbk:b=k
 ·rw[if_pos hbk];exact hle
 rw[if_neg hbk,if_neg (by omega)];exact h.up b (by omega) h2
theorem Ins.done {le:α→α→Prop}(tr:∀{x y z},le x y→le y z→le x z){lo i k:Nat}{xs:List α}(h:Ins le lo i k xs)(hk:k=lo∨le (xs.getD (k-1) default) (xs.getD k default)):bu le xs lo (i+1):=by
 intro a b ha hab hb;have h1:=h.lok;have h2:=h.ki
 by_cases hak:a=k
 ·subst hak;exact h.up b hab (by omega)
 by_cases hbk:b=k
 ·subst hbk
  rcases hk with hk|hk
  ·omega
  by_cases hab2:a=b-1
  ·subst hab2;exact hk
  exact tr (h.rest a (b-1) ha (by omega) (by omega) hak (by omega)) hk
 exact h.rest a b ha hab (by omega) hak hbk
end Go.Eng
/-
  Sorted lists of integers.
-/
namespace Go.Eng
def gz (l:List Int):List Int:=l.mergeSort (fun a b=>decide (a≤b))
theorem gH (l:List Int):(gz l).Perm l:=List.mergeSort_perm _ _
theorem nD (l:List Int):(gz l).Pairwise (· ≤ ·):=by
 have h:=List.pairwise_mergeSort (le:=fun a b:Int=>decide (a≤b)) (by intro a b c;simp;omega) (by intro a b;simp;omega) l;exact h.imp (by intro a b h;simpa using h)
theorem mG (l:List Int):(gz l).length=l.length:=(gH l).length_eq
theorem Ez {l:List Int}(h:l.Pairwise (· ≤ ·)):gz l=l:=
 List.Perm.eq_of_pairwise (le:=(· ≤ ·)) (fun a b _ _ h1 h2=>by omega) (nD l) h (gH l)
theorem BK {a b:List Int}(h:a.Perm b):gz a=gz b:=
 List.Perm.eq_of_pairwise (le:=(· ≤ ·)) (fun a b _ _ h1 h2=>by omega) (nD a) (nD b) ((gH a).trans (h.trans (gH b).symm))
end Go.Eng
namespace Go.Proofs.YtgalhjhdgkoemaaGreat
open Go Go.Eng
end Go.Proofs.YtgalhjhdgkoemaaGreat
/-
  Sums of monomials: coefficient functions, canonical forms.
-/
namespace Go.Eng
def co:List ao→List Int→Rat
 |[],_=>0
 |m::r,v=>(if m.2=v then m.1 else 0)+co r v
theorem KN {a b:List ao}(h:a.Perm b)(v:List Int):co a v=co b v:=by
 induction h with
 |nil=>rfl
 |cons x _ ih=>simp only[co,ih]
 |swap x y l=>simp only[co];rw[←Rat.add_assoc,←Rat.add_assoc,Rat.add_comm (if y.2=v then y.1 else 0)]
 |trans _ _ h1 h2=>exact h1.trans h2
theorem Eu (l:List ao)(v:List Int):co (l.filter fun m=>decide (m.1≠0)) v=co l v:=by
 induction l with
 |nil=>rfl
 |cons m r ih=>
  simp only[List.filter_cons]
  split
  ·simp only[co,ih]
  rename_i h
  have h:m.1=0:=by simpa using h
  simp only[co,ih,h]
  split<;>rw [Rat.zero_add]
def xG (l:List ao):Prop:=l.Pairwise fun a b=>cI a.2 b.2<0
def Can (l:List ao):Prop:=xG l∧∀m∈l,m.1≠0
theorem ft {a b c:List Int}(h1:cI a b<0)(h2:cI b c<0):cI a c<0:=by
 have h3:=uv (a:=a) (b:=b) (c:=c) (by omega) (by omega);have h4:cI a c≠0:=by
  intro e;have e:=fO.1 e;subst e
  have:=nI a b
  omega
 omega
theorem rO (a:List Int):¬cI a a<0:=by rw[fO.2 rfl];omega
theorem q9 {l:List ao}{v:List Int}(h:∀m∈l,cI v m.2<0):co l v=0:=by
 induction l with
 |nil=>rfl
 |cons m r ih=>
  simp only[co,ih fun x hx=>h x (by simp[hx])];rw[if_neg,Rat.zero_add];rintro rfl;exact rO _ (h m (by simp))
theorem xG.tail {m:ao}{r:List ao}(h:xG (m::r)):xG r:=(List.pairwise_cons.1 h).2
theorem xG.head {m:ao}{r:List ao}(h:xG (m::r)):∀x∈r,cI m.2 x.2<0:=(List.pairwise_cons.1 h).1
theorem xW:∀{a b:List ao},Can a→Can b→(∀v,co a v=co b v)→a=b
 |[],[],_,_,_=>rfl
 |[],m::r,_,hb,h=>by
  have h1:=h m.2;simp only[co,if_true]at h1;rw[q9 hb.1.head,Rat.add_zero]at h1;exact absurd h1.symm (hb.2 m (by simp))
 |m::r,[],ha,_,h=>by
  have h1:=h m.2;simp only[co,if_true]at h1;rw[q9 ha.1.head,Rat.add_zero]at h1;exact absurd h1 (ha.2 m (by simp))
 |m::r,n::s,ha,hb,h=>by
  have hm:co (m::r) m.2=m.1:=by simp only[co,if_true];rw[q9 ha.1.head,Rat.add_zero]
  have hn:co (n::s) n.2=n.1:=by simp only[co,if_true];rw[q9 hb.1.head,Rat.add_zero]
  have hmn:m.2=n.2:=by
   rcases Int.lt_trichotomy (cI m.2 n.2) 0 with hc|hc|hc
   ·have:co (n::s) m.2=0:=q9 (fun x hx=>by
     rcases List.mem_cons.1 hx with rfl|hx
     ·exact hc
     exact ft hc (hb.1.head x hx))
    rw[←h,hm]at this;exact absurd this (ha.2 m (by simp))
   ·exact fO.1 hc
   have hc:cI n.2 m.2<0:=by rw[nI m.2 n.2];omega
   have:co (m::r) n.2=0:=q9 (fun x hx=>by
    rcases List.mem_cons.1 hx with rfl|hx
    ·exact hc
    exact ft hc (ha.1.head x hx))
   rw[h,hn]at this;exact absurd this (hb.2 n (by simp))
  have h1:m.1=n.1:=by rw[←hm,←hn,h,hmn]
  have hmn2:m=n:=Prod.ext h1 hmn;subst hmn2
  congr 1
  refine xW ⟨ha.1.tail,fun x hx=>ha.2 x (by simp[hx])⟩ ⟨hb.1.tail,fun x hx=>hb.2 x (by simp[hx])⟩ fun v=>?_;have h2:=h v;simp only[co]at h2;exact Rat.add_left_cancel _ h2
def dO (c:Rat)(v:List Int):List ao→List ao
 |[]=>[(c,v)]
 |m::r=>if cI m.2 v<0 then m::dO c v r else if m.2=v then(m.1+c,v)::r else(c,v)::m::r
theorem JB (c:Rat)(v:List Int)(l:List ao)(w:List Int):co (dO c v l) w=co l w+(if v=w then c else 0):=by
 induction l with
 |nil=>simp only[dO,co];rw[Rat.add_comm]
 |cons m r ih=>
  simp only[dO]
  split
  ·simp only[co,ih,Rat.add_assoc]
  split
  ·rename_i h
   simp only[co]
   by_cases hv:v=w
   ·rw[if_pos hv,if_pos hv,if_pos (h.trans hv),Rat.add_assoc,Rat.add_assoc,Rat.add_comm c]
   rw[if_neg hv,if_neg hv,if_neg (by rw[h];exact hv),Rat.add_zero]
  simp only[co];rw[Rat.add_comm]
theorem Ah {c:Rat}{v:List Int}{l:List ao}{x:ao}(h:x∈dO c v l):x.2=v∨x∈l:=by
 induction l with
 |nil=>simp[dO]at h;rw[h];exact .inl rfl
 |cons m r ih=>
  simp only[dO]at h
  split at h
  ·rcases List.mem_cons.1 h with rfl|h
   ·exact .inr (by simp)
   rcases ih h with h|h
   ·exact .inl h
   exact .inr (by simp[h])
  split at h
  ·rcases List.mem_cons.1 h with rfl|h
   ·exact .inl rfl
   exact .inr (by simp[h])
  rcases List.mem_cons.1 h with rfl|h
  ·exact .inl rfl
  exact .inr h
theorem tS (c:Rat)(v:List Int):∀{l:List ao},xG l→xG (dO c v l)
 |[],_=>by simp[dO,xG]
 |m::r,h=>by
  simp only[dO]
  split
  ·rename_i hc
   refine List.pairwise_cons.2 ⟨fun x hx=>?_,tS c v h.tail⟩
   rcases Ah hx with hx|hx
   ·rw[hx];exact hc
   exact h.head x hx
  rename_i hc
  split
  ·rename_i he
   refine List.pairwise_cons.2 ⟨fun x hx=>?_,h.tail⟩;simp only;rw[←he];exact h.head x hx
  rename_i he
  have h1:cI v m.2<0:=by
   have h2:cI m.2 v≠0:=fun e=>he (fO.1 e);rw[nI m.2 v];omega
  refine List.pairwise_cons.2 ⟨fun x hx=>?_,h⟩
  rcases List.mem_cons.1 hx with rfl|hx
  ·exact h1
  exact ft h1 (h.head x hx)
theorem Fb {c:Rat}{v:List Int}{l:List ao}{x:ao}(h:x∈dO c v l):x∈l∨x=(c,v)∨∃m∈l,x=(m.1+c,v):=by
 induction l with
 |nil=>simp[dO]at h;exact .inr (.inl h)
 |cons m r ih=>
  simp only[dO]at h
  split at h
  ·rcases List.mem_cons.1 h with rfl|h
   ·exact .inl (by simp)
   rcases ih h with h|h|⟨n,h1,h2⟩
   ·exact .inl (by simp[h])
   ·exact .inr (.inl h)
   exact .inr (.inr ⟨n,by simp[h1],h2⟩)
  split at h
  ·rcases List.mem_cons.1 h with rfl|h
   ·exact .inr (.inr ⟨m,by simp,rfl⟩)
   exact .inl (by simp[h])
  rcases List.mem_cons.1 h with rfl|h
  ·exact .inr (.inl rfl)
  exact .inl h
theorem mW {l:List ao}{k:Nat}(h:k<l.length):l.take (k+1)=l.take k++[l.getD k default]:=by
 rw[List.take_add_one,X7,X8 h];rfl
def yS (l:List ao)(os:List ao):List ao:=l.foldl (fun os m=>dO m.1 (gz m.2) os) os
def vu (l:List ao):List ao:=(yS l []).filter fun m=>decide (m.1≠0)
def jI (l:List ao):List ao:=l.map fun m=>(m.1,gz m.2)
theorem JF (l os:List ao)(v:List Int):co (yS l os) v=co os v+co (jI l) v:=by
 induction l generalizing os with
 |nil=>show co os v=co os v+0;rw[Rat.add_zero]
 |cons m r ih=>
  have e:yS (m::r) os=yS r (dO m.1 (gz m.2) os):=rfl;rw[e,ih,JB];simp only[jI,List.map_cons,co];rw[Rat.add_assoc]
theorem H4 (l:List ao){os:List ao}(h:xG os):xG (yS l os):=by
 induction l generalizing os with
 |nil=>exact h
 |cons m r ih=>exact ih (tS _ _ h)
theorem tJ {l:List ao}(h:xG l):Can (l.filter fun m=>decide (m.1≠0)):=by
 refine⟨List.Pairwise.filter _ h,fun m hm=>?_⟩
 have:=(List.mem_filter.1 hm).2
 simpa using this
theorem Gj (l:List ao):Can (vu l):=tJ (H4 l List.Pairwise.nil)
theorem Jo (l:List ao)(v:List Int):co (vu l) v=co (jI l) v:=by
 unfold vu;rw[Eu,JF];show 0+_=_;rw[Rat.zero_add]
end Go.Eng
