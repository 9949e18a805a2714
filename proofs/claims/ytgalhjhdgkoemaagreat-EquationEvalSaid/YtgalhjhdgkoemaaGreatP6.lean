/-
  EquationEval: for every input the law returns true, and each argument reads afterwards as it read before. No condition beyond the given row's own cells.
  (Text 6 of 10; made by a program out of smaller texts.)
-/
import Derived.Lib.AppendZerosOnto
import Derived.Lib.Walk
import Derived.Test.YtgalhjhdgkoemaaGreatP5
set_option linter.unusedSimpArgs false
set_option linter.unusedVariables false
set_option maxHeartbeats 16000000
set_option maxRecDepth 10000
open Nat renaming reduceAdd→J1,reduceMul→J2,reduceSub→J3,reduceEqDiff→J4,reduceLT→J5,reduceLeDiff→J6,reduceBEq→J7,reduceDiv→J8,reduceMod→J9,reducePow→J0
open Int renaming reduceToNat→K1,reduceLE→K2,reduceLT→K3,reduceEq→K4,reducePow→K5,reduceSub→K6,reduceNeg→K7,natCast_add→X2,natCast_one→X3,natCast_zero→X4
open List renaming getD_cons_zero→X0,getD_cons_succ→X1,length_take→X5,length_append→X6,getD_eq_getElem?_getD→X7,getElem?_eq_getElem→X8
namespace Go.Proofs.YtgalhjhdgkoemaaGreat
open Go Go.Eng
open Go.Tw (El aC aG zE aj au ar aq ae QB mS ai ah aL aF tB aX aD cg lU)
theorem vq (n:Int)(d:Nat)(hn:zn n<2^36)(hd:nl d<2^36)(h0:0<d):Pr Tryz.prog 92 [ZV n,ZV (-(d:Int))] (QV (mkRat (-n) d)):=by
 have hg:(0:Int)<(Int.gcd n d:Nat):=by have:=xO (n:=n) h0;omega
 have hgn:zn (Int.gcd n d)≤nl d:=rI (b:=(d:Int)) (by
  have:=Nat.gcd_le_right n.natAbs (show 0<(d:Int).natAbs by omega)
  exact this)
 have hzd:zs (-(d:Int))=true:=lv.2 (by omega);have hzn:zn (-(d:Int))=nl d:=by unfold zn;rw[Int.natAbs_neg];rfl
 have c:=qD n (-(d:Int)) (by omega) (by rw[hzn];omega);rw[uw]at c;have cn:=wc (Int.gcd n d) (by omega);have hgm:zn (-(Int.gcd n d:Int))≤nl d:=by unfold zn at hgn⊢;rw[Int.natAbs_neg];exact hgn
 refine pw Tryz.func92 ⟨[0,1,2,3,4,5,10],[]⟩ ?_;simp only[Tryz.f92,Tryz.ntmps92,iz,seval];simp only[vx,T,seval,ZV];refine Cg c ?_;simp only[vx,T,seval,ZV];refine⟨fun _=>Lg ?_,fun h=>absurd (hzd.symm.trans h) (by decide)⟩;simp only[vx,T,seval,ZV];refine Cg cn ?_;simp only[vx,T,seval,ZV];refine Cg (nF n (-(Int.gcd n d:Int)) (by omega) (by omega) (by omega)) ?_;rw[Jw h0];simp only[vx,T,seval,ZV];refine Cg (nF (-(d:Int)) (-(Int.gcd n d:Int)) (by rw[hzn];omega) (by omega) (by omega)) ?_;rw[JA h0];simp only[vx,T,seval,ZV];refine Va ?_;simp only[cO,aV,ry,seval,QV,QC]
theorem l9 (z:Int):Pr Tryz.prog 266 [ZV z] (.one (.bool (decide (z=0)))):=by
 refine pw Tryz.func266 ⟨[0,1,2],[]⟩ ?_;simp only[Tryz.f266,Tryz.ntmps266,iz,seval];simp only[vx,T,seval,ZV];refine Ve ?_;rw[aN]
 congr 2
 by_cases h:z=0
 ·rw[decide_eq_true h,decide_eq_true];rw[h,dS.2 rfl];rfl
 rw[decide_eq_false h,decide_eq_false];intro e;exact h (dS.1 (by omega))
theorem Fk (x:Rat)(hx:qm x<2^34)(h0:x≠0):Pr Tryz.prog 261 [QV 1,QV x] (.aJ [QV x⁻¹,.one (.int .i64 0)]):=by
 have z:=l9 x.num;have hn:x.num≠0:=fun h=>h0 (Rat.num_eq_zero.1 h);rw[decide_eq_false hn]at z;have q1:(1:Rat).num=1:=rfl;have q2:((1:Rat).den:Int)=1:=rfl;unfold qm at hx;have m1:=bR (1:Rat).num (x.den:Int) (by decide+kernel) (by rw[ay];omega);have m2:=bR ((1:Rat).den:Int) x.num (by decide+kernel) (by omega);rw[q1,Int.one_mul]at m1;rw[q2,Int.one_mul]at m2;have lo:Pr Tryz.prog 92 [ZV (x.den:Int),ZV x.num] (QV x⁻¹):=by
  by_cases hp:0<x.num
  ·obtain⟨d,hd⟩:∃d:Nat,x.num=d:=⟨x.num.toNat,by omega⟩;rw[inv_pos hd,hd];rw[hd]at hx hp;rw[ay]at hx;exact fb _ d (by rw[ay];omega) (by omega) (by omega)
  obtain⟨d,hd⟩:∃d:Nat,x.num= -(d:Int):=⟨(-x.num).toNat,by omega⟩;rw[inv_neg hd,hd];have hzn:zn (-(d:Int))=nl d:=by unfold zn;rw[Int.natAbs_neg];rfl
  rw[hd,hzn]at hx;exact vq _ d (by rw[ay];omega) (by omega) (by omega)
 refine pw Tryz.func261 ⟨[0,1,2,3,4,5,8],[]⟩ ?_;simp only[Tryz.f261,Tryz.ntmps261,iz,seval];simp only[vx,T,seval,QV,QC];refine Cg z ?_;simp only[vx,T,seval,QV,QC];refine Cg m1 ?_;simp only[vx,T,seval,QV,QC,ZV];refine Cg m2 ?_;simp only[vx,T,seval,QV,QC,ZV];refine Cg lo ?_;simp only[vx,T,seval,QV,QC,ZV];exact Ve rfl
theorem Ef (a x:Rat)(h0:x=0):Pr Tryz.prog 261 [QV a,QV x] (.aJ [.agg [.bool false,.nil,.bool false,.nil],.one (.int .i64 6)]):=by
 have z:=l9 x.num;have hn:x.num=0:=by rw[h0];rfl
 rw[decide_eq_true hn]at z;refine pw Tryz.func261 ⟨[0,1,2,3,4,5,8],[]⟩ ?_;simp only[Tryz.f261,Tryz.ntmps261,iz,seval];simp only[vx,T,seval,QV,QC];refine Cg z ?_;simp only[vx,T,seval,QV,QC];exact Ve rfl
theorem jJ.aJ {xs ys:List V}(h:Az xs ys):jJ (.aJ xs) (.aJ ys):=fun _ _ _ ⟨vs,e,hl⟩=>⟨vs,e,h.rep hl⟩
theorem jr {t:List El}:∀{h:Nat} {a n:El},cg h t a=some n→n.length=2^h
 |0,a,n,e=>by
  unfold cg at e
  split at e
  ·cases e
  obtain rfl:=Option.some.inj e;rfl
 |h+1,a,n,e=>by
  have e':((cg h t (aL h t a)).map fun n=>aj h t (a.take (2^h)) n++aG (aj h t (a.drop (2^h)) n))=some n:=e;obtain⟨m,_,rfl⟩:=Option.map_eq_some_iff.1 e';rw[X6,ar,ae,ae,Nat.pow_succ];omega
def zR:C:=.rows 4 1 (fun i j=>[C.bool false,.nil,.bool false,.nil].getD (i*4+j) .any)
def PZ (c:C):Prop:=c= .nil∨c=zR
def DP (h:Nat)(t:List El)(a:El)(f:FuncId):Prop:=
 (∀n,cg h t a=some n→Pr Tryz.prog f [tV h t,eV a] (.aJ [eV n,.one (.bool true)]))∧
 (cg h t a=none→∃c,PZ c∧Pr Tryz.prog f [tV h t,eV a] (.aJ [.one c,.one (.bool false)]))
theorem H7 {X:Nat}{t:List El}(hX:X≤2^26){a:El}(ha:a.length=2^0)(hq:QB X a):DP 0 t a 256:=by
 obtain⟨x,rfl⟩:=Go.Tw.bD ha;have hx:qm x≤X:=hq x (by simp);have one:=bA 1 (by decide) (by decide);have e:cg 0 t [x]=if x=0 then none else some [x⁻¹]:=rfl
 unfold DP;rw[e]
 by_cases h0:x=0
 ·rw[if_pos h0];refine⟨fun n h=>(by cases h),fun _=>?_⟩;have d:=Ef 1 x h0;refine⟨_,.inr rfl,?_⟩;refine pw Tryz.func256 ⟨[0,1,4,5,6,7,8,10,11,12,13,16,43],[(2,(.cons 9 [7] (.cons 10 [] .nil .nil) .nil))]⟩ ?_;simp only[Tryz.f256,Tryz.ntmps256,iz,seval];simp only[vx,T,seval,tV,tC,eV,ag];refine Cg one ?_;simp only[vx,T,seval,QV,QC,tV,tC,eV,ag,qC,X0];refine Cg d ?_;simp only[vx,T,seval,QV,QC,tV,tC,eV,ag,qC,X0];exact Ve rfl
 rw[if_neg h0];refine⟨fun n h=>?_,fun h=>(by cases h)⟩;obtain rfl:=Option.some.inj h;have d:=Fk x (by omega) h0;refine pw Tryz.func256 ⟨[0,1,4,5,6,7,8,10,11,12,13,16,43],[(2,(.cons 9 [7] (.cons 10 [] .nil .nil) .nil))]⟩ ?_;simp only[Tryz.f256,Tryz.ntmps256,iz,seval];simp only[vx,T,seval,tV,tC,eV,ag];refine Cg one ?_;simp only[vx,T,seval,QV,QC,tV,tC,eV,ag,qC,X0];refine Cg d ?_;simp only[vx,T,seval,QV,QC,tV,tC,eV,ag,qC,X0];refine jJ.aJ ⟨.cell (.rows rfl fun i j hi _=>.of_eq ?_),.refl _,trivial⟩;obtain rfl:i=0:=by omega
 rw[Nat.zero_mul,Nat.zero_add];exact dx x⁻¹ rfl j
theorem qt {X:Nat}(hX1:1≤X)(hX:X≤2^26){t:List El}:∀{h:Nat} {a:El},TQ h t→a.length=2^h→lU X h t a→DP h t a 256
 |0,a,_,ha,hi=>H7 hX ha hi
 |h+1,a,W,ha,hi=>by
  have W':=W.le (Nat.le_succ h);have hqa:=hi.qb;obtain⟨_,_,i3,_,i5⟩:=hi;have ih:=qt hX1 hX W' aF i3;have h3:=W.h3;have hp:=aO W'.tk.le8;have cs:=mi (h:=h) (t:=t) (by omega);have ch:=iV (h:=h) (by omega) ha;have cn:=(sS W a ha hX1 hX hqa).rows;have la1:=ai ha;have la2:=ah ha;have e:cg (h+1) t a=(cg h t (aL h t a)).map fun n=>aj h t (a.take (2^h)) n++aG (aj h t (a.drop (2^h)) n):=rfl;unfold DP at ih⊢;rw[e]
  cases hn:cg h t (aL h t a)with
  |none=>
   refine⟨fun n h=>(by cases h),fun _=>?_⟩;obtain⟨c,hcc,hc⟩:=ih.2 hn;refine⟨.nil,.inl rfl,?_⟩
   rcases hcc with rfl|rfl
   ·refine pw Tryz.func256 ⟨[0,1,4,5,6,7,8,10,11,12,13,16,43],[(2,(.cons 9 [7] (.cons 10 [] .nil .nil) .nil))]⟩ ?_;simp only[Tryz.f256,Tryz.ntmps256,iz,seval];simp only[vx,T,seval,tV,tC,eV,ag];refine⟨fun h=>absurd h (by omega),fun _=>Lg ?_⟩;simp only[vx,T,seval,tV,tC,eV,ag];refine Cg cs ?_;simp only[vx,T,seval,tV,tC,eV,ag];refine Cg cn ?_;simp only[vx,T,seval,tV,tC,eV,ag];refine Cg hc ?_;simp only[vx,T,seval,tV,tC,eV,ag];exact Ve rfl
   refine pw Tryz.func256 ⟨[0,1,4,5,6,7,8,10,11,12,13,16,43],[(2,(.cons 9 [7] (.cons 10 [] .nil .nil) .nil))]⟩ ?_;simp only[Tryz.f256,Tryz.ntmps256,iz,seval];simp only[vx,T,seval,tV,tC,eV,ag];refine⟨fun h=>absurd h (by omega),fun _=>Lg ?_⟩;simp only[vx,T,seval,tV,tC,eV,ag];refine Cg cs ?_;simp only[vx,T,seval,tV,tC,eV,ag];refine Cg cn ?_;simp only[vx,T,seval,tV,tC,eV,ag];refine Cg hc ?_;simp only[vx,T,seval,tV,tC,eV,ag,zR];exact Ve rfl
  |some n=>
   refine⟨fun n' hh=>?_,fun hh=>(by cases hh)⟩;obtain rfl:=Option.some.inj hh;have hc:=ih.1 n hn;have hqn:=i5 n hn;have ln:=jr hn;have m1:=LP W' la1 ln hX1 hX1 (by omega) (hqa.take _) hqn;have m2:=(LP W' la2 ln hX1 hX1 (by omega) (hqa.drop _) hqn).rows;have g2:=QB.mul fT W'.q hX1 hX1 (hqa.drop (2^h)) hqn;have b2:=kX W'.h3 (S:=X+X) (by omega);have nn:=(mX _ (by rw[ae];omega) (Qk.of g2 (by omega))).rows;obtain⟨x,hx⟩:∃x,x=a.take (2^h):=⟨_,rfl⟩;obtain⟨y,hy⟩:∃y,y=a.drop (2^h):=⟨_,rfl⟩;rw[←hx,←hy]at ch⊢;rw[←hx]at m1;rw[←hy]at m2 nn;refine pw Tryz.func256 ⟨[0,1,4,5,6,7,8,10,11,12,13,16,43],[(2,(.cons 9 [7] (.cons 10 [] .nil .nil) .nil))]⟩ ?_;simp only[Tryz.f256,Tryz.ntmps256,iz,seval];simp only[vx,T,seval,tV,tC,eV,ag];refine⟨fun h=>absurd h (by omega),fun _=>Lg ?_⟩;simp only[vx,T,seval,tV,tC,eV,ag];refine Cg cs ?_;simp only[vx,T,seval,tV,tC,eV,ag];refine Cg cn ?_;simp only[vx,T,seval,tV,tC,eV,ag];refine Cg hc ?_;simp only[vx,T,seval,tV,tC,eV,ag];refine Cg ch ?_;simp only[vx,T,seval,tV,tC,eV,ag];refine cY.fresh m1 ?_;simp only[vx,T,seval,tV,tC,eV,ag];refine Cg m2 ?_;simp only[vx,T,seval,tV,tC,eV,ag];refine Cg nn ?_;simp only[vx,T,seval,tV,tC,eV,ag];exact⟨by rw[ae,ar,ae];omega,jJ.aJ ⟨.cell (.rows List.length_append.symm fun i j _ _=>.of_eq (kS _ _ i j)),.refl _,trivial⟩⟩
open Go Go.Proofs Go.Eng
theorem EG {a a' b b':C}(h1:dg a a')(h2:dg b b'):yP (.agg [a,b]) (.agg [a',b']):=by
 intro ok w v hr;obtain⟨vs,e,hl⟩:=hr;refine⟨vs,e,?_⟩
 generalize vs.toList=l at hl⊢
 match l,hl with
 |[x,y],⟨k1,k2,_⟩=>exact⟨aW.bw (h1 ok w x (aM.dI k1)),aW.bw (h2 ok w y (aM.dI k2)),trivial⟩
theorem Pw:yP (.agg [.bool false,.nil]) (ZV 0):=EG (.refl _) (by
 have:zm 0=[]:=by decide+kernel
 rw[this];exact .qp _)
theorem IF (z:Int)(h0:0<z)(hz:zn z<2^34):Pr Tryz.prog 254 [ZV z] (.aJ [ZV (cq z.natAbs:Nat),.one (.bool (decide (cq z.natAbs*cq z.natAbs=z.natAbs)))]):=by
 have c:=Bh z h0 (by omega);obtain⟨s,hs⟩:∃s,s=cq z.natAbs:=⟨_,rfl⟩;have hsz:zn (s:Int)≤zn z:=rI (by rw[hs];exact CI _);rw[←hs]at c⊢;have m:=bR (s:Int) (s:Int) (by omega) (by omega);have hm:zn ((s:Int)*s)≤zn (s:Int)+zn (s:Int):=cN _ _;have cc:=rk ((s:Int)*s) z (by omega) (by omega);have e:decide (ef ((s:Int)*s) z=0)=decide (s*s=z.natAbs):=decide_eq_decide.2 (by rw[DQ];omega);refine pw Tryz.func254 ⟨[0,1,2,3,4,5],[(2,(.cons 11 [9,10] (.cons 12 [] .nil .nil) .nil))]⟩ ?_;simp only[Tryz.f254,Tryz.ntmps254,iz,seval];simp only[vx,T,seval,ZV];refine Cg c ?_;simp only[vx,T,seval,ZV];refine Cg m ?_;simp only[vx,T,seval,ZV];refine Cg cc ?_;simp only[vx,T,seval,ZV];rw[e];exact Ve rfl
theorem Ba:Pr Tryz.prog 260 [ZV 0] (.aJ [.agg [.bool false,.nil],.one (.int .i64 0)]):=by
 have cs:=fL 0 (by decide+kernel);have hs:cJ 0=0:=rfl;rw[hs]at cs;refine pw Tryz.func260 ⟨[0,1,2,3,4,5,6,8,10,11,14,38],[]⟩ ?_;simp only[Tryz.f260,Tryz.ntmps260,iz,seval];simp only[vx,T,seval,ZV];refine Cg cs ?_;simp only[vx,T,seval,ZV];exact Ve rfl
theorem Fv (z:Int)(h0:z<0)(hz:zn z<2^34):Pr Tryz.prog 260 [ZV z] (.aJ [.agg [.bool false,.nil],.one (.int .i64 7)]):=by
 have cs:=fL z (by omega);have hs:cJ z= -1:=by unfold cJ;rw[if_neg (by omega),if_pos h0]
 rw[hs]at cs;refine pw Tryz.func260 ⟨[0,1,2,3,4,5,6,8,10,11,14,38],[]⟩ ?_;simp only[Tryz.f260,Tryz.ntmps260,iz,seval];simp only[vx,T,seval,ZV];refine Cg cs ?_;simp only[vx,T,seval,ZV];exact Ve rfl
theorem Gl (z:Int)(h0:z<0)(hz:zn z<2^34):Pr Tryz.prog 254 [ZV z] (.aJ [.agg [.bool false,.nil],.one (.bool false)]):=by
 have c:=Fv z h0 hz;refine pw Tryz.func254 ⟨[0,1,2,3,4,5],[(2,(.cons 11 [9,10] (.cons 12 [] .nil .nil) .nil))]⟩ ?_;simp only[Tryz.f254,Tryz.ntmps254,iz,seval];simp only[vx,T,seval,ZV];refine Cg c ?_;simp only[vx,T,seval,ZV];exact Ve rfl
theorem E1:Pr Tryz.prog 254 [ZV 0] (.aJ [.agg [.bool false,.nil],.one (.bool true)]):=by
 have c:=Ba;have m:=bR 0 0 (by decide+kernel) (by decide+kernel);have m:=m.args (xs:=[.agg [.bool false,.nil],.agg [.bool false,.nil]]) ⟨Pw,Pw,trivial⟩;have cc:=rk 0 0 (by decide+kernel) (by decide+kernel);rw[pe rfl]at cc;rw[Int.mul_zero]at m;refine pw Tryz.func254 ⟨[0,1,2,3,4,5],[(2,(.cons 11 [9,10] (.cons 12 [] .nil .nil) .nil))]⟩ ?_;simp only[Tryz.f254,Tryz.ntmps254,iz,seval];simp only[vx,T,seval,ZV];refine Cg c ?_;simp only[vx,T,seval,ZV];refine Cg m ?_;simp only[vx,T,seval,ZV];refine Cg cc ?_;simp only[vx,T,seval,ZV];exact Ve rfl
theorem m9 (z:Int)(hz:zn z<2^34):∃m,(m= .nil∨∃xs,m= .ints .u32 xs)∧Pr Tryz.prog 254 [ZV z] (.aJ [.agg [.bool false,m],.one (.bool (decide (0≤z∧cq z.natAbs*cq z.natAbs=z.natAbs)))])∧
  (0≤z→dg m (.ints .u32 (zm (cq z.natAbs:Nat)))):=by
 rcases Int.lt_trichotomy z 0 with h|h|h
 ·refine⟨.nil,.inl rfl,?_,fun h2=>absurd h2 (by omega)⟩;rw[decide_eq_false (by omega)];exact Gl z h hz
 ·subst h;refine⟨.nil,.inl rfl,?_,fun _=>?_⟩
  ·rw[decide_eq_true (by decide)];exact E1
  have:zm (cq (0:Int).natAbs:Nat)=[]:=by decide+kernel
  rw[this];exact .qp _
 refine⟨_,.inr ⟨_,rfl⟩,?_,fun _=>.refl _⟩;have e:decide (0≤z∧cq z.natAbs*cq z.natAbs=z.natAbs)=decide (cq z.natAbs*cq z.natAbs=z.natAbs):=decide_eq_decide.2 ⟨fun h=>h.2,fun h2=>⟨by omega,h2⟩⟩;rw[e];have r:=IF z h hz;have hzs:zs (cq z.natAbs:Nat)=false:=dD.2 (by omega);unfold ZV at r⊢;rw[hzs]at r;exact r
theorem H8 {a b c d a' b' c' d':C}(h1:dg a a')(h2:dg b b')(h3:dg c c')(h4:dg d d'):yP (.agg [a,b,c,d]) (.agg [a',b',c',d']):=by
 intro ok w v hr;obtain⟨vs,e,hl⟩:=hr;refine⟨vs,e,?_⟩
 generalize vs.toList=l at hl⊢
 match l,hl with
 |[x,y,z,u],⟨k1,k2,k3,k4,_⟩=>exact⟨aW.bw (h1 ok w x (aM.dI k1)),aW.bw (h2 ok w y (aM.dI k2)),aW.bw (h3 ok w z (aM.dI k3)),aW.bw (h4 ok w u (aM.dI k4)),trivial⟩
theorem FT {x:Rat}{b1 b2:Bool}{m1 m2:C}(k1:m1= .nil∨∃xs,m1= .ints .u32 xs)(k2:m2= .nil∨∃xs,m2= .ints .u32 xs)(c1:Pr Tryz.prog 254 [ZV x.num] (.aJ [.agg [.bool false,m1],.one (.bool b1)]))
  (c2:Pr Tryz.prog 254 [ZV (x.den:Int)] (.aJ [.agg [.bool false,m2],.one (.bool b2)])) (h:¬(b1=true∧b2=true)):Pr Tryz.prog 246 [QV x] (.aJ [.agg [.bool false,.nil,.bool false,.nil],.one (.bool false)]):=by
 rcases k1 with rfl|⟨x1,rfl⟩<;>rcases k2 with rfl|⟨x2,rfl⟩<;>cases b1<;>cases b2
 ·refine pw Tryz.func246 ⟨[0,1,2,3,4,5,6,7,25],[]⟩ ?_;simp only[Tryz.f246,Tryz.ntmps246,iz,seval];simp only[vx,T,seval,QV,QC,ZV];refine Cg c1 ?_;simp only[vx,T,seval,QV,QC,ZV];refine Cg c2 ?_;simp only[vx,T,seval,QV,QC,ZV];exact Ve rfl
 ·refine pw Tryz.func246 ⟨[0,1,2,3,4,5,6,7,25],[]⟩ ?_;simp only[Tryz.f246,Tryz.ntmps246,iz,seval];simp only[vx,T,seval,QV,QC,ZV];refine Cg c1 ?_;simp only[vx,T,seval,QV,QC,ZV];refine Cg c2 ?_;simp only[vx,T,seval,QV,QC,ZV];exact Ve rfl
 ·refine pw Tryz.func246 ⟨[0,1,2,3,4,5,6,7,25],[]⟩ ?_;simp only[Tryz.f246,Tryz.ntmps246,iz,seval];simp only[vx,T,seval,QV,QC,ZV];refine Cg c1 ?_;simp only[vx,T,seval,QV,QC,ZV];refine Cg c2 ?_;simp only[vx,T,seval,QV,QC,ZV];exact Ve rfl
 ·exact absurd ⟨rfl,rfl⟩ h
 ·refine pw Tryz.func246 ⟨[0,1,2,3,4,5,6,7,25],[]⟩ ?_;simp only[Tryz.f246,Tryz.ntmps246,iz,seval];simp only[vx,T,seval,QV,QC,ZV];refine Cg c1 ?_;simp only[vx,T,seval,QV,QC,ZV];refine Cg c2 ?_;simp only[vx,T,seval,QV,QC,ZV];exact Ve rfl
 ·refine pw Tryz.func246 ⟨[0,1,2,3,4,5,6,7,25],[]⟩ ?_;simp only[Tryz.f246,Tryz.ntmps246,iz,seval];simp only[vx,T,seval,QV,QC,ZV];refine Cg c1 ?_;simp only[vx,T,seval,QV,QC,ZV];refine Cg c2 ?_;simp only[vx,T,seval,QV,QC,ZV];exact Ve rfl
 ·refine pw Tryz.func246 ⟨[0,1,2,3,4,5,6,7,25],[]⟩ ?_;simp only[Tryz.f246,Tryz.ntmps246,iz,seval];simp only[vx,T,seval,QV,QC,ZV];refine Cg c1 ?_;simp only[vx,T,seval,QV,QC,ZV];refine Cg c2 ?_;simp only[vx,T,seval,QV,QC,ZV];exact Ve rfl
 ·exact absurd ⟨rfl,rfl⟩ h
 ·refine pw Tryz.func246 ⟨[0,1,2,3,4,5,6,7,25],[]⟩ ?_;simp only[Tryz.f246,Tryz.ntmps246,iz,seval];simp only[vx,T,seval,QV,QC,ZV];refine Cg c1 ?_;simp only[vx,T,seval,QV,QC,ZV];refine Cg c2 ?_;simp only[vx,T,seval,QV,QC,ZV];exact Ve rfl
 ·refine pw Tryz.func246 ⟨[0,1,2,3,4,5,6,7,25],[]⟩ ?_;simp only[Tryz.f246,Tryz.ntmps246,iz,seval];simp only[vx,T,seval,QV,QC,ZV];refine Cg c1 ?_;simp only[vx,T,seval,QV,QC,ZV];refine Cg c2 ?_;simp only[vx,T,seval,QV,QC,ZV];exact Ve rfl
 ·refine pw Tryz.func246 ⟨[0,1,2,3,4,5,6,7,25],[]⟩ ?_;simp only[Tryz.f246,Tryz.ntmps246,iz,seval];simp only[vx,T,seval,QV,QC,ZV];refine Cg c1 ?_;simp only[vx,T,seval,QV,QC,ZV];refine Cg c2 ?_;simp only[vx,T,seval,QV,QC,ZV];exact Ve rfl
 ·exact absurd ⟨rfl,rfl⟩ h
 ·refine pw Tryz.func246 ⟨[0,1,2,3,4,5,6,7,25],[]⟩ ?_;simp only[Tryz.f246,Tryz.ntmps246,iz,seval];simp only[vx,T,seval,QV,QC,ZV];refine Cg c1 ?_;simp only[vx,T,seval,QV,QC,ZV];refine Cg c2 ?_;simp only[vx,T,seval,QV,QC,ZV];exact Ve rfl
 ·refine pw Tryz.func246 ⟨[0,1,2,3,4,5,6,7,25],[]⟩ ?_;simp only[Tryz.f246,Tryz.ntmps246,iz,seval];simp only[vx,T,seval,QV,QC,ZV];refine Cg c1 ?_;simp only[vx,T,seval,QV,QC,ZV];refine Cg c2 ?_;simp only[vx,T,seval,QV,QC,ZV];exact Ve rfl
 ·refine pw Tryz.func246 ⟨[0,1,2,3,4,5,6,7,25],[]⟩ ?_;simp only[Tryz.f246,Tryz.ntmps246,iz,seval];simp only[vx,T,seval,QV,QC,ZV];refine Cg c1 ?_;simp only[vx,T,seval,QV,QC,ZV];refine Cg c2 ?_;simp only[vx,T,seval,QV,QC,ZV];exact Ve rfl
 exact absurd ⟨rfl,rfl⟩ h
theorem CL {x:Rat}(hx:qm x<2^34)(h:Ad x=none):Pr Tryz.prog 246 [QV x] (.aJ [.agg [.bool false,.nil,.bool false,.nil],.one (.bool false)]):=by
 unfold qm at hx;obtain⟨m1,k1,c1,_⟩:=m9 x.num (by omega);obtain⟨m2,k2,c2,_⟩:=m9 (x.den:Int) (by rw[ay];omega);refine FT k1 k2 c1 c2 fun⟨h1,h2⟩=>?_;have h1:=of_decide_eq_true h1;have h2:=of_decide_eq_true h2;unfold Ad at h;rw[if_pos ⟨h1.1,h1.2,h2.2⟩]at h;cases h
theorem CA {x r:Rat}(hx:qm x<2^34)(h:Ad x=some r):Pr Tryz.prog 246 [QV x] (.aJ [QV r,.one (.bool true)]):=by
 obtain⟨_,s1,s2,s3,s4,s5⟩:=pF h;unfold qm at hx;obtain⟨m1,k1,c1,l1⟩:=m9 x.num (by omega);obtain⟨m2,k2,c2,l2⟩:=m9 (x.den:Int) (by rw[ay];omega);rw[decide_eq_true ⟨s1,s2⟩]at c1;rw[decide_eq_true ⟨by omega,s3⟩]at c2;have l1:=l1 s1;have l2:=l2 (by omega);have hz1:zs r.num=false:=dD.2 (by omega);have hz2:zs (r.den:Int)=false:=dD.2 (by omega);have fin:jJ (.aJ [.agg [.bool false,m1,.bool false,m2],.one (.bool true)]) (.aJ [QV r,.one (.bool true)]):=by
  refine jJ.aJ ⟨?_,.refl _,trivial⟩;unfold QV QC;rw[hz1,hz2,s4,s5];exact H8 (.refl _) l1 (.refl _) l2
 rcases k1 with rfl|⟨x1,rfl⟩<;>rcases k2 with rfl|⟨x2,rfl⟩
 ·refine pw Tryz.func246 ⟨[0,1,2,3,4,5,6,7,25],[]⟩ ?_;simp only[Tryz.f246,Tryz.ntmps246,iz,seval];simp only[vx,T,seval,QV,QC,ZV];refine Cg c1 ?_;simp only[vx,T,seval,QV,QC,ZV];refine Cg c2 ?_;simp only[vx,T,seval,QV,QC,ZV];exact fin
 ·refine pw Tryz.func246 ⟨[0,1,2,3,4,5,6,7,25],[]⟩ ?_;simp only[Tryz.f246,Tryz.ntmps246,iz,seval];simp only[vx,T,seval,QV,QC,ZV];refine Cg c1 ?_;simp only[vx,T,seval,QV,QC,ZV];refine Cg c2 ?_;simp only[vx,T,seval,QV,QC,ZV];exact fin
 ·refine pw Tryz.func246 ⟨[0,1,2,3,4,5,6,7,25],[]⟩ ?_;simp only[Tryz.f246,Tryz.ntmps246,iz,seval];simp only[vx,T,seval,QV,QC,ZV];refine Cg c1 ?_;simp only[vx,T,seval,QV,QC,ZV];refine Cg c2 ?_;simp only[vx,T,seval,QV,QC,ZV];exact fin
 refine pw Tryz.func246 ⟨[0,1,2,3,4,5,6,7,25],[]⟩ ?_;simp only[Tryz.f246,Tryz.ntmps246,iz,seval];simp only[vx,T,seval,QV,QC,ZV];refine Cg c1 ?_;simp only[vx,T,seval,QV,QC,ZV];refine Cg c2 ?_;simp only[vx,T,seval,QV,QC,ZV];exact fin
open Go Go.Eng
open Go.Tw (El aC aG zE aj au ar aq ae QB mS ai ah aL aF tB aX aD cg lU)
theorem vW {X h:Nat}(hX1:1≤X)(hX:X≤2^26){t:List El}{a n:El}(W:TQ h t)(ha:a.length=2^h)(hi:lU X h t a)(hn:cg h t a=some n):
  Pr Tryz.prog 248 [tV h t,eV a] (.aJ [eV n,.one (.int .i64 0)]):=by
 have f:=dC W.tk a ha (.of hi.qb (by omega));have c:=(qt hX1 hX W ha hi).1 n hn;refine pw Tryz.func248 ⟨[0,1,4,5,6,7,11,19],[]⟩ ?_;simp only[Tryz.f248,Tryz.ntmps248,iz,seval];simp only[vx,T,seval,tV,tC,eV,ag];refine Cg f ?_;simp only[vx,T,seval,tV,tC,eV,ag];refine Cg c ?_;simp only[vx,T,seval,tV,tC,eV,ag];exact Ve rfl
open Go Go.Eng
open Go.Tw (El aC aG zE aj au ar aq ae QB mS ai ah aL aF tB aX aD)
theorem uE (z:Int)(hz:zn z<2^36):Pr Tryz.prog 267 [ZV z] (ZV z):=by
 have c:=fK z (by omega);have d:=xV z.natAbs (by show nl z.natAbs<_;unfold zn at hz;omega);have s:=bV (zs z) z.natAbs (by unfold zn at hz;omega);have e:fv (zs z) z.natAbs=z:=bM z;rw[e]at s;refine pw Tryz.func267 ⟨[0,1,2],[]⟩ ?_;simp only[Tryz.f267,Tryz.ntmps267,iz,seval];simp only[vx,T,seval,ZV];refine Cg c ?_;simp only[vx,T,seval,ZV];refine Cg d ?_;simp only[vx,T,seval,ZV];refine Cg s ?_;simp only[vx,T,seval,ZV];exact Ve rfl
theorem Cu (n:Int)(d:Nat)(hn:zn n<2^35)(hd:nl d<2^35)(h0:0<d):Pr Tryz.prog 262 [ZV n,ZV (d:Int)] (.aJ [QV (mkRat n d),.one (.int .i64 0)]):=by
 have n1:=uE n (by omega);have n2:=uE (d:Int) (by rw[ay];omega);have z:=l9 (d:Int);rw[decide_eq_false (by omega)]at z;have lo:=fb n d (by omega) (by omega) h0;refine pw Tryz.func262 ⟨[0,1,2,3,4,5,11],[]⟩ ?_;simp only[Tryz.f262,Tryz.ntmps262,iz,seval];simp only[vx,T,seval,ZV];refine Cg n1 ?_;simp only[vx,T,seval,ZV];refine Cg n2 ?_;simp only[vx,T,seval,ZV];refine Cg z ?_;simp only[vx,T,seval,ZV];refine Cg lo ?_;simp only[vx,T,seval,ZV,QV,QC];exact Ve rfl
theorem Cr (n:Int)(d:Nat)(hn: -9223372036854775808≤n∧n≤9223372036854775807)(hd:d≤9223372036854775807)(h0:0<d)(k1:zn n<2^35)(k2:nl d<2^35):
  Pr Tryz.prog 258 [.one (.int .i64 n),.one (.int .i64 d)] (QV (mkRat n d)):=by
 have c1:=gU n hn.1 hn.2;have c2:=gU (d:Int) (by omega) (by omega);have m:=Cu n d k1 k2 h0;refine pw Tryz.func258 ⟨[0,1,4,5,6,16],[]⟩ ?_;simp only[Tryz.f258,Tryz.ntmps258,iz,seval];simp only[vx,T,seval,ZV];refine Cg c1 ?_;simp only[vx,T,seval,ZV];refine Cg c2 ?_;simp only[vx,T,seval,ZV];refine Cg m ?_;simp only[vx,T,seval,ZV,QV,QC];exact Ve rfl
theorem FI {X h:Nat}{q:Rat}(h0:qm 0≤X)(hq:qm q≤X):QB X (aX h q):=fun x hx=>by
 unfold aX at hx
 rcases List.mem_cons.1 hx with rfl|hx
 ·exact hq
 rw[List.eq_of_mem_replicate hx];exact h0
theorem Cv {X h:Nat}{t:List El}{a:El}(hX1:1≤X)(hX:X≤2^27)(W:TQ h t)(ha:a.length=2^h)(hq:QB X a):
  Pr Tryz.prog 251 [tV h t,eV a] (eV (aj h t a (aX h (mkRat 1 2)))):=by
 have c:=Cr 1 2 (by decide) (by decide) (by decide) (by decide+kernel) (by decide+kernel);have f:=dW W.tk (mkRat 1 2) (by decide+kernel);have m:=Gb W ha aD hX1 (by decide) (by omega) hq (FI (X:=8) (h:=h) (q:=mkRat 1 2) (by decide+kernel) (by decide+kernel));refine pw Tryz.func251 ⟨[0,1,4],[]⟩ ?_;simp only[Tryz.f251,Tryz.ntmps251,iz,seval];simp only[vx,T,seval,tV,tC,eV,ag];refine Cg c ?_;simp only[vx,T,seval,tV,tC,eV,ag,QV,QC];refine Cg f ?_;simp only[vx,T,seval,tV,tC,eV,ag];refine Cg m ?_;simp only[vx,T,seval,tV,tC,eV,ag];exact Ve rfl
open Go Go.Proofs Go.RowKit Go.Eng
set_option maxRecDepth 100000 in
theorem Bd (k:Nat)(h0:0<k)(hb:k*64≤140737488355328)(w:World)(i:TypeInfo)(z:Value)(hi:Tryz.prog.info? 57=some i)(hz:i.zero=some z)(hs:i.size=4)(hby:i.bytes=64):
  Calls Tryz.prog 255 #[.slice none 0 0,.int .i64 k] w fun e w'=>e= .returned (.slice (some ⟨w.heap.size,0,none⟩) 0 (grownCap w k 0 57))∧
   w'=w.drew.alloc (.cells (Builtin.zeroCells z.cells k++Builtin.zeroCells z.cells (grownCap w k 0 57-k)) 57):=by
 have h1:¬((k:Int)<0):=by omega
 have h3:wrap64 ((k:Int)-(((0:Nat):Int)-((0:Nat):Int)))=(k:Int):=by unfold wrap64;omega
 have h4:(k:Int)>0:=by omega
 have hrz:∀ty,(Builtin.append_ #[33,3] ty #[.slice none 0 0,.int .i64 (k:Int)]).run Tryz.prog w=
   .ok (.slice (some ⟨w.heap.size,0,none⟩) k (grownCap w k 0 57)) (w.drew.alloc (.cells (Builtin.zeroCells z.cells k++Builtin.zeroCells z.cells (grownCap w k 0 57-k)) 57)):=fun ty=>
  Lib.run_append_nil_zeros w 33 3 ty 57 i z .i64 .i64 (by rfl) (by rfl) hi hz k h0 (by omega) (by omega) (by rw[hby];omega)
 obtain⟨G,hG⟩:∃G,G=grownCap w k 0 57:=⟨_,rfl⟩;rw[←hG]at hrz⊢;have hGn:k≤G:=by rw[hG];exact grownCap_ge w _ _ _
 clear hG
 go_enter Tryz.func255,Tryz.ntmps255
 go_wp2_with (at_builtin;refine Lib.wpList_append_run _ rfl _ _ _ _ rfl _ _ rfl rfl _ _ (hrz _) ?_)
 all_goals(go_ret;exact⟨rfl,rfl⟩)
set_option maxRecDepth 100000 in
theorem Ca (w:World):Calls Tryz.prog 255 #[.slice none 0 0,.int .i64 0] w fun e w'=>e= .returned (.slice none 0 0)∧w'=w:=by
 go_enter Tryz.func255,Tryz.ntmps255
 go_wp2
 go_ret
 exact⟨rfl,rfl⟩
theorem AZ (k:Nat)(hb:k*64≤140737488355328):Fr Tryz.prog 255 [.one .nil,.one (.int .i64 k)] (.rows 57 4 0 (fun _ _=>.any)):=by
 obtain⟨i,d,z,hi,hu,hz,_,hs,hby,hzl,_⟩:=bI y6 (show T 57=some _ from rfl);have hs:i.size=4:=hs.symm;have hby:i.bytes=64:=hby.symm;refine⟨⟨_,Tryz.func255,by rfl,by rfl⟩,trivial,fun ok w vs hok hr=>?_⟩;obtain⟨vs⟩:=vs
 match vs,hr with
 |[v,u],hr=>
  obtain⟨hv,hu,_⟩:=hr;have hv:v= .slice none 0 0:=hv;have hu:u= .int .i64 k:=hu;subst hv hu
  by_cases h0:k=0
  ·subst h0
   refine(Ca w).mono ?_
   rintro e w' ⟨rfl,rfl⟩;exact⟨_,⟨none,0⟩,rfl,Go.RowKit.Below.refl _ _,rfl,(fun g o h=>by cases h),(fun j=>by simp[Bk.cell]),trivial,Nat.le_refl _,0,Nat.le_refl _,.inr ⟨rfl,rfl,rfl,rfl⟩⟩
  refine(Bd k (by omega) hb w i z hi hz hs hby).mono ?_
  rintro e w' ⟨rfl,rfl⟩;have hzc:z.cells.size=4:=by
   have:=congrArg List.length hzl
   simpa[T]using this.symm
  have hGn:k≤grownCap w k 0 57:=grownCap_ge w _ _ _;refine⟨_,⟨some (w.heap.size,0),0⟩,rfl,((Go.RowKit.Below.refl _ w).drew).alloc (Nat.le_refl _) _,rfl,fun g o h=>?_,?_,trivial,Nat.le_refl _,grownCap w k 0 57,Nat.zero_le _,.inl ⟨w.heap.size,0,0,rfl,rfl,.inr (by simp),?_⟩⟩
  ·have:w.heap.size=g:=by simpa using congrArg (Option.map Prod.fst) h
   subst this;exact⟨Nat.le_refl _,by simp⟩
  ·unfold aT;refine⟨_,57,heap_alloc_new w.drew _,fun j c hj=>?_⟩
   simp[Bk.cell]at hj
  have hrs:b6 (w.drew.alloc (.cells (Builtin.zeroCells z.cells k++Builtin.zeroCells z.cells (grownCap w k 0 57-k)) 57)) w.heap.size=(Builtin.zeroCells z.cells k++Builtin.zeroCells z.cells (grownCap w k 0 57-k)).size:=cL (heap_alloc_new w.drew _);rw[hrs];simp only[Array.size_append,size_zeroCells,hzc,Bk.wd];omega
end Go.Proofs.YtgalhjhdgkoemaaGreat
namespace Go.Eng
open Go
theorem dY {P:Program}{f:FuncId}{xs ys:List V}{B:Bk}(h:Fr P f ys B)(ha:Az xs ys):Fr P f xs B:=
 ⟨h.1,h.2.1,fun ok w vs hok hvs=>h.2.2 ok w vs hok (ha.rep hvs)⟩
theorem jf {α:Type}{ps:List (List α)}{i:Nat}(h:i<ps.length):(ps.take (i+1)).flatten=(ps.take i).flatten++ps.getD i default:=by
 rw[List.take_add_one,List.flatten_append,X7,X8 h];simp
theorem fF {α:Type}(ps:List (List α))(i:Nat):(ps.take i).flatten.length≤ps.flatten.length:=by
 conv=>rhs;rw[←List.take_append_drop i ps,List.flatten_append,X6]
 exact Nat.le_add_right _ _
end Go.Eng
namespace Go.Proofs.YtgalhjhdgkoemaaGreat
open Go Go.Eng
open Go.Tw (El)
def fG (l:List (Nat→C))(i j:Nat):C:=l.getD i (fun _=>.any) j
def GC (l:List (Nat→C)):C:=.rows 4 l.length (fG l)
theorem Of (p q:List (Nat→C)):∀(i j:Nat),i<p.length+q.length→j<4→(if i<p.length then fG p i j else fG q (i-p.length) j)=fG (p++q) i j:=by
 intro i j _ _;unfold fG
 by_cases h:i<p.length
 ·rw[if_pos h,X7,X7,List.getElem?_append_left h]
 rw[if_neg h,X7,X7,List.getElem?_append_right (by omega)]
theorem xh (ps:List (List (Nat→C)))(hl:ps.flatten.length<2^38)(hk:ps.length<2^38):Fr Tryz.prog 247 [.one (.rows 1 ps.length (fun i _=>GC (ps.getD i default)))] (.rows 57 4 (ps.flatten).length (fG (ps.flatten))):=by
 refine fw Tryz.func247 ⟨[0,2,3,5,6,8,9,10,11,12,20,25,26,27,28],[]⟩ ?_;simp only[Tryz.f247,Tryz.ntmps247,iz,seval];simp only[vx,T,seval];refine Lk (fun y:{i:Nat//i≤ps.length}=>⟨[(0,.one (.rows 1 ps.length (fun i _=>GC (ps.getD i default)))),(3,.one (.int .i64 (ps.take y.1).flatten.length)),(9,.one (.rows 1 ps.length (fun i _=>GC (ps.getD i default)))),(10,.one (.int .i64 ps.length)),(11,.one (.int .i64 y.1))],[],1,36⟩) (fun y=>ps.length-y.1) ⟨0,Nat.zero_le _⟩ ?_ (fun⟨i,hi⟩=>?_)
 ·refine Sa ?_;simp only[ry,seval,rz]
 have h0:=fF ps i;have i1:=wI i (by omega);simp only[vx,T,seval];refine⟨fun h1=>Lg ?_,fun h1=>Lg ?_⟩
 ·have hs:=jf (ps:=ps) (i:=i) (by omega);have h2:=fF ps (i+1);have hsl:(ps.take (i+1)).flatten.length=(ps.take i).flatten.length+(ps.getD i default).length:=by rw[hs,X6]
  obtain⟨a,ha⟩:∃a,a=ps.getD i default:=⟨_,rfl⟩;rw[←ha]at hsl;have w1:IntKind.i64.wrap (((ps.take i).flatten.length:Int)+a.length)=((ps.take (i+1)).flatten.length:Int):=by rw[IntWalk.i64_in _ (by omega)];omega
  simp only[vx,T,seval,GC,←ha];simp only[w1];refine⟨by omega,fun h=>absurd h (by omega),fun _=>Lg ?_⟩;simp only[vx,T,seval,GC,←ha];simp only[i1];refine Lq ⟨i+1,by omega⟩ ?_ ?_
  ·refine Sa ?_;simp only[ry,seval,rz]
  simp only;omega
 have hip:i=ps.length:=by omega
 subst hip;rw[List.take_length];simp only[vx,T,seval];refine cY.fresh (AZ ps.flatten.length (by omega)) ?_;simp only[vx,T,seval];refine Lk (fun y:{i:Nat//i≤ps.length}=>⟨[(0,.one (.rows 1 ps.length (fun i _=>GC (ps.getD i default)))),(6,.one (.own 1 4 0 (ps.take y.1).flatten.length)),(25,.one (.rows 1 ps.length (fun i _=>GC (ps.getD i default)))),(26,.one (.int .i64 ps.length)),(27,.one (.int .i64 y.1))],[(1,⟨(.rows 57 4 ((ps.take y.1).flatten).length (fG ((ps.take y.1).flatten))),true⟩)],2,36⟩) (fun y=>ps.length-y.1) ⟨0,Nat.zero_le _⟩ ?_ (fun⟨i,hi⟩=>?_)
 ·refine Sa ?_;simp only[ry,seval,rz];exact fun i j h=>absurd h (by omega)
 have h0:=fF ps i;have i1:=wI i (by omega);simp only[vx,T,seval];refine⟨fun h1=>Lg ?_,fun h1=>Lg ?_⟩
 ·have hs:=jf (ps:=ps) (i:=i) (by omega);have h2:=fF ps (i+1);have hsl:(ps.take (i+1)).flatten.length=(ps.take i).flatten.length+(ps.getD i default).length:=by rw[hs,X6]
  obtain⟨a,ha⟩:∃a,a=ps.getD i default:=⟨_,rfl⟩;rw[←ha]at hsl hs;simp only[vx,T,seval,GC,←ha];simp only[i1];refine⟨by omega,by rw[←X6,←hs];omega,Lq ⟨i+1,by omega⟩ ?_ ?_⟩
  ·refine Sa ?_;simp only[ry,seval,rz,hs];exact⟨by simp,by simp,Of _ _⟩
  simp only;omega
 have hip:i=ps.length:=by omega
 subst hip;rw[List.take_length];simp only[vx,T,seval];exact⟨rfl,rfl,fun _ _ _ _=>rfl⟩
theorem xP (l:El):dg (ag l) (GC (l.map qC)):=dg.rows (List.length_map _).symm fun i j hi _=>.of_eq (by
 unfold fG;rw[X7,X7,List.getElem?_map,X8 hi];rfl)
theorem It (l:El):dg (GC (l.map qC)) (ag l):=dg.rows (List.length_map _) fun i j hi _=>.of_eq (by
 have hi:i<l.length:=by rw[List.length_map]at hi;exact hi
 unfold fG;rw[X7,X7,List.getElem?_map,X8 hi];rfl)
theorem DU {x y:C}{p q:List (Nat→C)}(hx:dg x (GC p))(hy:dg y (GC q))(hl:p.length+q.length<2^38):
  Pr Tryz.prog 247 [.one (.rows 1 2 (fun i j=>[x,y].getD (i*1+j) .any))] (.one (GC (p++q))):=by
 have c:=(xh [p,q] (by simpa using hl) (by simp)).rows;have e:[p,q].flatten=p++q:=by simp
 rw[e]at c;refine c.args ⟨.cell (.rows rfl fun i j hi hj=>?_),trivial⟩;obtain rfl:j=0:=by omega
 match i,hi with
 |0,_=>exact hx
 |1,_=>exact hy
theorem Ov (a b:El)(hl:a.length+b.length<2^38):Pr Tryz.prog 247 [.one (.rows 1 2 (fun i j=>[ag a,ag b].getD (i*1+j) .any))] (eV (a++b)):=by
 have c:=DU (xP a) (xP b) (by simpa using hl);rw[←List.map_append]at c;exact c.res (jJ.cell (It _))
end Go.Proofs.YtgalhjhdgkoemaaGreat
/-
  SQUARE ROOTS IN TOWERS: the steps from a floor to the next.
-/
namespace Go.R
open Go.Re
theorem nv (x:R):x*q (mkRat 1 2)+x*q (mkRat 1 2)=x:=by
 induction x using ind with|h x=>
 exact pt fun n=>by
  simp only[Sq.add,Sq.mul,Sq.const]
  have:(mkRat 1 2:Rat)+mkRat 1 2=1:=by decide+kernel
  grind
theorem M9 (p g r:R):p*p+g*g*r+(p*p+ -(g*g*r))=p*p+p*p:=by
 induction p using ind with|h p=>induction g using ind with|h g=>induction r using ind with|h r=>
 exact pt fun n=>by simp only[Sq.add,Sq.mul,Sq.neg];grind
end Go.R
namespace Go.Tw
open Go Go.R
section
variable {h:Nat}{t:List El}{a:El}
def nU (h:Nat)(t:List El)(x:R):Prop:=∀z,In h t z→z*z≠x
theorem sD (hv:a.drop (2^h)=zE (2^h)):val (h+1) t a=val h t (a.take (2^h)):=by
 rw[val,hv,val_zero,zero_mul,add_zero]
theorem zU (hv:a.drop (2^h)=zE (2^h)){w:El}(hw:w.length=2^h)(e:val h t w*val h t w=val h t (a.take (2^h))):
  (w++zE (2^h)).length=2^(h+1)∧val (h+1) t (w++zE (2^h))*val (h+1) t (w++zE (2^h))=val (h+1) t a:=by
 refine⟨by rw[X6,hw,au,Nat.pow_succ];omega,?_⟩;rw[lJ hw,sD hv,e]
theorem AG (H:Rl (h+1) t)(ha:a.length=2^(h+1))(hv:a.drop (2^h)=zE (2^h)){i:El}(hi:cg h t (t.getD h [])=some i){w:El}(hw:w.length=2^h)(e:val h t w*val h t w=val h t (aj h t (a.take (2^h)) i)):
  (zE (2^h)++w).length=2^(h+1)∧val (h+1) t (zE (2^h)++w)*val (h+1) t (zE (2^h)++w)=val (h+1) t a:=by
 have H':=H.le (Nat.le_succ h);obtain⟨hl,hm⟩:=du H' (H h (by omega)).1 hi;refine⟨by rw[X6,hw,au,Nat.pow_succ];omega,?_⟩;rw[val_mul H' (ai ha) hl]at e;rw[fW au,val_zero,zero_add,sD hv,jM,H.root,e,mul_assoc,mul_comm (val h t i),hm,mul_one]
theorem AE (D:Rd (h+1) t)(ha:a.length=2^(h+1))(hv:a.drop (2^h)=zE (2^h)){i:El}(hi:cg h t (t.getD h [])=some i)
  (n1:nU h t (val h t (a.take (2^h)))) (n2:nU h t (val h t (aj h t (a.take (2^h)) i))):nU (h+1) t (val (h+1) t a):=by
 have H':=D.rl.le (Nat.le_succ h);obtain⟨hl,hm⟩:=du H' (D.rl h (by omega)).1 hi;intro z hz e;rw[sD hv]at e
 rcases Nv D (.of (ai ha)) hz e with⟨k1,k2⟩|⟨g,k1,_,k3⟩
 ·exact n1 z k1 k2
 refine n2 g k1 ?_;rw[val_mul H' (ai ha) hl,←k3,mul_assoc,hm,mul_one]
theorem vP (D:Rd (h+1) t)(ha:a.length=2^(h+1))(hv:a.drop (2^h)≠zE (2^h))(n1:nU h t (val h t (aL h t a))):nU (h+1) t (val (h+1) t a):=by
 have D':=D.le (Nat.le_succ h);have h0:val h t (a.drop (2^h))≠q 0:=fun e=>hv (mo D' (ah ha) e);intro z hz e;obtain⟨p,g,hp,hg,_,_,_,_,k⟩:=C8 D (.of (ai ha)) (.of (ah ha)) h0 hz e;refine n1 _ ((In.mul D'.rl hp hp).add (In.mul D'.rl (In.mul D'.rl hg hg) (.of (D.rl h (by omega)).1)).neg) ?_;rw[k,eZ D.rl ha,D.rl.root]
theorem xq (D:Rd (h+1) t)(ha:a.length=2^(h+1))(hv:a.drop (2^h)≠zE (2^h)){m:El}(hm:m.length=2^h)(em:val h t m*val h t m=val h t (aL h t a)){w:El}
  (ew:val h t w*val h t w=val h t (aj h t (aC (a.take (2^h)) m) (aX h (mkRat 1 2)))):val h t w≠q 0:=by
 have D':=D.le (Nat.le_succ h);intro e;rw[e,mul_zero,val_mul D'.rl (aq (ai ha) hm) aD,b9,val_add (ai ha) hm]at ew;have k:=nv (val h t (a.take (2^h))+val h t m);rw[←ew,add_zero]at k;have k2:val h t m= -val h t (a.take (2^h)):=nh (by rw[add_comm];exact k.symm);rw[k2,neg_mul,mul_neg,neg_neg,eZ D.rl ha,D.rl.root]at em;have k3: -(val h t (a.drop (2^h))*val h t (a.drop (2^h))*val h t (t.getD h []))=q 0:=by
  have k4:q 0+val h t (a.take (2^h))*val h t (a.take (2^h))= -(val h t (a.drop (2^h))*val h t (a.drop (2^h))*val h t (t.getD h []))+val h t (a.take (2^h))*val h t (a.take (2^h)):=by
   rw[zero_add,add_comm];exact em
  exact(CK k4).symm
 have k5:=congrArg (- ·) k3;simp only[neg_neg,kj]at k5
 rcases iU k5 with k5|k5
 ·exact hv (mo D' (ah ha) (OP k5))
 exact mr (D.rl h (by omega)).2 k5
theorem wJ (D:Rd (h+1) t)(ha:a.length=2^(h+1))(hv:a.drop (2^h)≠zE (2^h)){m:El}(hm:m.length=2^h)(em:val h t m*val h t m=val h t (aL h t a)){w:El}(hw:w.length=2^h)
  (ew:val h t w*val h t w=val h t (aj h t (aC (a.take (2^h)) m) (aX h (mkRat 1 2)))) {g:El} (hg:g.length=2^h) (eg:val h t w*val h t g+val h t w*val h t g=val h t (a.drop (2^h))):
  (w++g).length=2^(h+1)∧val (h+1) t (w++g)*val (h+1) t (w++g)=val (h+1) t a:=by
 have D':=D.le (Nat.le_succ h);have h0:=xq D ha hv hm em ew;rw[val_mul D'.rl (aq (ai ha) hm) aD,b9,val_add (ai ha) hm]at ew;rw[eZ D.rl ha,D.rl.root]at em;refine⟨by rw[X6,hw,hg,Nat.pow_succ];omega,?_⟩;rw[fW hw,val];exact KP D.rl.root em (by rw[ew,nv]) h0 eg
theorem wS (D:Rd (h+1) t)(ha:a.length=2^(h+1))(hv:a.drop (2^h)≠zE (2^h)){n:El}(hn:n.length=2^h)(en:val h t n*val h t n=val h t (aL h t a))
  (n1:nU h t (val h t (aj h t (aC (a.take (2^h)) n) (aX h (mkRat 1 2))))) (n2:nU h t (val h t (aj h t (aC (a.take (2^h)) (aG n)) (aX h (mkRat 1 2))))):nU (h+1) t (val (h+1) t a):=by
 have D':=D.le (Nat.le_succ h);have h0:val h t (a.drop (2^h))≠q 0:=fun e=>hv (mo D' (ah ha) e);have ln:(aG n).length=2^h:=by rw[ar,hn]
 intro z hz e;obtain⟨p,g,hp,hg,_,_,_,k1,k⟩:=C8 D (.of (ai ha)) (.of (ah ha)) h0 hz e;rw[val_mul D'.rl (aq (ai ha) hn) aD,b9,val_add (ai ha) hn]at n1;rw[val_mul D'.rl (aq (ai ha) ln) aD,b9,val_add (ai ha) ln,val_neg hn]at n2;have e2:val h t n*val h t n=(p*p+ -(g*g*val h t (t.getD h [])))*(p*p+ -(g*g*val h t (t.getD h []))):=by
  rw[en,k,eZ D.rl ha,D.rl.root]
 have key:val h t (a.take (2^h))+(p*p+ -(g*g*val h t (t.getD h [])))=p*p+p*p:=by
  rw[←k1,M9]
 have key2:(p*p+p*p)*q (mkRat 1 2)=p*p:=by rw[add_mul,nv]
 rcases Dr e2 with e3|e3
 ·exact n1 p hp (by rw[e3,key,key2])
 exact n2 p hp (by rw[e3,neg_neg,key,key2])
end
end Go.Tw
namespace Go.Proofs.YtgalhjhdgkoemaaGreat
open Go Go.Eng
open Go.Tw (El aC aG zE aj au ar aq ae QB mS ai ah aL aF tB aX aD cg lU kP iH val In)
def Kg (h:Nat)(t:List El)(a:El)(f:FuncId):Prop:=
 (∃b,b.length=2^h∧val h t b*val h t b=val h t a∧Pr Tryz.prog f [tV h t,eV a] (.aJ [eV b,.one (.bool true)]))∨
 (Go.Tw.nU h t (val h t a)∧∃l:List (Nat→C),l.length≤2^h∧Pr Tryz.prog f [tV h t,eV a] (.aJ [.one (GC l),.one (.bool false)]))
theorem x9 {t:List El}{x r:Rat}(hx:qm x<2^34)(h:Ad x=some r):Pr Tryz.prog 242 [tV 0 t,eV [x]] (.aJ [eV [r],.one (.bool true)]):=by
 have c:=CA hx h;refine pw Tryz.func242 ⟨[0,1,4,5,6,7,8,9,10,11,12,13,14,15,16,17,18,19,21,22,23,24,28,61,68,82,108,117,118,119,120,136],[(4,.nil),(5,.nil)]⟩ ?_;simp only[Tryz.f242,Tryz.ntmps242,iz,seval];simp only[vx,T,seval,QV,QC,tV,tC,eV,ag,qC,X0];refine Cg c ?_;simp only[vx,T,seval,QV,QC,tV,tC,eV,ag,qC,X0];refine jJ.aJ ⟨.cell (.rows rfl fun i j hi _=>.of_eq ?_),.refl _,trivial⟩;obtain rfl:i=0:=by omega
 rw[Nat.zero_mul,Nat.zero_add];exact dx r rfl j
theorem yq {t:List El}{x:Rat}(hx:qm x<2^34)(h:Ad x=none):Pr Tryz.prog 242 [tV 0 t,eV [x]] (.aJ [.one zR,.one (.bool false)]):=by
 have c:=CL hx h;refine pw Tryz.func242 ⟨[0,1,4,5,6,7,8,9,10,11,12,13,14,15,16,17,18,19,21,22,23,24,28,61,68,82,108,117,118,119,120,136],[(4,.nil),(5,.nil)]⟩ ?_;simp only[Tryz.f242,Tryz.ntmps242,iz,seval];simp only[vx,T,seval,QV,QC,tV,tC,eV,ag,qC,X0];refine Cg c ?_;simp only[vx,T,seval,QV,QC,tV,tC,eV,ag,qC,X0];exact Ve rfl
theorem Ke {t:List El}{a:El}(ha:a.length=2^0)(hq:Qk a):Kg 0 t a 242:=by
 obtain⟨x,rfl⟩:=Go.Tw.bD ha;have hx:qm x<2^34:=hq x (by simp)
 cases h:Ad x with
 |some r=>
  refine .inl ⟨[r],rfl,?_,x9 hx h⟩;show R.q r*R.q r=R.q x;rw[←R.eE,(pF h).1]
 |none=>
  refine .inr ⟨?_,[fun j=>[C.bool false,.nil,.bool false,.nil].getD j .any],Nat.le_refl _,(yq hx h).res (jJ.aJ ⟨.cell (.rows rfl fun i j hi _=>.of_eq ?_),.refl _,trivial⟩)⟩
  rotate_left
  ·obtain rfl:i=0:=by omega
   rw[Nat.zero_mul,Nat.zero_add];rfl
  rintro z ⟨b,hb,rfl⟩ e;obtain⟨y,rfl⟩:=Go.Tw.bD hb;have e:R.q y*R.q y=R.q x:=e;rw[←R.eE]at e;exact yO h y (R.qq e)
open Go Go.Eng
open Go.Tw (El aC aG zE aj au ar aq ae QB mS ai ah aL aF tB aX aD cg lU kP iH val In)
theorem BW {h:Nat}:aX h (Rat.ofInt 0)=zE (2^h):=by
 have:=Nat.two_pow_pos h
 show(0:Rat)::List.replicate (2^h-1) 0=List.replicate (2^h) 0
 rw[←List.replicate_succ];congr 1;omega
theorem LO {f:FuncId}{r:V}{h n:Nat}{t:List El}{a:El}(c:Pr Tryz.prog f [tV h t,eV (a.take n)] r)(hn:n≤a.length):Pr Tryz.prog f [tV h t,.one (.rows 4 n (fun i=>qC (a.getD i default)))] r:=
 c.args ⟨.refl _,.cell (ff hn),trivial⟩
theorem FF {X h:Nat}(hX:X≤2^26){t:List El}{a w:El}(W:TQ (h+1) t)(ha:a.length=2^(h+1))(hq:QB X a)(hv:a.drop (2^h)=zE (2^h))(hw:w.length=2^h)
  (c:Pr Tryz.prog 242 [tV h t,eV (a.take (2^h))] (.aJ [eV w,.one (.bool true)])):
  Pr Tryz.prog 242 [tV (h+1) t,eV a] (.aJ [eV (w++zE (2^h)),.one (.bool true)]):=by
 have W':=W.le (Nat.le_succ h);have h3:=W.h3;have hp:2^h≤8:=Nat.pow_le_pow_right (n:=2) (by decide) (show h≤3 by omega);have z:=dc (a.drop (2^h)) (by rw[ah ha];omega) (.of (hq.drop _) (by omega));rw[decide_eq_true (by rw[ah ha];exact hv)]at z;have i0:=bA 0 (by decide) (by decide);have f:=dW W'.tk (Rat.ofInt 0) (by decide+kernel);rw[BW]at f;have k:=Ov w (zE (2^h)) (by rw[hw,au];omega);have hn:(2^h:Nat)≤a.length:=by rw[ha,Nat.pow_succ];omega
 have z:=z.args (xs:=[.one (.rows 4 (a.length-2^h) (fun i=>qC (a.getD (2^h+i) default)))]) ⟨.cell eK,trivial⟩;have c:=LO c hn;obtain⟨n,hnn⟩:∃n,n=2^h:=⟨_,rfl⟩;have ha2:a.length=2*n:=by rw[ha,Nat.pow_succ,hnn];omega
 have w1:IntKind.i64.wrap (((h+1:Nat):Int)-1)=(h:Int):=by rw[IntWalk.i64_in _ (by omega)];omega
 have w2:IntKind.i64.wrap (((a.length:Nat):Int).tdiv 2)=(n:Int):=by
  rw[ha2,Int.tdiv_eq_ediv_of_nonneg (by omega),IntWalk.i64_in _ (by omega)];omega
 have w4:((a.length:Int)-(n:Int)).toNat=a.length-n:=by omega
 rw[←hnn]at z f c k hp⊢;refine pw Tryz.func242 ⟨[0,1,4,5,6,7,8,9,10,11,12,13,14,15,16,17,18,19,21,22,23,24,28,61,68,82,108,117,118,119,120,136],[(4,.nil),(5,.nil)]⟩ ?_;simp only[Tryz.f242,Tryz.ntmps242,iz,seval];simp only[vx,T,seval,tV,tC,eV,ag,QV,QC,w1,w2,w4];refine⟨fun h=>absurd h (by omega),fun _=>Lg ?_⟩;simp only[vx,T,seval,tV,tC,eV,ag,QV,QC,w1,w2,w4];refine⟨⟨by omega,by omega⟩,⟨by omega,by omega⟩,⟨by omega,by omega⟩,⟨by omega,by omega,by omega⟩,Cg z ?_⟩;simp only[vx,T,seval,tV,tC,eV,ag,QV,QC,w1,w2,w4];refine Cg c ?_;simp only[vx,T,seval,tV,tC,eV,ag,QV,QC,w1,w2,w4];refine Cg i0 ?_;simp only[vx,T,seval,tV,tC,eV,ag,QV,QC,w1,w2,w4];refine Cg f ?_;simp only[vx,T,seval,tV,tC,eV,ag,QV,QC,w1,w2,w4];refine Cg k ?_;simp only[vx,T,seval,tV,tC,eV,ag,QV,QC,w1,w2,w4];exact Ve rfl
theorem wE {X h:Nat}(hX:X≤2^26){t:List El}{a i:El}(W:TQ (h+1) t)(ha:a.length=2^(h+1))(hq:QB X a)(hv:a.drop (2^h)=zE (2^h)){p l:List (Nat→C)}{b:Bool}(hpl:p.length≤2^h)(hX1:1≤X)
  (c:Pr Tryz.prog 242 [tV h t,eV (a.take (2^h))] (.aJ [.one (GC l),.one (.bool false)])) (hr:lU X h t (t.getD h [])) (hi:cg h t (t.getD h [])=some i) (qi:QB X i)
  (c2:Pr Tryz.prog 242 [tV h t,eV (aj h t (a.take (2^h)) i)] (.aJ [.one (GC p),.one (.bool b)])):
  Pr Tryz.prog 242 [tV (h+1) t,eV a] (.aJ [.one (GC ((zE (2^h)).map qC++p)),.one (.bool b)]):=by
 have W':=W.le (Nat.le_succ h);have h3:=W.h3;have hp:2^h≤8:=Nat.pow_le_pow_right (n:=2) (by decide) (show h≤3 by omega);have z:=dc (a.drop (2^h)) (by rw[ah ha];omega) (.of (hq.drop _) (by omega));rw[decide_eq_true (by rw[ah ha];exact hv)]at z;have i0:=bA 0 (by decide) (by decide);have f:=dW W'.tk (Rat.ofInt 0) (by decide+kernel);rw[BW]at f;have k:=DU (xP (zE (2^h))) (dg.refl (GC p)) (by rw[List.length_map,au];omega);have lr:=W.tk.len h (by omega);have iv:=vW hX1 hX W' lr hr hi;have m:=Gb W' (ai ha) (Go.Proofs.YtgalhjhdgkoemaaGreat.jr hi) hX1 hX1 (by omega) (hq.take _) qi;have hn:(2^h:Nat)≤a.length:=by rw[ha,Nat.pow_succ];omega
 have z:=z.args (xs:=[.one (.rows 4 (a.length-2^h) (fun i=>qC (a.getD (2^h+i) default)))]) ⟨.cell eK,trivial⟩;have c:=LO c hn;have m:=m.args (xs:=[tV h t,.one (.rows 4 (2^h) (fun i=>qC (a.getD i default))),eV i]) ⟨.refl _,.cell (ff hn),.refl _,trivial⟩;obtain⟨n,hnn⟩:∃n,n=2^h:=⟨_,rfl⟩;have ha2:a.length=2*n:=by rw[ha,Nat.pow_succ,hnn];omega
 have w1:IntKind.i64.wrap (((h+1:Nat):Int)-1)=(h:Int):=by rw[IntWalk.i64_in _ (by omega)];omega
 have w2:IntKind.i64.wrap (((a.length:Nat):Int).tdiv 2)=(n:Int):=by
  rw[ha2,Int.tdiv_eq_ediv_of_nonneg (by omega),IntWalk.i64_in _ (by omega)];omega
 have w4:((a.length:Int)-(n:Int)).toNat=a.length-n:=by omega
 obtain⟨r,hrr⟩:∃r,r=t.getD h []:=⟨_,rfl⟩;rw[←hrr]at iv;obtain⟨y,hy⟩:∃y,y=aj h t (a.take (2^h)) i:=⟨_,rfl⟩;rw[←hy]at m c2;rw[←hnn]at z f c k m hp⊢;refine pw Tryz.func242 ⟨[0,1,4,5,6,7,8,9,10,11,12,13,14,15,16,17,18,19,21,22,23,24,28,61,68,82,108,117,118,119,120,136],[(4,.nil),(5,.nil)]⟩ ?_;simp only[Tryz.f242,Tryz.ntmps242,iz,seval];simp only[vx,T,seval,tV,tC,eV,ag,QV,QC,w1,w2,w4,←hrr,GC];refine⟨fun h=>absurd h (by omega),fun _=>Lg ?_⟩;simp only[vx,T,seval,tV,tC,eV,ag,QV,QC,w1,w2,w4,←hrr,GC];refine⟨⟨by omega,by omega⟩,⟨by omega,by omega⟩,⟨by omega,by omega⟩,⟨by omega,by omega,by omega⟩,Cg z ?_⟩;simp only[vx,T,seval,tV,tC,eV,ag,QV,QC,w1,w2,w4,←hrr,GC];refine Cg c ?_;simp only[vx,T,seval,tV,tC,eV,ag,QV,QC,w1,w2,w4,←hrr,GC];refine Cg iv ?_;simp only[vx,T,seval,tV,tC,eV,ag,QV,QC,w1,w2,w4,←hrr,GC];refine Cg m ?_;simp only[vx,T,seval,tV,tC,eV,ag,QV,QC,w1,w2,w4,←hrr,GC];refine Cg c2 ?_;simp only[vx,T,seval,tV,tC,eV,ag,QV,QC,w1,w2,w4,←hrr,GC];refine Cg i0 ?_;simp only[vx,T,seval,tV,tC,eV,ag,QV,QC,w1,w2,w4,←hrr,GC];refine Cg f ?_;simp only[vx,T,seval,tV,tC,eV,ag,QV,QC,w1,w2,w4,←hrr,GC];refine Cg k ?_;simp only[vx,T,seval,tV,tC,eV,ag,QV,QC,w1,w2,w4,←hrr,GC];exact Ve rfl
theorem Fw {X h:Nat}(hX:X≤2^26){t:List El}{a:El}(W:TQ (h+1) t)(ha:a.length=2^(h+1))(hq:QB X a)(hv:a.drop (2^h)≠zE (2^h)){l:List (Nat→C)}(hX1:1≤X)
  (c:Pr Tryz.prog 242 [tV h t,eV (aL h t a)] (.aJ [.one (GC l),.one (.bool false)])):
  Pr Tryz.prog 242 [tV (h+1) t,eV a] (.aJ [.one .nil,.one (.bool false)]):=by
 have W':=W.le (Nat.le_succ h);have h3:=W.h3;have hp:2^h≤8:=Nat.pow_le_pow_right (n:=2) (by decide) (show h≤3 by omega);have z:=dc (a.drop (2^h)) (by rw[ah ha];omega) (.of (hq.drop _) (by omega));rw[decide_eq_false (by rw[ah ha];exact hv)]at z;have cn:=uU W a ha hX1 hX hq;have hn:(2^h:Nat)≤a.length:=by rw[ha,Nat.pow_succ];omega
 have z:=z.args (xs:=[.one (.rows 4 (a.length-2^h) (fun i=>qC (a.getD (2^h+i) default)))]) ⟨.cell eK,trivial⟩;obtain⟨n,hnn⟩:∃n,n=2^h:=⟨_,rfl⟩;have ha2:a.length=2*n:=by rw[ha,Nat.pow_succ,hnn];omega
 have w1:IntKind.i64.wrap (((h+1:Nat):Int)-1)=(h:Int):=by rw[IntWalk.i64_in _ (by omega)];omega
 have w2:IntKind.i64.wrap (((a.length:Nat):Int).tdiv 2)=(n:Int):=by
  rw[ha2,Int.tdiv_eq_ediv_of_nonneg (by omega),IntWalk.i64_in _ (by omega)];omega
 have w4:((a.length:Int)-(n:Int)).toNat=a.length-n:=by omega
 rw[←hnn]at z;refine pw Tryz.func242 ⟨[0,1,4,5,6,7,8,9,10,11,12,13,14,15,16,17,18,19,21,22,23,24,28,61,68,82,108,117,118,119,120,136],[(4,.nil),(5,.nil)]⟩ ?_;simp only[Tryz.f242,Tryz.ntmps242,iz,seval];simp only[vx,T,seval,tV,tC,eV,ag,QV,QC,w1,w2,w4,GC];refine⟨fun h=>absurd h (by omega),fun _=>Lg ?_⟩;simp only[vx,T,seval,tV,tC,eV,ag,QV,QC,w1,w2,w4,GC];refine⟨⟨by omega,by omega⟩,⟨by omega,by omega⟩,⟨by omega,by omega⟩,⟨by omega,by omega,by omega⟩,Cg z ?_⟩;simp only[vx,T,seval,tV,tC,eV,ag,QV,QC,w1,w2,w4,GC];refine Cg cn ?_;simp only[vx,T,seval,tV,tC,eV,ag,QV,QC,w1,w2,w4,GC];refine Cg c ?_;simp only[vx,T,seval,tV,tC,eV,ag,QV,QC,w1,w2,w4,GC];exact Ve rfl
def vp (u n:El)(j:Nat):El:=[aC u n,aC u (aG n)].getD j []
theorem qv {X h:Nat}(hX:X≤2^26){t:List El}{a m w i:El}(W:TQ (h+1) t)(ha:a.length=2^(h+1))(hq:QB X a)(hv:a.drop (2^h)≠zE (2^h))(hX1:1≤X){k:Nat}{r:V}(hk:k≤2)
  (c:Pr Tryz.prog 242 [tV h t,eV (aL h t a)] (.aJ [eV m,.one (.bool true)])) (hm:m.length=2^h) (qm:QB X m) (qx:∀j,j<2→QB X (vp (a.take (2^h)) m j))
  (no:∀j,j<k→∃l:List (Nat→C),Pr Tryz.prog 242 [tV h t,eV (aj h t (vp (a.take (2^h)) m j) (aX h (mkRat 1 2)))] (.aJ [.one (GC l),.one (.bool false)]))
  (yes:k<2→r= .aJ [eV (w++aj h t (a.drop (2^h)) i),.one (.bool true)]∧w.length=2^h∧w≠zE (2^h)∧QB X w∧lU X h t (aC w w)∧cg h t (aC w w)=some i∧QB X i∧
   Pr Tryz.prog 242 [tV h t,eV (aj h t (vp (a.take (2^h)) m k) (aX h (mkRat 1 2)))] (.aJ [eV w,.one (.bool true)]))
  (end':k=2→r= .aJ [.one .nil,.one (.bool false)]):
  Pr Tryz.prog 242 [tV (h+1) t,eV a] r:=by
 have W':=W.le (Nat.le_succ h);have h3:=W.h3;have hp:2^h≤8:=Nat.pow_le_pow_right (n:=2) (by decide) (show h≤3 by omega);have z:=dc (a.drop (2^h)) (by rw[ah ha];omega) (.of (hq.drop _) (by omega));rw[decide_eq_false (by rw[ah ha];exact hv)]at z;have cn:=uU W a ha hX1 hX hq;have lu:=ai ha;have sa:=kx W'.tk (a.take (2^h)) m lu hm (.of (hq.take _) (by omega)) (.of qm (by omega));have sb:=wv W'.tk (a.take (2^h)) m lu hm (.of (hq.take _) (by omega)) (.of qm (by omega));have lx:∀j,j<2→(vp (a.take (2^h)) m j).length=2^h:=fun j hj=>by
  match j,hj with
  |0,_=>exact aq lu hm
  |1,_=>exact aq lu (by rw[ar,hm])
 have hf:∀j,j<2→Pr Tryz.prog 251 [tV h t,eV (vp (a.take (2^h)) m j)] (eV (aj h t (vp (a.take (2^h)) m j) (aX h (mkRat 1 2)))):=fun j hj=>Cv hX1 (by omega) W' (lx j hj) (qx j hj);have hn:(2^h:Nat)≤a.length:=by rw[ha,Nat.pow_succ];omega
 have z:=z.args (xs:=[.one (.rows 4 (a.length-2^h) (fun i=>qC (a.getD (2^h+i) default)))]) ⟨.cell eK,trivial⟩;have sa:=sa.args (xs:=[tV h t,.one (.rows 4 (2^h) (fun i=>qC (a.getD i default))),eV m]) ⟨.refl _,.cell (ff hn),.refl _,trivial⟩;have sb:=sb.args (xs:=[tV h t,.one (.rows 4 (2^h) (fun i=>qC (a.getD i default))),eV m]) ⟨.refl _,.cell (ff hn),.refl _,trivial⟩;obtain⟨n,hnn⟩:∃n,n=2^h:=⟨_,rfl⟩;have ha2:a.length=2*n:=by rw[ha,Nat.pow_succ,hnn];omega
 have w1:IntKind.i64.wrap (((h+1:Nat):Int)-1)=(h:Int):=by rw[IntWalk.i64_in _ (by omega)];omega
 have w2:IntKind.i64.wrap (((a.length:Nat):Int).tdiv 2)=(n:Int):=by
  rw[ha2,Int.tdiv_eq_ediv_of_nonneg (by omega),IntWalk.i64_in _ (by omega)];omega
 have w4:((a.length:Int)-(n:Int)).toNat=a.length-n:=by omega
 obtain⟨u,hu⟩:∃u,u=a.take (2^h):=⟨_,rfl⟩;rw[←hu]at sa sb hf no yes lx qx;rw[←hnn]at z sa sb;refine pw Tryz.func242 ⟨[0,1,4,5,6,7,8,9,10,11,12,13,14,15,16,17,18,19,21,22,23,24,28,61,68,82,108,117,118,119,120,136],[(4,.nil),(5,.nil)]⟩ ?_;simp only[Tryz.f242,Tryz.ntmps242,iz,seval];simp only[vx,T,seval,tV,tC,eV,ag,QV,QC,w1,w2,w4,GC];refine⟨fun h=>absurd h (by omega),fun _=>Lg ?_⟩;simp only[vx,T,seval,tV,tC,eV,ag,QV,QC,w1,w2,w4,GC];refine⟨⟨by omega,by omega⟩,⟨by omega,by omega⟩,⟨by omega,by omega⟩,⟨by omega,by omega,by omega⟩,Cg z ?_⟩;simp only[vx,T,seval,tV,tC,eV,ag,QV,QC,w1,w2,w4,GC];refine Cg cn ?_;simp only[vx,T,seval,tV,tC,eV,ag,QV,QC,w1,w2,w4,GC];refine Cg c ?_;simp only[vx,T,seval,tV,tC,eV,ag,QV,QC,w1,w2,w4,GC];refine Cg sa ?_;simp only[vx,T,seval,tV,tC,eV,ag,QV,QC,w1,w2,w4,GC];refine Cg sb ?_;simp only[vx,T,seval,tV,tC,eV,ag,QV,QC,w1,w2,w4,GC];refine Lk (fun y:{j:Nat//j≤k}=>⟨[(4,.one .nil),(5,.one (.bool false)),(8,tV h t),(11,.one (.rows 4 (a.length-n) (fun i=>qC (a.getD (n+i) default)))),(117,.one (.own 1 1 0 2)),(118,.one (.int .i64 2)),(119,.one (.int .i64 y.1))],[(1,⟨.rows 33 1 2 (fun j _=>ag (vp u m j)),true⟩)],2,154⟩) (fun y=>k-y.1) ⟨0,Nat.zero_le _⟩ ?_ (fun⟨j,hj⟩=>?_)
 ·refine Sa ?_;simp only[ry,seval,rz,tV,tC,eV,ag,GC];refine fun i j hi hj=>?_;obtain rfl:j=0:=by omega
  match i,hi with
  |0,_=>rfl
  |1,_=>rfl
 simp only;have wi:IntKind.i64.wrap ((j:Int)+1)=((j+1:Nat):Int):=by rw[IntWalk.i64_in _ (by omega)];omega
 simp only[vx,T,seval,tV,tC,eV,ag,QV,QC,w1,w2,w4,GC];refine⟨fun g=>Lg ?_,fun g=>Lg ?_⟩
 ·have hfj:=hf j (by omega);have hnoj:=no j;obtain⟨x,hx⟩:∃x,x=vp u m j:=⟨_,rfl⟩;rw[←hx]at hfj hnoj;obtain⟨y,hy⟩:∃y,y=aj h t x (aX h (mkRat 1 2)):=⟨_,rfl⟩;rw[←hy]at hfj hnoj
  by_cases hjk:j<k
  ·obtain⟨l,hl⟩:=hnoj hjk;simp only[vx,T,seval,tV,tC,eV,ag,QV,QC,w1,w2,w4,wi,←hx,GC];refine⟨⟨by omega,by omega⟩,Cg hfj ?_⟩;simp only[vx,T,seval,tV,tC,eV,ag,QV,QC,w1,w2,w4,wi,←hx,GC];refine Cg hl ?_;simp only[vx,T,seval,tV,tC,eV,ag,QV,QC,w1,w2,w4,wi,←hx,GC];refine Lq ⟨j+1,by omega⟩ ?_ (by show k-(j+1)<k-j;omega);refine Sa ?_;simp only[ry,seval,rz,tV,tC,eV,ag,GC]
  obtain rfl:j=k:=by omega
  obtain⟨hr,hw,hw0,qw,iw,hi,qi,cw⟩:=yes (by omega);rw[←hx,←hy]at cw;rw[hr];have zw:=dc w (by omega) (.of qw (by omega));rw[decide_eq_false (by rw[hw];exact hw0)]at zw;have aw:=kx W'.tk w w hw hw (.of qw (by omega)) (.of qw (by omega));have iv:=vW hX1 hX W' (aq hw hw) iw hi;have mw:=Gb W' (ah ha) (Go.Proofs.YtgalhjhdgkoemaaGreat.jr hi) hX1 hX1 (by omega) (hq.drop _) qi;have mw:=mw.args (xs:=[tV h t,.one (.rows 4 (a.length-2^h) (fun i=>qC (a.getD (2^h+i) default))),eV i]) ⟨.refl _,.cell eK,.refl _,trivial⟩;have kw:=Ov w (aj h t (a.drop (2^h)) i) (by rw[hw,ae];omega);rw[←hnn]at mw kw⊢;simp only[vx,T,seval,tV,tC,eV,ag,QV,QC,w1,w2,w4,wi,←hx,GC];refine⟨⟨by omega,by omega⟩,Cg hfj ?_⟩;simp only[vx,T,seval,tV,tC,eV,ag,QV,QC,w1,w2,w4,wi,←hx,GC];refine Cg cw ?_;simp only[vx,T,seval,tV,tC,eV,ag,QV,QC,w1,w2,w4,wi,←hx,GC];refine Cg zw ?_;simp only[vx,T,seval,tV,tC,eV,ag,QV,QC,w1,w2,w4,wi,←hx,GC];refine Cg aw ?_;simp only[vx,T,seval,tV,tC,eV,ag,QV,QC,w1,w2,w4,wi,←hx,GC];refine Cg iv ?_;simp only[vx,T,seval,tV,tC,eV,ag,QV,QC,w1,w2,w4,wi,←hx,GC];refine Cg mw ?_;simp only[vx,T,seval,tV,tC,eV,ag,QV,QC,w1,w2,w4,wi,←hx,GC];refine Cg kw ?_;simp only[vx,T,seval,tV,tC,eV,ag,QV,QC,w1,w2,w4,wi,←hx,GC];exact Ve rfl
 have hk2:k=2:=by omega
 rw[end' hk2];simp only[vx,T,seval,tV,tC,eV,ag,QV,QC,w1,w2,w4,GC];exact Ve rfl
theorem y8 {h:Nat}:Go.Tw.vM h=aX h (mkRat 1 2):=by
 unfold Go.Tw.vM;rw[show (2:Rat)⁻¹=mkRat 1 2 from by decide+kernel]
theorem Ph {f:FuncId}{zs:List V}{w:El}{b:Bool}(c:Pr Tryz.prog f zs (.aJ [eV w,.one (.bool b)])):Pr Tryz.prog f zs (.aJ [.one (GC (w.map qC)),.one (.bool b)]):=
 c.res (jJ.aJ ⟨.cell (xP w),.refl _,trivial⟩)
theorem Pa {f:FuncId}{zs:List V}{w:El}{b:Bool}(c:Pr Tryz.prog f zs (.aJ [.one (GC (w.map qC)),.one (.bool b)])):Pr Tryz.prog f zs (.aJ [eV w,.one (.bool b)]):=
 c.res (jJ.aJ ⟨.cell (It w),.refl _,trivial⟩)
theorem Fu {f:FuncId}{zs:List V}(c:Pr Tryz.prog f zs (.aJ [.one .nil,.one (.bool false)])):Pr Tryz.prog f zs (.aJ [.one (GC []),.one (.bool false)]):=
 c.res (jJ.aJ ⟨.cell (.pJ _ _),.refl _,trivial⟩)
theorem mJ {X:Nat}(hX1:1≤X)(hX:X≤2^26){t:List El}:∀{h:Nat} {a:El},TQ h t→Go.Tw.Rd h t→a.length=2^h→kP X h t a→Kg h t a 242
 |0,a,_,_,ha,hs=>Ke ha (.of hs.qb (by omega))
 |h+1,a,W,D,ha,hs=>by
  have W':=W.le (Nat.le_succ h);have D':=D.le (Nat.le_succ h);have ih:=fun{b:El} (hb:b.length=2^h) (k:kP X h t b)=>mJ hX1 hX (a:=b) W' D' hb k;have hq:=hs.qb;have lz:(zE (2^h)).length=2^h:=au;have eP:2^(h+1)=2^h+2^h:=by rw[Nat.pow_succ];omega
  obtain⟨_,s2,s3⟩:=hs
  by_cases hv:a.drop (2^h)=zE (2^h)
  ·obtain⟨g1,g2,g3⟩:=s2 hv
   rcases ih (ai ha) g1 with⟨w,lw,ew,cw⟩|⟨n1,l,hl,c⟩
   ·obtain⟨k1,k2⟩:=Go.Tw.zU hv lw ew;exact .inl ⟨_,k1,k2,FF hX W ha hq hv lw cw⟩
   obtain⟨i,hi,_,_⟩:=Go.Tw.js D' (D.rl h (by omega)).1 (R.mr (D.rl h (by omega)).2);obtain⟨qi,sq⟩:=g3 i hi
   rcases ih ae sq with⟨w,lw,ew,cw⟩|⟨n2,p,hp,c2⟩
   ·obtain⟨k1,k2⟩:=Go.Tw.AG D.rl ha hv hi lw ew;refine .inl ⟨_,k1,k2,Pa ?_⟩;rw[List.map_append];exact wE hX W ha hq hv (by rw[List.length_map,lw];exact Nat.le_refl _) hX1 c g2 hi qi (Ph cw)
   refine .inr ⟨Go.Tw.AE D ha hv hi n1 n2,_,?_,wE hX W ha hq hv hp hX1 c g2 hi qi c2⟩;rw[X6,List.length_map,lz];omega
  obtain⟨g1,g2⟩:=s3 hv
  rcases ih aF g1 with⟨n,ln,en,cn⟩|⟨n1,l,hl,c⟩
  ·have lm:(aG n).length=2^h:=by rw[ar,ln]
   have em:val h t (aG n)*val h t (aG n)=val h t (aL h t a):=by rw[Go.Tw.val_neg ln,R.neg_mul,R.mul_neg,R.neg_neg,en]
   obtain⟨k1,k2,k3,k4⟩:=g2 n ln en;obtain⟨k1',k2',k3',k4'⟩:=g2 (aG n) lm em;rw[y8]at k3 k4 k3' k4';have qx:∀j,j<2→QB X (vp (a.take (2^h)) n j):=fun j hj=>by
    match j,hj with
    |0,_=>exact k2
    |1,_=>exact k2'
   have fin:∀{m w:El},m.length=2^h→val h t m*val h t m=val h t (aL h t a)→w.length=2^h→val h t w*val h t w=val h t (aj h t (aC (a.take (2^h)) m) (aX h (mkRat 1 2)))→
     w≠zE (2^h)∧∃i,cg h t (aC w w)=some i∧(w++aj h t (a.drop (2^h)) i).length=2^(h+1)∧
      val (h+1) t (w++aj h t (a.drop (2^h)) i)*val (h+1) t (w++aj h t (a.drop (2^h)) i)=val (h+1) t a:=by
    intro m w lm em lw ew;have h0:=Go.Tw.xq D ha hv lm em ew;have h1:val h t (aC w w)≠R.q 0:=by
     rw[Go.Tw.val_add lw lw];exact fun e=>h0 (R.HI e)
    obtain⟨i,hi,li,vi⟩:=Go.Tw.js D' (aq lw lw) h1;refine⟨fun e=>h0 (by rw[e,Go.Tw.val_zero]),i,hi,Go.Tw.wJ D ha hv lm em lw ew ae ?_⟩;rw[Go.Tw.val_add lw lw]at vi;rw[Go.Tw.val_mul D'.rl (ah ha) li,←R.add_mul,R.mul_comm (val h t (a.drop (2^h))),←R.mul_assoc,vi,R.one_mul]
   rcases ih ae k3 with⟨w,lw,ew,cw⟩|⟨n1,l1,_,c1⟩
   ·obtain⟨w0,i,hi,f1,f2⟩:=fin ln en lw ew;obtain⟨m1,_,m3,_,m5⟩:=k4 w lw ew;exact .inl ⟨_,f1,f2,qv hX W ha hq hv hX1 (k:=0) (by omega) cn ln k1 qx (fun j hj=>absurd hj (Nat.not_lt_zero _)) (fun _=>⟨rfl,lw,w0,m1,m3,hi,m5 i hi,cw⟩) (fun e=>absurd e (by decide))⟩
   have no1:∀j,j<1→∃l:List (Nat→C),Pr Tryz.prog 242 [tV h t,eV (aj h t (vp (a.take (2^h)) n j) (aX h (mkRat 1 2)))] (.aJ [.one (GC l),.one (.bool false)]):=fun j hj=>by
    obtain rfl:j=0:=by omega
    exact⟨l1,c1⟩
   rcases ih ae k3' with⟨w,lw,ew,cw⟩|⟨n2,l2,_,c2⟩
   ·obtain⟨w0,i,hi,f1,f2⟩:=fin lm em lw ew;obtain⟨m1,_,m3,_,m5⟩:=k4' w lw ew;exact .inl ⟨_,f1,f2,qv hX W ha hq hv hX1 (k:=1) (by omega) cn ln k1 qx no1 (fun _=>⟨rfl,lw,w0,m1,m3,hi,m5 i hi,cw⟩) (fun e=>absurd e (by decide))⟩
   refine .inr ⟨Go.Tw.wS D ha hv ln en n1 n2,[],Nat.zero_le _,Fu (qv (w:=[]) (i:=[]) hX W ha hq hv hX1 (k:=2) (by omega) cn ln k1 qx (fun j hj=>?_) (fun e=>absurd e (by decide)) (fun _=>rfl))⟩
   match j,hj with
   |0,_=>exact⟨l1,c1⟩
   |1,_=>exact⟨l2,c2⟩
  exact .inr ⟨Go.Tw.vP D ha hv n1,[],Nat.zero_le _,Fu (Fw hX W ha hq hv hX1 c)⟩
end Go.Proofs.YtgalhjhdgkoemaaGreat
/-
  EXTENSIONS OF TOWERS: a further radicand; the images of elements of another tower.
-/
namespace Go.Tw
open Go Go.R
theorem dr {T S:List El}{j:Nat}(h:j<T.length):(T++S).getD j []=T.getD j []:=by
 rw[X7,List.getElem?_append_left h,←X7]
theorem eC {T S:List El}{h:Nat}(hh:h≤T.length)(a:El):val h (T++S) a=val h T a:=val_congr (fun j hj=>dr (by omega)) a
theorem kY {T S:List El}{h:Nat}(hh:h≤T.length)(x:R):In h (T++S) x↔In h T x:=
 ⟨fun⟨a,ha,e⟩=>⟨a,ha,by rw[←e,eC hh]⟩,fun⟨a,ha,e⟩=>⟨a,ha,by rw[eC hh,e]⟩⟩
theorem gg {T:List El}{e:El}:(T++[e]).getD T.length []=e:=by
 rw[X7,List.getElem?_append_right (Nat.le_refl _),Nat.sub_self];rfl
theorem TG.snoc {A:List R}{T:List El}{e:El}(G:TG A T)(he:e.length=2^T.length)(hv:val T.length T e∈A)(hp:R.pos (val T.length T e))(hn:nU T.length T (val T.length T e)):TG A (T++[e]):=by
 have hl:(T++[e]).length=T.length+1:=by simp
 have key:∀i,i<T.length+1→i<T.length∨i=T.length:=fun i hi=>by omega
 refine⟨⟨fun i hi=>?_,fun i hi x hx=>?_⟩,fun j hj=>?_⟩
 ·rcases key i (by omega)with h|rfl
  ·rw[dr h,eC (Nat.le_of_lt h)];exact G.rd.rl i h
  rw[gg,eC (Nat.le_refl _)];exact⟨he,hp⟩
 ·rcases key i (by omega)with h|rfl
  ·rw[dr h,eC (Nat.le_of_lt h)];exact G.rd.ns i h x ((kY (Nat.le_of_lt h) x).1 hx)
  rw[gg,eC (Nat.le_refl _)];exact hn x ((kY (Nat.le_refl _) x).1 hx)
 rcases key j (by omega)with h|rfl
 ·rw[dr h,eC (Nat.le_of_lt h)];exact G.mem j h
 rw[gg,eC (Nat.le_refl _)];exact hv
def dH (h:Nat):El:=zE (2^h)++aX h 1
theorem kK {h:Nat}:(dH h).length=2^(h+1):=by unfold dH;rw[X6,au,aD,Nat.pow_succ];omega
theorem qW {T:List El}{e:El}:val (T.length+1) (T++[e]) (dH T.length)=R.sqrt (val T.length T e):=by
 unfold dH;rw[fW au,val_zero,b9,zero_add,one_mul,gg,eC (Nat.le_refl _)]
def cB (H:Nat)(a:El):El:=a++zE (2^H-a.length)
theorem CE (m n:Nat):zE m++zE n=zE (m+n):=by unfold zE;rw[List.replicate_append_replicate]
theorem bL {H:Nat}{a:El}(h:a.length≤2^H):(cB H a).length=2^H:=by unfold cB;rw[X6,au];omega
theorem vE {H:Nat}{a:El}(h:a.length=2^H):cB H a=a:=by unfold cB;rw[h,Nat.sub_self];exact List.append_nil _
theorem Fh {H:Nat}{a:El}(h:a.length≤2^H):cB (H+1) a=cB H a++zE (2^H):=by
 unfold cB;rw[List.append_assoc,CE,Nat.pow_succ];congr 2;omega
theorem sB {T:List El}{m:Nat}{a:El}(ha:a.length=2^m):∀{H:Nat},m≤H→val H T (cB H a)=val m T a
 |0,h=>by
        obtain rfl:m=0:=by omega
        rw[vE ha]
 |H+1,h=>by
  by_cases e:m=H+1
  ·subst e;rw[vE ha]
  have hl:a.length≤2^H:=by rw[ha];exact Nat.pow_le_pow_right (by decide) (by omega)
  rw[Fh hl,lJ (bL hl),sB ha (by omega)]
theorem QB.pad {B H:Nat}{a:El}(h1:1≤B)(h:QB B a):QB B (cB H a):=h.app (QB.zero.mono h1)
def bc (H:Nat)(T rs:List El):Nat→El→El
 |0,a=>aX H (a.getD 0 0)
 |k+1,a=>aC (bc H T rs k (a.take (2^k))) (aj H T (bc H T rs k (a.drop (2^k))) (cB H (rs.getD k [])))
theorem aY {H:Nat}{T rs:List El}:∀{k:Nat} {a:El},(bc H T rs k a).length=2^H
 |0,_=>aD
 |_+1,_=>aq aY ae
theorem iR:∀{a:El} {n:Nat},a.length=n→aC a (zE n)=a
 |[],n,h=>by subst h;rfl
 |x::a,n,h=>by
  subst h
  show(x+0)::aC a (zE a.length)=x::a
  rw[iR rfl,Rat.add_zero]
theorem xd {H:Nat}{T rs:List El}:∀{k:Nat},bc H T rs k (zE (2^k))=zE (2^H)
 |0=>by
  rw[bc];show aX H 0=_;unfold aX zE
  have:=Nat.two_pow_pos H
  rw[←List.replicate_succ];congr 1;omega
 |k+1=>by rw[bc,pc,ql,xd,bK,iR au]
theorem y7 {H:Nat}{T rs:List El}{k:Nat}{a:El}(hv:a.drop (2^k)=zE (2^k)):bc H T rs (k+1) a=bc H T rs k (a.take (2^k)):=by
 rw[bc,hv,xd,bK,iR aY]
structure Ext (A:List R) (u:List El) (k:Nat) (T rs:List El):Prop where
 tg:TG A T
 len:rs.length=k
 root:∀i,i<k→∃m,m≤T.length∧(rs.getD i []).length=2^m∧val m T (rs.getD i [])=R.sqrt (val i u (u.getD i []))
theorem lB {A:List R}{u T rs:List El}{K:Nat}(E:Ext A u K T rs):∀{k:Nat} {a:El},k≤K→a.length=2^k→val T.length T (bc T.length T rs k a)=val k u a
 |0,a,_,ha=>by
  obtain⟨x,rfl⟩:=bD ha;rw[bc,b9];rfl
 |k+1,a,hk,ha=>by
  obtain⟨m,hm,hl,hv⟩:=E.root k (by omega);have hpl:(cB T.length (rs.getD k [])).length=2^T.length:=bL (by rw[hl];exact Nat.pow_le_pow_right (by decide) hm);rw[bc,val_add aY ae,val_mul E.tg.rd.rl aY hpl,lB E (by omega) (ai ha),lB E (by omega) (ah ha),sB hl hm,hv,val]
theorem Ext.up {A:List R}{u T S rs:List El}{k:Nat}(E:Ext A u k T rs)(G:TG A (T++S)){r:El}{m:Nat}(hm:m≤(T++S).length)(hl:r.length=2^m)(hv:val m (T++S) r=R.sqrt (val k u (u.getD k []))):Ext A u (k+1) (T++S) (rs++[r]):=by
 refine⟨G,by rw[X6,E.len];rfl,fun i hi=>?_⟩
 by_cases h:i<k
 ·obtain⟨m',h1,h2,h3⟩:=E.root i h;have e:(rs++[r]).getD i []=rs.getD i []:=dr (by rw[E.len];exact h);refine⟨m',by rw[X6];omega,by rw[e,h2],by rw[e,eC h1,h3]⟩
 obtain rfl:i=k:=by omega
 have e:(rs++[r]).getD i []=r:=by rw[←E.len];exact gg
 exact⟨m,hm,by rw[e,hl],by rw[e,hv]⟩
theorem In.xU {A:List R}{u T rs:List El}{K:Nat}(E:Ext A u K T rs){k:Nat}(hk:k≤K){x:R}(hx:In k u x):In T.length T x:=by
 obtain⟨a,ha,rfl⟩:=hx;exact⟨bc T.length T rs k a,aY,lB E hk ha⟩
end Go.Tw
/-
  What adjoining a root needs to be short.
-/
namespace Go.Tw
open Go Go.R
theorem kP.sg {X h:Nat}{t:List El}{a:El}(H:kP X h t a):iH X h t a:=by
 cases h with
 |zero=>exact H
 |succ h=>exact H.1
structure FH (X h:Nat) (t:List El) (a:El):Prop where
 sq:kP X h t a
 rt:∀b,b.length=2^h→val h t b*val h t b=val h t a→iH X h t b
theorem BR:∀h,h≤3→bW h (AO h)≤lP∧bW h 0≤lP:=by
 intro h hh
 match h,hh with
 |0,_=>decide+kernel
 |1,_=>decide+kernel
 |2,_=>decide+kernel
 |3,_=>decide+kernel
section
variable {A:List R}
theorem TG.Pq (S:Src 64 A)(hA:A.length≤3){t:List El}(T:TG A t){e:El}(he:e.length=2^t.length)(hv:val t.length t e∈A)(hp:R.pos (val t.length t e)):FH lP t.length t e:=by
 refine⟨T.Qg S hA he hv,fun b hb eb=>?_⟩;obtain⟨z,w,d,E,h1,_⟩:=T.ev S hA;have hs:=R.dU (bG.2 (.inr hp));have hx:Ht t.length z w (val t.length t b) (AO t.length):=by
  rcases R.Dr (eb.trans hs.symm)with k|k
  ·rw[k];exact h1 _ hv (by rw[←k];exact .of hb)
  rw[k]
  have:In t.length t (R.sqrt (val t.length t e)):=by
   have:=(In.of (t:=t) hb).neg
   rwa [k,R.neg_neg]at this
  exact(h1 _ hv this).neg
 exact(iH.of E hb hx).mono (BR _ (T.lS S hA)).1
theorem iD.zero {B n:Nat}:iD B (zE n):=fun c hc=>by
 rw[List.eq_of_mem_replicate hc];exact⟨Nat.zero_le _,Nat.one_le_two_pow⟩
theorem TG.OV (S:Src 64 A)(hA:A.length≤3){t:List El}(T:TG A t)(h2:t.length≤2){e:El}(he:e.length=2^t.length)(hv:val t.length t e=q 0):FH lP t.length t e:=by
 have ez:=mo T.rd he hv;refine⟨by rw[ez];exact T.OT S hA h2 (by rw[au]) .zero,fun b hb eb=>?_⟩;obtain⟨z,w,d,E,_,_⟩:=T.ev S hA;rw[hv]at eb;have hx:Ht t.length z w (val t.length t b) 0:=by
  rw[R.OP eb];exact Ht.rat (by decide) (by decide)
 exact(iH.of E hb hx).mono (BR _ (T.lS S hA)).2
end
end Go.Tw
namespace Go.Proofs.YtgalhjhdgkoemaaGreat
open Go Go.Eng
open Go.Tw (El aC aG zE aj au ar aq ae QB mS ai ah aL aF tB aX aD cg lU kP iH val In FH Rd nU TG lP bn dH cP dA)
structure GQ (X h:Nat) (t:List El):Prop where
 rq:AS X h t
 rd:Rd h t
 sq:∀i,i<h→kP X i t (t.getD i [])
theorem GQ.le {X h k:Nat}{t:List El}(W:GQ X h t)(hk:k≤h):GQ X k t:=⟨W.rq.le hk,W.rd.le hk,fun i hi=>W.sq i (by omega)⟩
theorem DT {A:List R}(S:Go.Tw.Src 64 A)(hA:A.length≤3){t:List El}(G:TG A t){h:Nat}(hh:h≤t.length):GQ lP h t:=by
 have h3:=G.lS S hA;have hs:=fun i (hi:i<t.length)=>G.OR S hA hi;have hb:=fun i (hi:i<t.length)=>G.qb S hA hi;refine GQ.le (h:=t.length) ⟨⟨⟨⟨by omega,fun i hi=>(G.rd.rl i hi).1,fun i hi=>.of (hb i hi) (by decide)⟩,h3,fun i hi=>hb i hi⟩,fun i hi=>(hs i hi).sg,fun i hi=>?_⟩,G.rd,hs⟩ hh;rw[cP (G.rd.rl.le (by omega)) (G.rd.rl i hi).1,R.gQ (G.rd.rl i hi).2];decide
section
variable {X h:Nat}(hX1:1≤X)(hX:X≤2^26){t:List El}{a:El}
include hX1 hX
theorem vj {w:El}(W:GQ X h t)(hw:w.length=2^h)(sw:iH X h t w)(c:Pr Tryz.prog 242 [tV h t,eV a] (.aJ [eV w,.one (.bool true)])):
  Pr Tryz.prog 231 [tV h t,eV a] (.aJ [eV (if bn h t w<0 then aG w else w),.one (.bool true)]):=by
 have s:=qS hX1 hX W.rq hw sw;have n:=EZ W.rq.tq.tk w hw (.of sw.qb (by omega));refine pw Tryz.func231 ⟨[0,1,4,5,6,7,15,19],[]⟩ ?_;simp only[Tryz.f231,Tryz.ntmps231,iz,seval];simp only[vx,T,seval,tV,tC,eV,ag];refine Cg c ?_;simp only[vx,T,seval,tV,tC,eV,ag];refine Cg s ?_;simp only[vx,T,seval,tV,tC,eV,ag];refine⟨fun g=>Lg ?_,fun g=>Lg ?_⟩
 ·rw[if_pos g];simp only[vx,T,seval,tV,tC,eV,ag];refine Cg n ?_;simp only[vx,T,seval,tV,tC,eV,ag];exact Ve rfl
 rw[if_neg g];simp only[vx,T,seval,tV,tC,eV,ag];exact Ve rfl
omit hX1 hX in
theorem vt {l:List (Nat→C)}(c:Pr Tryz.prog 242 [tV h t,eV a] (.aJ [.one (GC l),.one (.bool false)])):
  Pr Tryz.prog 231 [tV h t,eV a] (.aJ [.one .nil,.one (.bool false)]):=by
 refine pw Tryz.func231 ⟨[0,1,4,5,6,7,15,19],[]⟩ ?_;simp only[Tryz.f231,Tryz.ntmps231,iz,seval];simp only[vx,T,seval,tV,tC,eV,ag];refine Cg c ?_;simp only[vx,T,seval,tV,tC,eV,ag,GC];exact Ve rfl
theorem vh (W:GQ X h t)(ha:a.length=2^h)(hB:FH X h t a):
  (∃w,w.length=2^h∧val h t w=R.sqrt (val h t a)∧Pr Tryz.prog 231 [tV h t,eV a] (.aJ [eV w,.one (.bool true)]))∨
  (nU h t (val h t a)∧Pr Tryz.prog 231 [tV h t,eV a] (.aJ [.one .nil,.one (.bool false)])):=by
 rcases mJ hX1 hX W.rq.tq W.rd ha hB.sq with⟨b,lb,eb,cb⟩|⟨no,l,_,c⟩
 ·refine .inl ⟨_,?_,?_,vj hX1 hX W lb (hB.rt b lb eb) cb⟩
  ·split
   ·rw[ar,lb]
   exact lb
  have e:=cP W.rd.rl lb;have nn:∀x,x=val h t b∨x= -val h t b→R.nn x→x=R.sqrt (val h t a):=by
   intro x hx hn;rw[←eb]
   rcases hx with rfl|rfl
   ·exact(R.pR hn).symm
   rw[show val h t b*val h t b= -val h t b* -val h t b by rw[R.neg_mul,R.mul_neg,R.neg_neg]];exact(R.pR hn).symm
  split
  ·rename_i g
   rw[Go.Tw.val_neg lb];refine nn _ (.inr rfl) ?_
   rcases R.dv (val h t b)with⟨k,k2⟩|⟨k,k2⟩|⟨k,k2⟩
   ·rw[k,R.kj];exact R.bG.2 (.inl rfl)
   ·omega
   exact R.bG.2 (.inr k)
  rename_i g
  refine nn _ (.inl rfl) ?_
  rcases R.dv (val h t b)with⟨k,k2⟩|⟨k,k2⟩|⟨k,k2⟩
  ·rw[k];exact R.bG.2 (.inl rfl)
  ·exact R.bG.2 (.inr k)
  omega
 exact .inr ⟨no,vt c⟩
theorem xR (W:GQ X h t):Pr Tryz.prog 229 [tV h t] (.one (.bool true)):=by
 have h3:=W.rq.tq.h3;have f:∀i,i<h→Pr Tryz.prog 167 [tV i t,eV (t.getD i [])] (.one (.bool true)):=fun i hi=>dC (W.rq.tq.tk.le (by omega)) _ (W.rd.rl i hi).1 (W.rq.tq.tk.q i hi);have s:∀i,i<h→Pr Tryz.prog 230 [tV i t,eV (t.getD i [])] (.one (.int .i64 1)):=fun i hi=>by
  have c:=qS hX1 hX (W.rq.le (show i≤h by omega)) (W.rd.rl i hi).1 (W.sq i hi).sg
  rwa [cP (W.rd.rl.le (by omega)) (W.rd.rl i hi).1,R.gQ (W.rd.rl i hi).2]at c
 have q:∀i,i<h→∃l,Pr Tryz.prog 242 [tV i t,eV (t.getD i [])] (.aJ [.one (GC l),.one (.bool false)]):=fun i hi=>by
  rcases mJ hX1 hX (W.rq.tq.le (show i≤h by omega)) (W.rd.le (by omega)) (W.rd.rl i hi).1 (W.sq i hi)with⟨b,lb,eb,_⟩|⟨_,l,_,c⟩
  ·exact absurd eb (W.rd.ns i hi _ (.of lb))
  exact⟨l,c⟩
 refine pw Tryz.func229 ⟨[0,2,3,4,6,7,8,9,10,27,36],[]⟩ ?_;simp only[Tryz.f229,Tryz.ntmps229,iz,seval];simp only[vx,T,seval,tV,tC,ag];refine Lk (fun y:{i:Nat//i≤h}=>⟨[(0,tV h t),(2,.one (.bool false)),(7,tV h t),(8,.one (.int .i64 h)),(9,.one (.int .i64 y.1))],[],1,38⟩) (fun y=>h-y.1) ⟨0,Nat.zero_le _⟩ ?_ (fun⟨i,hi⟩=>?_)
 ·refine Sa ?_;simp only[ry,seval,rz,tV,tC,ag]
 simp only;have wi:IntKind.i64.wrap ((i:Int)+1)=((i+1:Nat):Int):=by rw[IntWalk.i64_in _ (by omega)];omega
 simp only[vx,T,seval,tV,tC,ag];refine⟨fun k=>Lg ?_,fun k=>Lg ?_⟩
 ·have hlt:i<h:=by omega
  have fi:=f i hlt;have si:=s i hlt;obtain⟨l,qi⟩:=q i hlt;obtain⟨r,hr⟩:∃r,r=t.getD i []:=⟨_,rfl⟩;rw[←hr]at fi si qi;simp only[vx,T,seval,tV,tC,ag,←hr];refine⟨⟨by omega,by omega⟩,⟨by omega,by omega⟩,Cg fi ?_⟩;simp only[vx,T,seval,tV,tC,ag,←hr];refine⟨⟨by omega,by omega⟩,Cg si ?_⟩;simp only[vx,T,seval,tV,tC,ag,←hr];refine⟨⟨by omega,by omega⟩,Cg qi ?_⟩;simp only[vx,T,seval,tV,tC,ag,GC,wi];refine Lq ⟨i+1,by omega⟩ ?_ (by show h-(i+1)<h-i;omega);refine Sa ?_;simp only[ry,seval,rz,tV,tC,ag]
 simp only[vx,T,seval,tV,tC,ag];exact Ve rfl
end
def wT (t:List El)(k:Nat)(i:Nat)(_:Nat):C:=if i<k then ag (t.getD i [])else .nil
theorem Ns {t:List El}{i k j:Nat}{r:El}(hr:r=t.getD i [])(hj:j<1):dE (wT t i) i 0 [ag r] k j=wT t (i+1) k j:=by
 obtain rfl:j=0:=by omega
 unfold dE wT
 by_cases hk:k=i
 ·subst hk;rw[if_pos rfl,if_pos (Nat.le_refl _),if_pos (by simp),if_pos (by omega),hr,Nat.sub_self];rfl
 rw[if_neg hk]
 by_cases h2:k<i
 ·rw[if_pos h2,if_pos (by omega)]
 rw[if_neg h2,if_neg (by omega)]
theorem MO {t:List El}{e:TypeId}{n:Nat}:Y5 [] 0 (Bk.rows e 1 n (wT t n)) (Bk.rows e 1 n (fun i _=>ag (t.getD i []))):=⟨rfl,rfl,fun i j hi _=>by
 rw[wT,if_pos hi]⟩
theorem Bl {h:Nat}(hh:h≤8)(t:List El)(hl:∀i,i<h→(t.getD i []).length<2^38):Fr Tryz.prog 232 [tV h t] (.rows 33 1 h (fun i _=>ag (t.getD i []))):=by
 refine fw Tryz.func232 ⟨[0,2,3,4,5,9,10,11,12],[]⟩ ?_;simp only[Tryz.f232,Tryz.ntmps232,iz,seval];simp only[vx,T,seval,tV,tC,ag];refine⟨by omega,Lk (fun y:{i:Nat//i≤h}=>⟨[(0,tV h t),(3,.one (.own 1 1 0 h)),(9,tV h t),(10,.one (.int .i64 h)),(11,.one (.int .i64 y.1))],[(1,⟨.rows 33 1 h (wT t y.1),true⟩)],2,23⟩) (fun y=>h-y.1) ⟨0,Nat.zero_le _⟩ ?_ (fun⟨i,hi⟩=>?_)⟩
 ·refine Sa ?_;simp only[ry,seval,rz,tV,tC,ag];exact fun i j _ hj=>by
               obtain rfl:j=0:=by omega
               rw[wT,if_neg (Nat.not_lt_zero _)];rfl
 simp only;have wi:IntKind.i64.wrap ((i:Int)+1)=((i+1:Nat):Int):=by rw[IntWalk.i64_in _ (by omega)];omega
 simp only[vx,T,seval,tV,tC,ag];refine⟨fun g=>Lg ?_,fun g=>Lg ?_⟩
 ·have ci:=rN (t.getD i []) (hl i (by omega));obtain⟨r,hr⟩:∃r,r=t.getD i []:=⟨_,rfl⟩;rw[←hr]at ci;simp only[vx,T,seval,tV,tC,ag,←hr];refine⟨by omega,Cg ci ?_⟩;simp only[vx,T,seval,eV,tV,tC,ag,wi];refine⟨by omega,Lq ⟨i+1,by omega⟩ ?_ (by show h-(i+1)<h-i;omega)⟩;refine Sa ?_;simp only[ry,seval,rz,tV,tC,ag];exact fun k j _ hj=>Ns hr hj
 have hil:i=h:=by omega
 subst hil;simp only[vx,T,seval,tV,tC,ag];exact MO
open Go Go.Eng
open Go.Tw (El aC aG zE aj au ar aq ae QB mS ai ah aL aF tB aX aD cg lU kP iH val In FH Rd nU TG lP bn dH cP dA)
theorem AJ (h:Nat)(k j:Nat)(hj:j<4):
  dE (fQ (zE (2^(h+1)))) (2^h) 0 [C.bool (zs (Rat.ofInt 1).num),C.ints .u32 (zm (Rat.ofInt 1).num),C.bool (zs ((Rat.ofInt 1).den:Int)),C.ints .u32 (zm ((Rat.ofInt 1).den:Int))] k j=fQ (dH h) k j:=by
 have hp:0<2^h:=Nat.pow_pos (by decide);have e1:(dH h).getD (2^h) default=Rat.ofInt 1:=by
  unfold dH;rw[X7,List.getElem?_append_right (by rw[au];exact Nat.le_refl _),au,Nat.sub_self];rfl
 unfold dE
 by_cases hk:k=2^h
 ·subst hk;rw[if_pos rfl,if_pos (Nat.zero_le _),if_pos (by simpa using hj),Nat.sub_zero];exact dx _ e1 j
 rw[if_neg hk];unfold fQ
 congr 1
 have e2:∀{n:Nat},(zE n).getD k default=0:=by
  intro n;unfold zE;rw[X7,List.getElem?_replicate]
  split<;>rfl
 rw[e2];unfold dH;rw[X7]
 by_cases hl:k<2^h
 ·rw[List.getElem?_append_left (by rw[au];exact hl),←X7,e2]
 rw[List.getElem?_append_right (by rw[au];omega),au];unfold aX;obtain⟨d,hd⟩:∃d,k-2^h=d+1:=⟨k-2^h-1,by omega⟩;rw[hd,List.getElem?_cons_succ];unfold zE;rw[List.getElem?_replicate]
 split<;>rfl
theorem ES {h:Nat}{U:List El}(tk:Tk (h+1) U):Pr Tryz.prog 233 [tV (h+1) U,.one (.int .i64 h)] (eV (dH h)):=by
 have h8:=tk.le8;have r:=jG tk;have hs:=dJ (h:=h+1) h8;have hs':=dJ (h:=h) (by omega);have hp:=aO h8;have z:=oT (2^(h+1)) hp;have o:=bA 1 (by decide) (by decide);have hlt:2^h<2^(h+1):=Nat.pow_lt_pow_right (by decide) (by omega);have hlen:(zE (2^(h+1))).length=2^(h+1):=au;obtain⟨N,hN⟩:∃N,N=2^(h+1):=⟨_,rfl⟩;obtain⟨M,hM⟩:∃M,M=2^h:=⟨_,rfl⟩;have st:=AJ h;rw[←hN]at hs z hlt hlen hp st;rw[←hM]at hs' hlt st;have hs:IntKind.i64.wrap (1*2^(if h≤63 then h+1 else 64))=(N:Int):=by
  rw[if_pos (by omega)]at hs⊢;exact hs
 refine pw Tryz.func233 ⟨[0,1,4,5,18],[]⟩ ?_;simp only[Tryz.f233,Tryz.ntmps233,iz,seval];simp only[vx,T,seval,tV,tC,ag];refine Cg r ?_;simp only[vx,T,seval,tV,tC,ag];refine⟨fun h=>absurd h (by omega),fun _=>Lg ?_⟩;simp only[vx,T,seval,tV,tC,ag,hs,hs'];refine⟨fun h=>absurd h (by omega),fun _=>Lg ?_⟩;simp only[vx,T,seval,tV,tC,ag,hs,hs'];refine⟨by omega,cY.fresh z ?_⟩;simp only[vx,T,seval,tV,tC,ag,hs,hs'];refine⟨by omega,Cg o ?_⟩;simp only[vx,T,seval,tV,tC,ag,QV,QC,hs,hs',hlen];exact⟨⟨by omega,by omega⟩,jJ.cell (dg.rows (by rw[Go.Tw.kK,hN]) fun i j _ hj=>.of_eq (st i j hj))⟩
open Go Go.Eng
open Go.Tw (El aC aG zE aj au ar aq ae QB mS ai ah aL aF tB aX aD cg lU kP iH val In FH Rd nU TG lP bn dH cP dA)
section
variable {A:List R}(S:Go.Tw.Src 64 A)(hA:A.length≤3){t:List El}{a:El}
include S hA
theorem z8 (G:TG A t)(ha:a.length=2^t.length)(hn:R.nn (val t.length t a))(hB:FH lP t.length t a):
  (∃w,w.length=2^t.length∧val t.length t w=R.sqrt (val t.length t a)∧Pr Tryz.prog 205 [tV t.length t,eV a] (.aJ [tV t.length t,eV w,.one (.int .i64 0)]))∨
  (nU t.length t (val t.length t a)∧Pr Tryz.prog 205 [tV t.length t,eV a] (.aJ [tV (t.length+1) (t++[a]),eV (dH t.length),.one (.int .i64 0)])):=by
 have W:=DT S hA G (Nat.le_refl _);have hX1:1≤lP:=by decide
 have hX:lP≤2^26:=by decide
 have h3:=W.rq.tq.h3;have f:=dC W.rq.tq.tk a ha (.of hB.sq.qb (by omega));have rd:=xR hX1 hX W;have sg:=qS hX1 hX W.rq ha hB.sq.sg;have hs:¬bn t.length t a<0:=by
  rw[cP W.rd.rl ha]
  rcases R.dv (val t.length t a)with⟨k,k2⟩|⟨k,k2⟩|⟨k,k2⟩
  ·omega
  ·omega
  exact absurd k hn
 have cl:=Bl (h:=t.length) (by omega) t (fun i hi=>by rw[(W.rd.rl i hi).1];exact aO (by omega));obtain⟨n,hnn⟩:∃n,n=t.length:=⟨_,rfl⟩
 rcases vh hX1 hX W ha hB with⟨w,lw,ew,cw⟩|⟨no,c⟩
 ·refine .inl ⟨w,lw,ew,?_⟩;rw[←hnn]at f rd sg cl cw hs⊢;have cl:=cl.rows;refine pw Tryz.func205 ⟨[0,1,4,5,6,7,8,9,10,20,31,37],[]⟩ ?_;simp only[Tryz.f205,Tryz.ntmps205,iz,seval];simp only[vx,T,seval,tV,tC,eV,ag];refine Cg f ?_;simp only[vx,T,seval,tV,tC,eV,ag];refine Cg rd ?_;simp only[vx,T,seval,tV,tC,eV,ag];refine Cg sg ?_;simp only[vx,T,seval,tV,tC,eV,ag];refine⟨fun h=>absurd h hs,fun _=>Lg ?_⟩;simp only[vx,T,seval,tV,tC,eV,ag];refine Cg cw ?_;simp only[vx,T,seval,tV,tC,eV,ag];refine Cg cl ?_;simp only[vx,T,seval,tV,tC,eV,ag];exact Ve rfl
 refine .inr ⟨no,?_⟩;have q:=rN a (by rw[ha];exact aO (by omega));have tk:Tk (t.length+1) (t++[a]):=by
  have key:∀i,i<t.length+1→i<t.length∨i=t.length:=fun i hi=>by omega
  refine⟨by omega,fun i hi=>?_,fun i hi=>?_⟩
  ·rcases key i hi with h|rfl
   ·rw[Go.Tw.dr h];exact(W.rd.rl i h).1
   rw[Go.Tw.gg];exact ha
  rcases key i hi with h|rfl
  ·rw[Go.Tw.dr h];exact W.rq.tq.tk.q i h
  rw[Go.Tw.gg];exact .of hB.sq.qb (by omega)
 have ro:=ES tk;obtain⟨u,hu⟩:∃u,u=t++[a]:=⟨_,rfl⟩;have eu:∀i j,i<n+1→j<1→(if i<n then ag (t.getD i [])else[ag a].getD ((i-n)*1+j) .any)=ag (u.getD i []):=fun i j hi hj=>by
  obtain rfl:j=0:=by omega
  rw[hnn,hu]
  by_cases h:i<t.length
  ·rw[if_pos h,Go.Tw.dr h]
  obtain rfl:i=t.length:=by omega
  rw[if_neg h,Go.Tw.gg,Nat.sub_self];rfl
 rw[←hu]at ro⊢;rw[←hnn]at f rd sg cl c ro hs h3⊢;refine pw Tryz.func205 ⟨[0,1,4,5,6,7,8,9,10,20,31,37],[]⟩ ?_;simp only[Tryz.f205,Tryz.ntmps205,iz,seval];simp only[vx,T,seval,tV,tC,eV,ag];refine Cg f ?_;simp only[vx,T,seval,tV,tC,eV,ag];refine Cg rd ?_;simp only[vx,T,seval,tV,tC,eV,ag];refine Cg sg ?_;simp only[vx,T,seval,tV,tC,eV,ag];refine⟨fun h=>absurd h hs,fun _=>Lg ?_⟩;simp only[vx,T,seval,tV,tC,eV,ag];refine Cg c ?_;simp only[vx,T,seval,tV,tC,eV,ag];refine⟨fun h=>absurd h (by omega),fun _=>Lg ?_⟩;simp only[vx,T,seval,tV,tC,eV,ag];refine cY.fresh cl ?_;simp only[vx,T,seval,tV,tC,eV,ag];refine Cg q ?_;simp only[vx,T,seval,tV,tC,eV,ag];refine⟨⟨by omega,by omega⟩,Cg (ro.args ⟨.cell (.rows rfl fun i j hi hj=>.of_eq (eu i j hi hj)),.refl _,trivial⟩) ?_⟩;simp only[vx,T,seval,tV,tC,eV,ag];exact jJ.aJ ⟨.cell (.rows rfl fun i j hi hj=>.of_eq (eu i j hi hj)),.refl _,.refl _,trivial⟩
end
open Go Go.Eng
open Go.Tw (El aC aG zE aj au ar aq ae QB mS ai ah tB aX aD val In Rd TG cB bc)
theorem KS (a:El)(h0:0<a.length)(hl:a.length<2^38):Fr Tryz.prog 204 [eV a] (.rows 57 4 a.length (fQ a)):=by
 refine fw Tryz.func204 ⟨[0,2,4],[]⟩ ?_;simp only[Tryz.f204,Tryz.ntmps204,iz,seval];simp only[vx,T,seval,eV,ag];intro b hb;obtain rfl:=hb h0;refine Lg ?_;simp only[vx,T,seval];exact⟨⟨by omega,by omega⟩,rfl,rfl,fun i j _ _=>if_neg (Nat.not_lt_zero _)⟩
theorem LM {ks:El}{k:Nat}(hk:ks.length=k):∀(i j:Nat),i<k+1→j<4→
  (if i<k then fQ ks i j else[C.bool (zs (Rat.ofInt 0).num),C.ints .u32 (zm (Rat.ofInt 0).num),C.bool (zs ((Rat.ofInt 0).den:Int)),C.ints .u32 (zm ((Rat.ofInt 0).den:Int))].getD ((i-k)*4+j) C.any)=fQ (ks++[0]) i j:=by
 subst hk;intro i j hi hj
 by_cases h:i<ks.length
 ·rw[if_pos h];unfold fQ;rw[X7,X7,List.getElem?_append_left h]
 have:i=ks.length:=by omega
 subst this;rw[if_neg h,Nat.sub_self,Nat.zero_mul,Nat.zero_add];exact dx (Rat.ofInt 0) (by rw[X7,List.getElem?_append_right (Nat.le_refl _),Nat.sub_self];rfl) j
theorem DY (a:El)(k:Nat):a++zE (k+1)=(a++zE k)++[0]:=by
 rw[←Go.Tw.CE,List.append_assoc];rfl
theorem qj {h:Nat}{t:List El}{a:El}(hh:h≤8)(h0:0<a.length)(hl:a.length≤2^h):Pr Tryz.prog 163 [tV h t,eV a] (eV (cB h a)):=by
 have hp:=aO hh;have c:=KS a h0 (by omega);have z:=bA 0 (by decide) (by decide);have hs:=dJ (h:=h) hh;have e:cB h a=a++zE (2^h-a.length):=rfl;rw[e];obtain⟨N,hN⟩:∃N,N=2^h:=⟨_,rfl⟩;rw[←hN]at hs hl hp⊢;refine pw Tryz.func163 ⟨[0,1,4,5,13],[]⟩ ?_;simp only[Tryz.f163,Tryz.ntmps163,iz,seval];simp only[vx,T,seval,tV,tC,eV,ag];refine cY.fresh c ?_;simp only[vx,T,seval,tV,tC,eV,ag];refine Lk (fun y:{k:Nat//a.length+k≤N}=>⟨[(0,tV h t),(4,.one .nil),(5,.one (.own 1 4 0 (a.length+y.1)))],[(1,⟨.rows 57 4 (a.length+y.1) (fQ (a++zE y.1)),true⟩)],2,19⟩) (fun y=>N-(a.length+y.1)) ⟨0,by omega⟩ ?_ (fun⟨k,hk⟩=>?_)
 ·refine Sa ?_;simp only[ry,seval,rz,tV,tC,eV,ag];exact fun i j _ _=>by rw[show a++zE 0=a from List.append_nil a]
 simp only;simp only[vx,T,seval,tV,tC,eV,ag,hs];refine⟨by omega,?_⟩;refine⟨fun g=>Lg ?_,fun g=>Lg ?_⟩
 ·simp only[vx,T,seval,tV,tC,eV,ag,hs];refine Cg z ?_;simp only[vx,T,seval,tV,tC,eV,ag,hs,QV,QC];refine⟨⟨by omega,by omega⟩,Lq ⟨k+1,by omega⟩ ?_ (by show N-(a.length+(k+1))<N-(a.length+k);omega)⟩;refine Sa ?_;simp only[ry,seval,rz,tV,tC,eV,ag,hs];exact⟨by omega,by omega,by rw[DY];exact LM (by rw[X6,au])⟩
 simp only[vx,T,seval,tV,tC,eV,ag,hs];have ek:k=N-a.length:=by omega
 rw[←ek];exact jJ.cell (dg.rows (by rw[X6,au]) fun i j _ _=>.refl _)
end Go.Proofs.YtgalhjhdgkoemaaGreat
namespace Go.Eng
open Go
theorem Iy {w w':World}{ok:Nat→Prop}{l:Loc}{B:Bk}{v:Value}(hf:B.flat)(hnew:∀g o,l.addr=some (g,o)→w.heap.size≤g∧g<w'.heap.size)
  (hl:l.len=B.len) (hrep:aT bz bH (fun g=>ok g∨(w.heap.size≤g∧g<w'.heap.size∧∀o,l.addr≠some (g,o))) w' l B) (hval:fy (fun _=>l) (fun _=>True) (fun _=>False) w' (.own 0 B.wd 0 B.len) v):
  aW bz bH (fun g=>ok g∨(w.heap.size≤g∧g<w'.heap.size)) w' (jL B B.wd 0 B.len) v:=by
 obtain⟨_,hle,cap,hcap,hv⟩:=hval;have hrep':aT bz bH (fun g=>ok g∨(w.heap.size≤g∧g<w'.heap.size)) w' l B:=hrep.gE (Bk.oS hf) fun g hg=>by
  rcases hg with hg|⟨h1,h2,_⟩
  ·exact .inl hg
  exact .inr ⟨h1,h2⟩
 refine aW.bw ?_
 rcases hv with⟨g,o,o',ha,rfl,ho,_⟩|⟨_,rfl,h0,_⟩
 ·exact ou ha hrep' (.inr (hnew g o ha)) hl hle hcap ho
 cases B with
 |var cs=>exact hf.elim
 |ints e k xs=>
  simp only[Bk.len]at h0;simp only[jL,Bk.wd,if_true,Bk.len];exact⟨none,0,by simp[h0],by simp[h0],.inl (by simp[h0])⟩
 |rows e w n f=>
  simp only[Bk.len]at h0;subst h0;simp only[jL,Bk.wd,if_true,Bk.len];exact⟨none,0,rfl,Nat.le_refl _,.inl rfl⟩
theorem fJ.rows {P:Program}{f:FuncId}{args:List V}{e:TypeId}{w n:Nat}{g:Nat→Nat→C}{c:C}(h:fJ P f args (.rows e w n g) c):Pr P f args (.aJ [.one (.rows w n g),.one c]):=by
 obtain⟨hs,hc,hf,h⟩:=h;refine⟨hc,fun ok w vs hok hvs=>Calls.mono (h ok w vs hok hvs) fun e w' he=>?_⟩;obtain⟨v,u,l,rfl,hb,hl,hnew,hrep,hval,hu⟩:=he;have h1:=Iy hf hnew hl hrep hval;simp only[jL,Bk.wd,Bk.len,if_true,Nat.zero_add]at h1;refine⟨_,rfl,hb,_,rfl,h1,?_,trivial⟩
 cases c<;>first|exact hs.elim|exact hu
theorem fJ.args {P:Program}{f:FuncId}{xs ys:List V}{B:Bk}{c:C}(h:fJ P f ys B c)(ha:Az xs ys):fJ P f xs B c:=
 ⟨h.1,h.2.1,h.2.2.1,fun ok w vs hok hvs=>h.2.2.2 ok w vs hok (ha.rep hvs)⟩
end Go.Eng
namespace Go.Proofs.YtgalhjhdgkoemaaGreat
open Go Go.Eng
open Go.Tw (El aC aG zE aj au ar aq ae QB mS ai ah aL aF tB aX aD dH)
theorem AX (q:Rat)(hq:qm q<2^36):Pr Tryz.prog 102 [QV q] (QV (-q)):=by
 have c:=np q.num (by unfold qm at hq;omega);refine pw Tryz.func102 ⟨[0,1,2],[]⟩ ?_;simp only[Tryz.f102,Tryz.ntmps102,iz,seval];simp only[vx,T,seval,QV,QC];refine Cg c ?_;simp only[vx,T,seval,ZV];exact Ve rfl
theorem De {ks:El}{k:Nat}(hk:ks.length=k)(q:Rat):∀(i j:Nat),i<k+1→j<4→
  (if i<k then fQ ks i j else[C.bool (zs q.num),C.ints .u32 (zm q.num),C.bool (zs (q.den:Int)),C.ints .u32 (zm (q.den:Int))].getD ((i-k)*4+j) C.any)=fQ (ks++[q]) i j:=by
 subst hk;intro i j hi hj
 by_cases h:i<ks.length
 ·rw[if_pos h];unfold fQ;rw[X7,X7,List.getElem?_append_left h]
 have:i=ks.length:=by omega
 subst this;rw[if_neg h,Nat.sub_self,Nat.zero_mul,Nat.zero_add];exact dx q (by rw[X7,List.getElem?_append_right (Nat.le_refl _),Nat.sub_self];rfl) j
theorem take_add {a b:El}{i:Nat}(h:i<a.length)(hab:b.length=a.length):(aC a b).take (i+1)=(aC a b).take i++[a.getD i default+b.getD i default]:=by
 rw[eT h,eT (by omega:i<b.length),List.take_add_one];show _++(List.zipWith (· + ·) a b)[i]?.toList=_;rw[List.getElem?_zipWith,X8 h,X8 (by omega:i<b.length)];rfl
theorem F7 {a:El}{i:Nat}(h:i<a.length):(aG a).take (i+1)=(aG a).take i++[-(a.getD i default)]:=by
 rw[eT h,List.take_add_one];show _++(List.map (- ·) a)[i]?.toList=_;rw[List.getElem?_map,X8 h];rfl
theorem tW {h:Nat}{t:List El}(a b:El)(hl:a.length<2^30)(hab:b.length=a.length)(hqa:Qk a)(hqb:Qk b):Fr Tryz.prog 46 [tV h t,eV a,eV b] (.rows 57 4 (aC a b).length (fQ (aC a b))):=by
 have hlen:(aC a b).length=a.length:=by unfold aC;rw[List.length_zipWith];omega
 refine fw Tryz.func46 ⟨[1,2,6,7,8,12],[]⟩ ?_;simp only[Tryz.f46,Tryz.ntmps46,iz,seval];simp only[vx,T,seval,eV,ag];refine Lk (fun y:{i:Nat//i≤a.length}=>⟨[(1,eV a),(2,eV b),(6,.one .nil),(7,.one (.own 1 4 0 y.1)),(8,.one (.int .i64 y.1))],[(1,⟨.rows 57 4 y.1 (fQ ((aC a b).take y.1)),true⟩)],2,28⟩) (fun y=>a.length-y.1) ⟨0,Nat.zero_le _⟩ ?_ (fun⟨i,hi⟩=>?_)
 ·refine Sa ?_;simp only[ry,seval,rz,eV,ag]
 have i1:=wI i (by omega);simp only[vx,T,seval,eV,ag];refine⟨fun h1=>Lg ?_,fun h1=>Lg ?_⟩
 ·have hil:i<a.length:=by omega
  have hxq:=hqa.get i;have hyq:=hqb.get i;have hst:=take_add hil hab;obtain⟨x,hx⟩:∃x,x=a.getD i default:=⟨_,rfl⟩;obtain⟨y,hy⟩:∃y,y=b.getD i default:=⟨_,rfl⟩;rw[←hx]at hxq;rw[←hy]at hyq;rw[←hx,←hy]at hst;simp only[vx,T,seval,eV,ag,←hx,←hy,qC];refine⟨by omega,by omega,Cg (Cd x y hxq hyq) ?_⟩;simp only[vx,T,seval,QV,QC];simp only[i1];refine⟨⟨by omega,by omega⟩,Lq ⟨i+1,by omega⟩ ?_ ?_⟩
  ·refine Sa ?_;simp only[ry,seval,rz,eV,ag];rw[hst];exact De (by rw[X5];omega) (x+y)
  simp only;omega
 have hil:i=a.length:=by omega
 subst hil;have e:(aC a b).take a.length=aC a b:=by rw[←hlen,List.take_length]
 simp only[vx,T,seval,e];exact⟨hlen.symm,rfl,hlen.symm,fun _ _ _ _=>rfl⟩
theorem zx {h:Nat}{t:List El}(a:El)(hl:a.length<2^30)(hqa:Qk a):Fr Tryz.prog 51 [tV h t,eV a] (.rows 57 4 (aG a).length (fQ (aG a))):=by
 have hlen:(aG a).length=a.length:=by unfold Go.Tw.aG;rw[List.length_map]
 refine fw Tryz.func51 ⟨[1,4,5,6,10],[]⟩ ?_;simp only[Tryz.f51,Tryz.ntmps51,iz,seval];simp only[vx,T,seval,eV,ag];refine Lk (fun y:{i:Nat//i≤a.length}=>⟨[(1,eV a),(4,.one .nil),(5,.one (.own 1 4 0 y.1)),(6,.one (.int .i64 y.1))],[(1,⟨.rows 57 4 y.1 (fQ ((aG a).take y.1)),true⟩)],2,22⟩) (fun y=>a.length-y.1) ⟨0,Nat.zero_le _⟩ ?_ (fun⟨i,hi⟩=>?_)
 ·refine Sa ?_;simp only[ry,seval,rz,eV,ag]
 have i1:=wI i (by omega);simp only[vx,T,seval,eV,ag];refine⟨fun h1=>Lg ?_,fun h1=>Lg ?_⟩
 ·have hil:i<a.length:=by omega
  have hxq:=hqa.get i;have hst:=F7 hil;obtain⟨x,hx⟩:∃x,x=a.getD i default:=⟨_,rfl⟩;rw[←hx]at hxq;rw[←hx]at hst;simp only[vx,T,seval,eV,ag,←hx,qC];refine⟨by omega,Cg (AX x (by omega)) ?_⟩;simp only[vx,T,seval,QV,QC];simp only[i1];refine⟨⟨by omega,by omega⟩,Lq ⟨i+1,by omega⟩ ?_ ?_⟩
  ·refine Sa ?_;simp only[ry,seval,rz,eV,ag];rw[hst];exact De (by rw[X5];omega) (-x)
  simp only;omega
 have hil:i=a.length:=by omega
 subst hil;have e:(aG a).take a.length=aG a:=by rw[←hlen,List.take_length]
 simp only[vx,T,seval,e];exact⟨hlen.symm,rfl,hlen.symm,fun _ _ _ _=>rfl⟩
theorem Hx {h:Nat}{t:List El}(a b:El)(hl:a.length<2^30)(hab:b.length=a.length)(hqa:Qk a)(hqb:Qk b):Fr Tryz.prog 150 [tV h t,eV a,eV b] (.rows 57 4 (aC a (aG b)).length (fQ (aC a (aG b)))):=by
 have hqn:Qk (aG b):=fun x hx=>by
  obtain⟨y,hy,rfl⟩:=List.mem_map.1 hx;rw[Go.Tw.oX];exact hqb y hy
 have n:=(zx (h:=h) (t:=t) b (by omega) hqb).rows;have s:=tW (h:=h) (t:=t) a (aG b) hl (by rw[ar];exact hab) hqa hqn;refine fw Tryz.func150 ⟨[0,1,2,6],[]⟩ ?_;simp only[Tryz.f150,Tryz.ntmps150,iz,seval];simp only[vx,T,seval,tV,tC,eV,ag];refine Cg n ?_;simp only[vx,T,seval,tV,tC,eV,ag];refine cY.fresh s ?_;simp only[vx,T,seval,tV,tC,eV,ag];exact⟨rfl,rfl,fun _ _ _ _=>rfl⟩
theorem Bu {x:Rat}:(0:Int)<((zm x.num).length:Nat)↔x≠0:=by
 rw[aN];have h:zn x.num=0↔x.num=0:=dS;have h2:x.num=0↔x=0:=Rat.num_eq_zero
 constructor
 ·intro k e
  have:=h.2 (h2.2 e)
  omega
 intro k
 have:¬zn x.num=0:=fun e=>k (h2.1 (h.1 e))
 omega
theorem DE {a:El}:a=zE a.length↔∀i,i<a.length→a.getD i default=0:=by
 constructor
 ·intro h i hi;rw[h];unfold zE;rw[X7,List.getElem?_replicate]
  split<;>rfl
 intro h;refine List.ext_getElem (by rw[au]) fun i h1 h2=>?_
 have:=h i h1
 rw[eT h1]at this;rw[this];exact(List.eq_of_mem_replicate (List.getElem_mem h2)).symm
theorem jA (a:El)(hl:a.length<2^38):Pr Tryz.prog 96 [eV a] (.one (.bool (decide (a=zE a.length)))):=by
 refine pw Tryz.func96 ⟨[0,2,3,7,17],[]⟩ ?_;simp only[Tryz.f96,Tryz.ntmps96,iz,seval];simp only[vx,T,seval,eV,ag];refine Lk (fun y:{i:Nat//i≤a.length∧∀j,j<i→a.getD j default=0}=>⟨[(0,eV a),(2,.one (.bool false)),(3,.one (.int .i64 y.1))],[],1,18⟩) (fun y=>a.length-y.1) ⟨0,Nat.zero_le _,fun j hj=>absurd hj (Nat.not_lt_zero _)⟩ ?_ (fun⟨i,hi,hz⟩=>?_)
 ·refine Sa ?_;simp only[ry,seval,rz,eV,ag]
 have i1:=wI i (by omega);simp only[vx,T,seval,eV,ag];refine⟨fun h1=>Lg ?_,fun h1=>Lg ?_⟩
 ·have hil:i<a.length:=by omega
  have key:a.getD i default≠0→(decide (a=zE a.length))=false:=fun h=>decide_eq_false fun e=>h (DE.1 e i hil);have hnx:∀x,x=a.getD i default→x=0→∀j,j<i+1→a.getD j default=0:=fun x hx h0 j hj=>by
   by_cases hji:j<i
   ·exact hz j hji
   obtain rfl:j=i:=by omega
   rw[←hx,h0]
  obtain⟨x,hx⟩:∃x,x=a.getD i default:=⟨_,rfl⟩;rw[←hx]at key;simp only[vx,T,seval,eV,ag,←hx,qC];refine⟨by omega,fun g=>Lg ?_,fun g=>Lg ?_⟩
  ·rw[key (Bu.1 g)];simp only[vx,T,seval,eV,ag];exact Ve rfl
  have h0:x=0:=Classical.byContradiction fun h=>g (Bu.2 h);simp only[vx,T,seval,eV,ag,i1];refine Lq ⟨i+1,by omega,hnx x hx h0⟩ ?_ (by show a.length-(i+1)<a.length-i;omega);refine Sa ?_;simp only[ry,seval,rz,eV,ag]
 have hil:i=a.length:=by omega
 subst hil;rw[decide_eq_true (DE.2 hz)];simp only[vx,T,seval,eV,ag];exact Ve rfl
end Go.Proofs.YtgalhjhdgkoemaaGreat
/-
  DIMENSIONS: a reduced tower does not lie in a lower one.
-/
namespace Go.Tw
open Go Go.R
noncomputable def dot:List Rat→List R→R
 |l::ls,x::xs=>q l*x+dot ls xs
 |_,_=>q 0
theorem DK:∀{l m:List Rat} {x y:List R},l.length=x.length→dot (l++m) (x++y)=dot l x+dot m y
 |[],m,[],y,_=>by show dot m y=dot [] []+_;rw[show dot [] []=q 0 from rfl,zero_add]
 |a::l,m,b::x,y,h=>by
  have h:l.length=x.length:=by simpa using h
  show q a*b+dot (l++m) (x++y)=q a*b+dot l x+dot m y;rw[DK h,add_assoc]
theorem C0 (s:R):∀(l:List Rat) (x:List R),dot l (x.map (· *s))=dot l x*s
 |[],[]=>by show q 0=q 0*s;rw[zero_mul]
 |[],_::_=>by show q 0=q 0*s;rw[zero_mul]
 |_::_,[]=>by show q 0=q 0*s;rw[zero_mul]
 |a::l,b::x=>by
  show q a*(b*s)+dot l (x.map (· *s))=(q a*b+dot l x)*s;rw[C0 s l x,add_mul,mul_assoc]
noncomputable def Lp:Nat→List El→List R
 |0,_=>[q 1]
 |h+1,t=>Lp h t++(Lp h t).map (· *R.sqrt (val h t (t.getD h [])))
theorem ni {t:List El}:∀{h:Nat},(Lp h t).length=2^h
 |0=>rfl
 |h+1=>by rw[Lp,X6,List.length_map,ni,Nat.pow_succ];omega
theorem sK {t:List El}:∀{h:Nat} {a:El},a.length=2^h→val h t a=dot a (Lp h t)
 |0,a,ha=>by
  obtain⟨x,rfl⟩:=bD ha;show q x=q x*q 1+q 0;rw[mul_one,add_zero]
 |h+1,a,ha=>by
  have e:a=a.take (2^h)++a.drop (2^h):=(List.take_append_drop _ _).symm;rw[val,Lp]
  conv=>rhs;rw[e]
  rw[DK (by rw[ai ha,ni]),C0,sK (ai ha),sK (ah ha)]
theorem A0 {t:List El}:∀{h:Nat} {x:R},x∈Lp h t→In h t x
 |0,x,hx=>by
  have:x=q 1:=List.mem_singleton.1 hx
  rw[this];exact In.rat 1
 |h+1,x,hx=>by
  rcases List.mem_append.1 hx with hx|hx
  ·exact(A0 hx).up
  obtain⟨y,hy,rfl⟩:=List.mem_map.1 hx
  have:=In.join (t:=t) (In.rat (h:=h) 0) (A0 hy)
  rwa [zero_add]at this
def Sp (ys:List R)(x:R):Prop:=∃c:List Rat,c.length=ys.length∧dot c ys=x
def Pe (a b:List R):Prop:=∀l:List Rat,l.length=a.length→∃m:List Rat,m.length=b.length∧dot m b=dot l a∧((∀x∈m,x=0)→∀x∈l,x=0)
theorem Sp.cons {y x:R}{ys:List R}(h:Sp (y::ys) x):∃c z,Sp ys z∧x=q c*y+z:=by
 obtain⟨c,hc,rfl⟩:=h
 match c,hc with
 |a::c,hc=>exact⟨a,_,⟨c,by simpa using hc,rfl⟩,rfl⟩
theorem yV (k:Rat):∀(c:List Rat) (ys:List R),dot (c.map (k* ·)) ys=q k*dot c ys
 |[],[]=>by show q 0=q k*q 0;rw[mul_zero]
 |[],_::_=>by show q 0=q k*q 0;rw[mul_zero]
 |_::_,[]=>by show q 0=q k*q 0;rw[mul_zero]
 |a::c,y::ys=>by
  show q (k*a)*y+dot (c.map (k* ·)) ys=q k*(q a*y+dot c ys);rw[yV k c ys,mul_add,eE,mul_assoc]
theorem Df:∀(c d:List Rat) (ys:List R),c.length=ys.length→d.length=ys.length→dot (List.zipWith (· + ·) c d) ys=dot c ys+dot d ys
 |[],[],[],_,_=>by show q 0=q 0+q 0;rw[add_zero]
 |[],_::_,[],_,hd=>by cases hd
 |_::_,_,[],hc,_=>by cases hc
 |[],_,_::_,hc,_=>by cases hc
 |_::_,[],_::_,_,hd=>by cases hd
 |a::c,b::d,y::ys,hc,hd=>by
  show q (a+b)*y+dot (List.zipWith (· + ·) c d) ys=q a*y+dot c ys+(q b*y+dot d ys);rw[Df c d ys (by simpa using hc) (by simpa using hd),wh,add_mul,add_assoc,add_assoc]
  congr 1
  rw[←add_assoc,←add_assoc,add_comm (q b*y)]
theorem Sp.add {ys:List R}{x z:R}(h:Sp ys x)(k:Sp ys z):Sp ys (x+z):=by
 obtain⟨c,hc,rfl⟩:=h;obtain⟨d,hd,rfl⟩:=k;exact⟨List.zipWith (· + ·) c d,by rw[List.length_zipWith];omega,Df c d ys hc hd⟩
theorem Sp.smul {ys:List R}{x:R}(k:Rat)(h:Sp ys x):Sp ys (q k*x):=by
 obtain⟨c,hc,rfl⟩:=h;exact⟨c.map (k* ·),by rw[List.length_map,hc],yV k c ys⟩
theorem free {y x z:R}{ys:List R}{c:Rat}(h0:c≠0)(hz:Sp ys z)(hx:x=q c*y+z):∀{r:List R},(∀v∈r,Sp (y::ys) v)→
  ∃r':List R,r'.length=r.length∧(∀v∈r',Sp ys v)∧Pe r' (x::r)∧∀l:List Rat,l.length=r'.length→∃k:Rat,q k*x+dot l r=dot l r'
 |[],_=>by
  have z:q 0*x+q 0=q 0:=by rw[zero_mul,zero_add]
  refine⟨[],rfl,fun v hv=>(by cases hv),fun l hl=>?_,fun l hl=>⟨0,?_⟩⟩
  ·obtain rfl:l=[]:=List.length_eq_zero_iff.1 hl;exact⟨[0],rfl,z,fun _ v hv=>(by cases hv)⟩
  obtain rfl:l=[]:=List.length_eq_zero_iff.1 hl;exact z
 |v::r,hr=>by
  obtain⟨r',h1,h2,_,h4⟩:=free h0 hz hx (r:=r) (fun v hv=>hr v (List.mem_cons_of_mem _ hv));obtain⟨d,u,hu,hv⟩:=(hr v (List.mem_cons_self ..)).cons;have key:q (-(d*c⁻¹))*x+v=q (-(d*c⁻¹))*z+u:=by
   rw[hx,hv,mul_add,add_assoc,←add_assoc (q _*z),add_comm (q _*z),add_assoc (q d*y),←add_assoc (q _*(q c*y)),←mul_assoc,←eE,←add_mul,←wh,
    show-(d*c⁻¹)*c+d=0 by have:=Rat.inv_mul_cancel c h0;grind,zero_mul,zero_add]
  have h5:∀l:List Rat,l.length=((q (-(d*c⁻¹))*x+v)::r').length→∃k:Rat,q k*x+dot l (v::r)=dot l ((q (-(d*c⁻¹))*x+v)::r'):=by
   intro l hl
   match l,hl with
   |a::l,hl=>
    obtain⟨k,hk⟩:=h4 l (by simpa using hl);refine⟨k+a* -(d*c⁻¹),?_⟩;show q (k+a* -(d*c⁻¹))*x+(q a*v+dot l r)=q a*(q (-(d*c⁻¹))*x+v)+dot l r';rw[←hk,wh,eE,add_mul,mul_add,mul_assoc,add_assoc,add_assoc]
    generalize q a*(q (-(d*c⁻¹))*x)=p
    generalize q a*v=w
    generalize q k*x=s
    generalize dot l r=e
    rw[←add_assoc,←add_assoc,add_comm s p,add_assoc p s w,add_comm s w,←add_assoc p w s,add_assoc,add_assoc]
  refine⟨(q (-(d*c⁻¹))*x+v)::r',by simp[h1],fun w hw=>?_,fun l hl=>?_,h5⟩
  ·rcases List.mem_cons.1 hw with rfl|hw
   ·rw[key];exact(hz.smul _).add hu
   exact h2 w hw
  obtain⟨k,hk⟩:=h5 l hl;exact⟨k::l,by simp only[List.length_cons]at hl⊢;omega,hk,fun h w hw=>h w (List.mem_cons_of_mem _ hw)⟩
theorem pivot {y:R}{ys:List R}:∀{r:List R},(∀v∈r,Sp (y::ys) v)→(∀v∈r,Sp ys v)∨∃r':List R,r'.length+1=r.length∧(∀v∈r',Sp ys v)∧Pe r' r
 |[],_=>.inl fun v hv=>(by cases hv)
 |x::r,hr=>by
  obtain⟨c,z,hz,hx⟩:=(hr x (List.mem_cons_self ..)).cons
  by_cases h0:c=0
  ·have hxs:Sp ys x:=by rw[hx,h0,zero_mul,zero_add];exact hz
   rcases pivot (r:=r) (fun v hv=>hr v (List.mem_cons_of_mem _ hv))with h|⟨r',h1,h2,h3⟩
   ·refine .inl fun v hv=>?_
    rcases List.mem_cons.1 hv with rfl|hv
    ·exact hxs
    exact h v hv
   refine .inr ⟨x::r',by simp[h1],fun v hv=>?_,fun l hl=>?_⟩
   ·rcases List.mem_cons.1 hv with rfl|hv
    ·exact hxs
    exact h2 v hv
   match l,hl with
   |a::l,hl=>
    obtain⟨m,hm,he,hm0⟩:=h3 l (by simpa using hl);refine⟨a::m,by simp[hm],?_,fun h w hw=>?_⟩
    ·show q a*x+dot m r=q a*x+dot l r';rw[he]
    rcases List.mem_cons.1 hw with rfl|hw
    ·exact h _ (List.mem_cons_self ..)
    exact hm0 (fun x hx=>h x (List.mem_cons_of_mem _ hx)) w hw
  obtain⟨r',h1,h2,h3,_⟩:=free h0 hz hx (r:=r) (fun v hv=>hr v (List.mem_cons_of_mem _ hv));exact .inr ⟨r',by simp[h1],h2,h3⟩
theorem FV:∀{ys r:List R},(∀v∈r,Sp ys v)→ys.length<r.length→∃l:List Rat,l.length=r.length∧dot l r=q 0∧¬∀x∈l,x=0
 |[],r,hr,h=>by
  match r,h with
  |x::r,_=>
   have hx:x=q 0:=by
    obtain⟨c,hc,e⟩:=hr x (List.mem_cons_self ..);obtain rfl:c=[]:=List.length_eq_zero_iff.1 hc;exact e.symm
   have z:∀r:List R,dot (r.map fun _=>(0:Rat)) r=q 0:=by
    intro r
    induction r with
    |nil=>rfl
    |cons y r ih=>show q 0*y+dot (r.map fun _=>(0:Rat)) r=q 0;rw[ih,zero_mul,zero_add]
   refine⟨1::r.map fun _=>0,by simp,?_,fun h=>absurd (h 1 (List.mem_cons_self ..)) (by decide)⟩;show q 1*x+dot (r.map fun _=>(0:Rat)) r=q 0;rw[z,hx,mul_zero,zero_add]
 |y::ys,r,hr,h=>by
  have go:∀r':List R,(∀v∈r',Sp ys v)→ys.length<r'.length→Pe r' r→∃l:List Rat,l.length=r.length∧dot l r=q 0∧¬∀x∈l,x=0:=by
   intro r' h1 h2 h3;obtain⟨l,hl,e,n⟩:=FV h1 h2;obtain⟨m,hm,e2,n2⟩:=h3 l hl;exact⟨m,hm,e2.trans e,fun h=>n (n2 h)⟩
  rcases pivot hr with k|⟨r',h1,h2,h3⟩
  ·exact go r k (by simp only[List.length_cons]at h;omega) fun l hl=>⟨l,hl,rfl,id⟩
  exact go r' h2 (by simp only[List.length_cons]at h;omega) h3
theorem Gt {m n:Nat}(h:m<n){t u:List El}(D:Rd n t)(hin:∀x,In n t x→In m u x):False:=by
 obtain⟨l,hl,e,n0⟩:=FV (ys:=Lp m u) (r:=Lp n t) (fun v hv=>by
  obtain⟨c,hc,e⟩:=hin v (A0 hv);exact⟨c,by rw[hc,ni],by rw[←e,sK hc]⟩) (by rw[ni,ni];exact Nat.pow_lt_pow_right (by decide) h)
 have hl:l.length=2^n:=by rw[hl,ni]
 rw[←sK hl]at e;rw[mo D hl e]at n0;exact n0 fun x hx=>List.eq_of_mem_replicate hx
end Go.Tw
/-
  How long the coefficients of images are.
-/
namespace Go.Tw
open Go Go.R Go.Eng
theorem QB.bits {B:Nat}{a:El}(h:QB B a):iD (32*B) a:=fun c hc=>by
 have h1:=h c hc;unfold qm at h1;have key:∀n,nl n≤B→n≤2^(32*B):=fun n hn=>by
  have:=b7 n
  have h2:BB^nl n≤BB^B:=Nat.pow_le_pow_right (by decide) hn;have h3:BB^B=2^(32*B):=by rw[show BB=2^32 from rfl,←Nat.pow_mul]
  omega
 exact⟨key _ (by unfold zn at h1;omega),key _ (by omega)⟩
section
variable {A:List R}{u T rs:List El}{K:Nat}
theorem Ext.sP (E:Ext A u K T rs){i:Nat}(hi:i<K):In T.length T (R.sqrt (val i u (u.getD i []))):=by
 obtain⟨m,hm,hl,hv⟩:=E.root i hi;rw[←hv];exact(In.of hl).le hm
theorem Ext.num (E:Ext A u K T rs)(hu:∀i,i<K→val i u (u.getD i [])∈A){j:Nat}(hj:j≤K){b:El}{B:Nat}(hb:b.length=2^j)(hB:iD B b):
  ax A T (bc T.length T rs j b) (val j u b) ((B+1)*2^j) (2^j):=
 ⟨E.tg,aY,lB E hj hb,fun c=>(Sz.expr (c:=c) hb hB (fun i hi=>.gen ⟨⟨_,hu i (by omega),rfl⟩,E.sP (by omega),rfl⟩)).mono (by have:=Bf (B:=B) (c:=c) j;omega)⟩
theorem QB.Gr {B H:Nat}{a:El}(h:QB B (cB H a)):QB B a:=fun c hc=>h c (List.mem_append_left _ hc)
theorem Ext.Aw (E:Ext A u K T rs)(hu:∀i,i<K→val i u (u.getD i [])∈A){i:Nat}(hi:i<K):ax A T (cB T.length (rs.getD i [])) (R.sqrt (val i u (u.getD i []))) 0 1:=by
 obtain⟨m,hm,hl,hv⟩:=E.root i hi;exact⟨E.tg,bL (by rw[hl];exact Nat.pow_le_pow_right (by decide) hm),by rw[sB hl hm,hv],lR.root (hu i hi) (E.sP hi)⟩
theorem sQ {h β μ β' μ':Nat}(h1:β≤β')(h2:μ≤μ'):qN h β μ≤qN h β' μ':=by
 unfold qN;have h3:μ*AO h≤μ'*AO h:=Nat.mul_le_mul_right _ h2;have h4:2^h*(β+μ*AO h+cW)≤2^h*(β'+μ'*AO h+cW):=Nat.mul_le_mul_left _ (by omega);omega
def yX:Nat:=2^24
theorem OA:∀H,H≤3→qN H ((32*tB+1)*2^2) (2^2)≤yX∧qN H 0 1≤yX:=by
 intro h hh
 match h,hh with
 |0,_=>decide+kernel
 |1,_=>decide+kernel
 |2,_=>decide+kernel
 |3,_=>decide+kernel
theorem Ext.qb (S:Src 64 A)(hA:A.length≤3)(E:Ext A u K T rs)(hu:∀i,i<K→val i u (u.getD i [])∈A){j:Nat}(hj:j≤K)(h2:j≤2){b:El}(hb:b.length=2^j)(hB:QB tB b):QB yX (bc T.length T rs j b):=by
 have hp:2^j≤2^2:=Nat.pow_le_pow_right (by decide) h2;exact(((E.num hu hj hb hB.bits).mono (Nat.mul_le_mul_left _ hp) hp).qb S hA).mono (OA _ (E.tg.lS S hA)).1
theorem Ext.LA (S:Src 64 A)(hA:A.length≤3)(E:Ext A u K T rs)(hu:∀i,i<K→val i u (u.getD i [])∈A){i:Nat}(hi:i<K):QB yX (rs.getD i []):=
 QB.Gr (((E.Aw hu hi).qb S hA).mono (OA _ (E.tg.lS S hA)).2)
end
theorem chain {α:Type}{I:Nat→α→Prop}{St:Nat→α→α→Prop}{x0:α}(h0:I 0 x0):∀{n:Nat} (_:∀i x,i<n→I i x→∃y,St i x y∧I (i+1) y),
  ∃s:Nat→α,s 0=x0∧(∀i,i≤n→I i (s i))∧∀i,i<n→St i (s i) (s (i+1))
 |0,_=>⟨fun _=>x0,rfl,fun i hi=>by
                       obtain rfl:i=0:=by omega
                       exact h0,fun i hi=>absurd hi (Nat.not_lt_zero _)⟩
 |n+1,h=>by
  obtain⟨s,e0,h1,h2⟩:=chain h0 (n:=n) (fun i x hi=>h i x (by omega));obtain⟨y,hy,hI⟩:=h n (s n) (by omega) (h1 n (Nat.le_refl n));refine⟨fun j=>if j≤n then s j else y,by simp[e0],fun i hi=>?_,fun i hi=>?_⟩
  ·by_cases k:i≤n
   ·simp only[if_pos k];exact h1 i k
   obtain rfl:i=n+1:=by omega
   simp only[if_neg k];exact hI
  by_cases k:i+1≤n
  ·simp only[if_pos k,if_pos (show i≤n by omega)];exact h2 i (by omega)
  obtain rfl:i=n:=by omega
  simp only[if_neg k,if_pos (Nat.le_refl i)];exact hy
end Go.Tw
/-
  Two numbers over one tower: what the images' coefficients need.
-/
namespace Go.Tw
open Go Go.R Go.Eng
section
variable {A:List R}
theorem In.qo {k:Nat}{t:List El}(D:Rd k t){u:List El}:∀{h:Nat} (_:∀j,j<h→In k t (R.sqrt (val j u (u.getD j [])))) {x:R},In h u x→In k t x
 |0,_,x,hx=>by
  obtain⟨a,ha,rfl⟩:=hx;obtain⟨y,rfl⟩:=bD ha;exact In.rat _
 |h+1,hr,x,hx=>by
  obtain⟨p,g,hp,hg,rfl⟩:=hx.split;exact(In.qo D (fun j hj=>hr j (by omega)) hp).add (In.mul D.rl (In.qo D (fun j hj=>hr j (by omega)) hg) (hr h (by omega)))
theorem Ext.Nf {u U rs:List El}(T:TG A u)(E:Ext A u u.length U rs):u.length≤U.length:=
 Nat.le_of_not_lt fun h=>Gt h T.rd (fun _ hx=>In.xU E (Nat.le_refl _) hx)
theorem TG.O3 (hA:A.length≤3){t U:List El}(T:TG A t)(G:TG A U)(h2:t.length=2)(h3:U.length=3){a:R}(ha:a∈A)(hin:In t.length t (R.sqrt a)):∃j,j<t.length∧val j t (t.getD j [])=a:=by
 obtain⟨σ,hσ,hi⟩:=T.DH;obtain⟨m,hm,rfl⟩:=List.mem_iff_getElem.1 ha;have em:A.getD m (q 0)=A[m]:=by rw[X7,X8 hm];rfl
 have s0:=hσ 0 (by omega);have s1:=hσ 1 (by omega);have b01:=hi 0 1 (by omega) (by omega)
 by_cases k0:σ 0=m
 ·exact⟨0,by omega,by rw[s0.2,k0,em]⟩
 by_cases k1:σ 1=m
 ·exact⟨1,by omega,by rw[s1.2,k1,em]⟩
 exfalso
 have all:∀i,i<A.length→In t.length t (R.sqrt (A.getD i (q 0))):=by
  intro i hi
  have:i=σ 0∨i=σ 1∨i=m:=by omega
  rcases this with e|e|e
  ·rw[e,←s0.2];exact(In.root (h:=0) (t:=t)).le (by omega)
  ·rw[e,←s1.2];exact(In.root (h:=1) (t:=t)).le (by omega)
  rw[e,em];exact hin
 refine Gt (m:=t.length) (n:=U.length) (u:=t) (by omega) G.rd fun x hx=>In.qo T.rd (fun j hj=>?_) hx;obtain⟨i,hi,e⟩:=List.mem_iff_getElem.1 (G.mem j hj)
 have:=all i hi
 rwa [X7,X8 hi,Option.getD_some,e]at this
def qI (h β μ:Nat):Nat:=2^h*(β+μ*2^18+cW)/32+1
theorem ax.P0 (S:Src 64 A)(hA:A.length≤3){t U:List El}{a:El}{x:R}{β μ:Nat}(h:ax A t a x β μ)(G:TG A U)(h2:t.length=2)(h3:U.length=3):QB (qI t.length β μ) a:=by
 obtain⟨z,w,d,E,_,_⟩:=h.tg.ev S hA;have hx:=(h.sz (2^18)).ht E.zt (fun y H ⟨⟨a,ha,e⟩,hi,hc⟩=>by
  rw[e]at hi⊢;obtain⟨j,hj,ej⟩:=h.tg.O3 hA G h2 h3 ha hi;rw[hc,←ej];exact(E.basis hj).mono (by decide))
 exact E.qb h.len (by rw[h.val];exact hx)
def jB (k H β μ:Nat):Nat:=if k=2∧H=3 then qI k β μ else qN k β μ
def jY (k H β μ:Nat):Nat:=qN H ((32*jB k H β μ+1)*2^(k-1)) (2^(k-1))
theorem ax.PT (S:Src 64 A)(hA:A.length≤3){t U:List El}{a:El}{x:R}{β μ:Nat}(h:ax A t a x β μ)(G:TG A U):QB (jB t.length U.length β μ) a:=by
 unfold jB
 split
 ·rename_i k;exact h.P0 S hA G k.1 k.2
 exact h.qb S hA
def jβ:Nat:=2^18
def jμ:Nat:=192
theorem KD {k H β μ:Nat}(h1:β≤jβ)(h2:μ≤jμ):jB k H β μ≤jB k H jβ jμ:=by
 unfold jB
 split
 ·unfold qI;have h3:μ*2^18≤jμ*2^18:=Nat.mul_le_mul_right _ h2;have h4:2^k*(β+μ*2^18+cW)≤2^k*(jβ+jμ*2^18+cW):=Nat.mul_le_mul_left _ (by omega);omega
 exact sQ h1 h2
theorem Oa:∀H,H≤3→∀k,k≤H→jB k H jβ jμ<2^34∧mS H (jY k H jβ jμ+qN H 0 1) tB<2^34∧qN H ((32*jB k H jβ jμ+1)*2^k) (2^k)<2^34:=by decide+kernel
structure PW (B Y H K:Nat) (U rs:List El):Prop where
 hB:B<2^34
 hY:1≤Y
 y:∀j,j<K→∀b,b.length=2^j→QB B b→QB Y (bc H U rs j b)
 r:∀i,i<K→(∃m,m≤H∧(rs.getD i []).length=2^m)∧QB (qN H 0 1) (rs.getD i [])
 s:mS H (Y+qN H 0 1) tB<2^34
theorem kV {h β μ:Nat}:1≤qN h β μ:=by unfold qN;omega
theorem ax.Pv (S:Src 64 A)(hA:A.length≤3){t U rs:List El}{a:El}{x:R}{β μ:Nat}(h:ax A t a x β μ)(h1:β≤jβ)(h2:μ≤jμ)(E:Ext A t t.length U rs):
  QB (jB t.length U.length jβ jμ) a∧PW (jB t.length U.length jβ jμ) (jY t.length U.length jβ jμ) U.length t.length U rs:=by
 have h3:=E.tg.lS S hA;have hk:=E.Nf h.tg;obtain⟨n1,n2,_⟩:=Oa _ h3 _ hk;refine⟨(h.PT S hA E.tg).mono (KD h1 h2),n1,kV,fun j hj b hb hq=>?_,fun i hi=>?_,n2⟩
 ·have hp:2^j≤2^(t.length-1):=Nat.pow_le_pow_right (by decide) (by omega);exact((E.num (fun i hi=>h.tg.mem i hi) (by omega) hb hq.bits).mono (Nat.mul_le_mul_left _ hp) hp).qb S hA
 obtain⟨m,k1,k2,_⟩:=E.root i hi;exact⟨⟨m,k1,k2⟩,QB.Gr ((E.Aw (fun i hi=>h.tg.mem i hi) hi).qb S hA)⟩
end
end Go.Tw
/-
  Dropping a radicand that does not occur.
-/
namespace Go.Tw
open Go Go.R Go.Eng
def wo (i:Nat)(a:El):Nat→El
 |0=>[]
 |k+1=>if k/2^i%2=0 then wo i a k++[a.getD k 0]else wo i a k
def Oc (i:Nat)(a:El):Prop:=∃k,k<a.length∧k/2^i%2=1∧a.getD k 0≠0
theorem uK {a b:El}{k:Nat}(h:k<a.length):(a++b).getD k 0=a.getD k 0:=by
 rw[X7,List.getElem?_append_left h,←X7]
theorem oZ {a b:El}{k:Nat}:(a++b).getD (a.length+k) 0=b.getD k 0:=by
 rw[X7,List.getElem?_append_right (by omega),←X7,Nat.add_sub_cancel_left]
theorem BU {i:Nat}{a:El}:∀{n:Nat},n≤a.length→∀c∈wo i a n,c∈a
 |0,_,c,h=>by cases h
 |n+1,hn,c,h=>by
  rw[wo]at h
  split at h
  ·rcases List.mem_append.1 h with h|h
   ·exact BU (by omega) c h
   rw[List.mem_singleton.1 h,X7,X8 (by omega)];exact List.getElem_mem _
  exact BU (by omega) c h
theorem IU {i:Nat}{a:El}:∀{n:Nat},(wo i a n).length≤n
 |0=>Nat.le_refl _
 |n+1=>by
  have:=IU (i:=i) (a:=a) (n:=n)
  rw[wo]
  split
  ·rw[X6];show _+1≤_;omega
  omega
theorem DB {i:Nat}{a b:El}:∀{n:Nat},n≤a.length→wo i (a++b) n=wo i a n
 |0,_=>rfl
 |n+1,hn=>by rw[wo,wo,DB (by omega),uK (by omega)]
theorem DR {i h n:Nat}(hi:i<h):(2^h+n)/2^i%2=n/2^i%2:=by
 have e:2^h=2^i*(2*2^(h-i-1)):=by
  rw[←Nat.mul_assoc,Nat.mul_comm (2^i) 2,←Nat.pow_succ',←Nat.pow_add]
  congr 1;omega
 rw[e,Nat.mul_add_div (Nat.two_pow_pos i)];omega
theorem Aa {i h:Nat}{a b:El}(hi:i<h)(ha:a.length=2^h):∀{n:Nat},wo i (a++b) (2^h+n)=wo i a (2^h)++wo i b n
 |0=>by rw[Nat.add_zero,DB (by omega),wo,List.append_nil]
 |n+1=>by
  rw[←Nat.add_assoc,wo,wo,Aa hi ha,DR hi];rw[show (a++b).getD (2^h+n) 0=b.getD n 0 by rw[←ha];exact oZ]
  split
  ·rw[List.append_assoc]
  rfl
theorem Cc {i:Nat}{a:El}:∀{n:Nat},n≤2^i→n≤a.length→wo i a n=a.take n
 |0,_,_=>by rw[wo,List.take_zero]
 |n+1,h1,h2=>by
  rw[wo,Cc (by omega) (by omega),Nat.div_eq_of_lt (by omega),if_pos rfl,List.take_add_one,X7,X8 (by omega)];rfl
theorem Bm {i:Nat}{a:El}:∀{n:Nat},n≤2^i→wo i a (2^i+n)=wo i a (2^i)
 |0,_=>rfl
 |n+1,h=>by
  have e:(2^i+n)/2^i%2=1:=by
   have:=Nat.add_div_left n (Nat.two_pow_pos i)
   rw[this,Nat.div_eq_of_lt (by omega)]
  rw[←Nat.add_assoc,wo,if_neg (by omega),Bm (by omega)]
theorem Oc.left {i:Nat}{a b:El}(h:Oc i a):Oc i (a++b):=by
 obtain⟨k,h1,h2,h3⟩:=h;exact⟨k,by rw[X6];omega,h2,by rw[uK h1];exact h3⟩
theorem Oc.right {i h:Nat}{a b:El}(hi:i<h)(ha:a.length=2^h)(H:Oc i b):Oc i (a++b):=by
 obtain⟨k,h1,h2,h3⟩:=H;exact⟨2^h+k,by rw[X6,ha];omega,by rw[DR hi];exact h2,by rw[←ha,oZ];exact h3⟩
theorem zc {h:Nat}{a b:El}(ha:a.length=2^h)(hb:b.length=2^h)(H:¬Oc h (a++b)):b=zE (2^h):=by
 refine List.ext_getElem (by rw[hb,au]) fun k h1 h2=>?_;have e:(2^h+k)/2^h%2=1:=by
  have:=Nat.add_div_left k (Nat.two_pow_pos h)
  rw[this,Nat.div_eq_of_lt (by omega)]
 have:b.getD k 0=0:=Classical.byContradiction fun h0=>H ⟨2^h+k,by rw[X6];omega,e,by rw[←ha,oZ];exact h0⟩
 rw[X7,X8 h1]at this;rw[show b[k]=0 from this];exact(List.getElem_replicate _).symm
theorem M1 {t t':List El}{i n:Nat}(h1:∀k,k<i→t'.getD k []=t.getD k [])
  (h2:∀k,i≤k→k+1<n→t'.getD k []=wo i (t.getD (k+1) []) (2^(k+1))∧(t.getD (k+1) []).length=2^(k+1)∧¬Oc i (t.getD (k+1) [])):
  ∀(h:Nat),i≤h→h+1≤n→∀a:El,a.length=2^(h+1)→¬Oc i a→(wo i a (2^(h+1))).length=2^h∧val h t' (wo i a (2^(h+1)))=val (h+1) t a:=by
 intro h
 induction h with
 |zero=>
  intro hi _ a ha hn;obtain rfl:i=0:=by omega
  have e:a=a.take (2^0)++a.drop (2^0):=(List.take_append_drop _ a).symm;have z:=zc (ai ha) (ah ha) (e▸hn);have w:wo 0 a (2^(0+1))=a.take (2^0):=by
   rw[Nat.pow_succ,Nat.mul_two,Bm (Nat.le_refl _),Cc (Nat.le_refl _) (by rw[ha];decide)]
  rw[w];refine⟨ai ha,?_⟩;show val 0 t' _=val 0 t (a.take (2^0))+val 0 t (a.drop (2^0))*_;rw[z,val_zero,zero_mul,add_zero];rfl
 |succ h ih=>
  intro hi hn a ha no;have e:a=a.take (2^(h+1))++a.drop (2^(h+1)):=(List.take_append_drop _ a).symm;have p2:2^(h+1+1)=2^(h+1)+2^(h+1):=by rw[Nat.pow_succ,Nat.mul_two]
  by_cases k:i=h+1
  ·subst k;have z:=zc (ai ha) (ah ha) (e▸no);have w:wo (h+1) a (2^(h+1+1))=a.take (2^(h+1)):=by
    rw[p2,Bm (Nat.le_refl _),Cc (Nat.le_refl _) (by rw[ha,p2];omega)]
   rw[w];refine⟨ai ha,?_⟩;rw[val_congr (z:=t) h1,show val (h+1+1) t a=val (h+1) t (a.take (2^(h+1)))+val (h+1) t (a.drop (2^(h+1)))*sqrt (val (h+1) t (t.getD (h+1) []))from rfl,z,val_zero,zero_mul,add_zero]
  have hi':i≤h:=by omega
  have n1:¬Oc i (a.take (2^(h+1))):=fun H=>no (e▸H.left);have n2:¬Oc i (a.drop (2^(h+1))):=fun H=>no (e▸H.right (by omega) (ai ha));have w:wo i a (2^(h+1+1))=wo i (a.take (2^(h+1))) (2^(h+1))++wo i (a.drop (2^(h+1))) (2^(h+1)):=by
   conv=>lhs;rw[e,p2]
   exact Aa (by omega) (ai ha)
  obtain⟨l1,v1⟩:=ih hi' (by omega) _ (ai ha) n1;obtain⟨l2,v2⟩:=ih hi' (by omega) _ (ah ha) n2;obtain⟨r1,r2,r3⟩:=h2 h hi' (by omega);obtain⟨_,v3⟩:=ih hi' (by omega) _ r2 r3;rw[w];refine⟨by rw[X6,l1,l2,←Nat.mul_two,←Nat.pow_succ],?_⟩;rw[fW l1,v1,v2,r1,v3];rfl
def fe (i:Nat)(t:List El):List El:=(List.range (t.length-1)).map fun k=>if k<i then t.getD k []else wo i (t.getD (k+1) []) (2^(k+1))
theorem kJ {i:Nat}{t:List El}:(fe i t).length=t.length-1:=by unfold fe;simp
theorem jl {i k:Nat}{t:List El}(h:k<t.length-1):(fe i t).getD k []=if k<i then t.getD k []else wo i (t.getD (k+1) []) (2^(k+1)):=by
 unfold fe;rw[X7,List.getElem?_map,List.getElem?_range h];rfl
section
variable {A:List R}{t:List El}{i:Nat}
theorem TG.wo (T:TG A t)(hi:i<t.length)(no:∀k,i<k→k<t.length→¬Oc i (t.getD k [])){h:Nat}(h1:i≤h)(h2:h<t.length){a:El}(ha:a.length=2^(h+1))(na:¬Oc i a):
  (Tw.wo i a (2^(h+1))).length=2^h∧val h (fe i t) (Tw.wo i a (2^(h+1)))=val (h+1) t a:=
 M1 (n:=t.length) (fun k hk=>by rw[jl (by omega),if_pos hk]) (fun k hk hn=>⟨by rw[jl (by omega),if_neg (by omega)],(T.rd.rl (k+1) hn).1,no _ (by omega) hn⟩) h h1 h2 a ha na
theorem TG.drop (T:TG A t)(hi:i<t.length)(no:∀k,i<k→k<t.length→¬Oc i (t.getD k [])):TG A (fe i t):=by
 have low:∀k,k<i→(fe i t).getD k []=t.getD k []:=fun k hk=>by rw[jl (by omega),if_pos hk]
 have lowv:∀k,k≤i→∀a,val k (fe i t) a=val k t a:=fun k hk a=>val_congr (fun j hj=>low j (by omega)) a;have high:∀k,i≤k→k<t.length-1→((fe i t).getD k []).length=2^k∧val k (fe i t) ((fe i t).getD k [])=val (k+1) t (t.getD (k+1) []):=fun k hk hn=>by
  rw[jl hn,if_neg (by omega)];exact T.wo hi no hk (by omega) (T.rd.rl (k+1) (by omega)).1 (no _ (by omega) (by omega))
 have root:∀j,j<t.length-1→∀m,m<j→In (if j<i then j else j+1) t (R.sqrt (val m (fe i t) ((fe i t).getD m []))):=fun j hj m hm=>by
  by_cases k:m<i
  ·rw[low m k,lowv m (by omega)]
   exact(In.root (h:=m) (t:=t)).le (by split<;>omega)
  rw[(high m (by omega) (by omega)).2,if_neg (by omega)];exact(In.root (h:=m+1) (t:=t)).le (by omega)
 refine⟨⟨fun k hk=>?_,fun k hk x hx=>?_⟩,fun k hk=>?_⟩
 all_goals rw[kJ]at hk
 ·by_cases g:k<i
  ·rw[low k g,lowv k (by omega)];exact T.rd.rl k (by omega)
  obtain⟨e1,e2⟩:=high k (by omega) hk;exact⟨e1,by rw[e2];exact(T.rd.rl (k+1) (by omega)).2⟩
 ·by_cases g:k<i
  ·rw[low k g,lowv k (by omega)];refine T.rd.ns k (by omega) x ?_;obtain⟨a,ha,e⟩:=hx;exact⟨a,ha,by rw[←e,lowv k (by omega)]⟩
  rw[(high k (by omega) hk).2];refine T.rd.ns (k+1) (by omega) x (In.qo (T.rd.le (by omega)) (fun m hm=>?_) hx)
  have:=root k hk m hm
  rwa [if_neg g]at this
 by_cases g:k<i
 ·rw[low k g,lowv k (by omega)];exact T.mem k (by omega)
 rw[(high k (by omega) hk).2];exact T.mem (k+1) (by omega)
end
structure bY (A:List R) (B:Nat) (t:List El) (a:El) (x:R):Prop where
 tg:TG A t
 len:a.length=2^t.length
 val:val t.length t a=x
 bits:iD B a
 tb:∀j,j<t.length→iD B (t.getD j [])
theorem iD.wo {B i n:Nat}{a:El}(h:iD B a)(hn:n≤a.length):iD B (Tw.wo i a n):=fun c hc=>h c (BU hn c hc)
theorem bY.drop {A:List R}{B:Nat}{t:List El}{a:El}{x:R}(h:bY A B t a x){i:Nat}(hi:i<t.length)(no:∀k,i<k→k<t.length→¬Oc i (t.getD k []))(na:¬Oc i a):
  bY A B (fe i t) (Tw.wo i a a.length) x:=by
 obtain⟨n,hn⟩:∃n,t.length=n+1:=⟨t.length-1,by omega⟩;have hl:=h.len;rw[hn]at hl;have hv:=h.val;rw[hn]at hv;obtain⟨e1,e2⟩:=h.tg.wo hi no (h:=n) (by omega) (by omega) hl na;have hd:(fe i t).length=n:=by rw[kJ];omega
 refine⟨h.tg.drop hi no,by rw[hd,hl];exact e1,by rw[hd,hl,e2,hv],h.bits.wo (Nat.le_refl _),fun j hj=>?_⟩;rw[hd]at hj;rw[jl (by omega)]
 split
 ·exact h.tb j (by omega)
 exact(h.tb (j+1) (by omega)).wo (by rw[(h.tg.rd.rl (j+1) (by omega)).1];exact Nat.le_refl _)
theorem bY.num {A:List R}{B:Nat}{t:List El}{a:El}{x:R}(h:bY A B t a x):ax A t a x ((B+1)*2^t.length) (2^t.length):=by
 rw[←h.val];exact .short h.tg h.len h.bits
theorem bY.sub {A A':List R}{B:Nat}{t:List El}{a:El}{x:R}(hA:∀a,a∈A→a∈A')(h:bY A B t a x):bY A' B t a x:=⟨h.tg.sub hA,h.len,h.val,h.bits,h.tb⟩
end Go.Tw
namespace Go.Proofs.YtgalhjhdgkoemaaGreat
open Go Go.Eng
open Go.Tw (El Oc wo)
theorem sH {k i:Nat}(hi:i≤8):(k:Int).fdiv (2^(if i≤64 then i else 64))=((k/2^i:Nat):Int):=by
 rw[if_pos (by omega),Int.fdiv_eq_ediv_of_nonneg _ (Int.pow_nonneg (by decide)),show ((2:Int)^i)=((2^i:Nat):Int) by rw[Int.natCast_pow];rfl];rfl
theorem Hr {x:Rat}(h:cJ x.num=0):x=0:=Rat.num_eq_zero.1 (vH.1 h)
theorem D5 (m:Nat):(m:Int).tmod 2=((m%2:Nat):Int):=rfl
theorem Ax (a:El)(i:Nat)(hi:i≤8)(hl:a.length<2^38)(ha:Qk a){b:Bool}(hb:b=true↔Oc i a):Pr Tryz.prog 53 [eV a,.one (.int .i64 i)] (.one (.bool b)):=by
 refine pw Tryz.func53 ⟨[0,1,4,5,9,24],[]⟩ ?_;simp only[Tryz.f53,Tryz.ntmps53,iz,seval];simp only[vx,T,seval,eV,ag];refine Lk (fun y:{k:Nat//k≤a.length∧∀j,j<k→j/2^i%2=1→a.getD j default=0}=>⟨[(0,eV a),(1,.one (.int .i64 i)),(4,.one (.bool false)),(5,.one (.int .i64 y.1))],[],1,25⟩) (fun y=>a.length-y.1) ⟨0,Nat.zero_le _,fun j hj=>absurd hj (Nat.not_lt_zero _)⟩ ?_ (fun⟨k,hk,hz⟩=>?_)
 ·refine Sa ?_;simp only[ry,seval,rz,eV,ag]
 have i1:=wI k (by omega);simp only[vx,T,seval,eV,ag,sH hi,D5];refine⟨fun g=>Lg ?_,fun g=>Lg ?_⟩
 ·have hkl:k<a.length:=by omega
  have c:=me (a.getD k default) (by have:=ha.get k;omega);have hit:k/2^i%2=1→a.getD k default≠0→b=true:=fun h1 h2=>hb.2 ⟨k,hkl,h1,h2⟩;have hnx:(k/2^i%2=1→a.getD k default=0)→∀j,j<k+1→j/2^i%2=1→a.getD j default=0:=fun h0 j hj h1=>by
   by_cases hjk:j<k
   ·exact hz j hjk h1
   obtain rfl:j=k:=by omega
   exact h0 h1
  obtain⟨x,hx⟩:∃x,x=a.getD k default:=⟨_,rfl⟩;rw[←hx]at c hit hnx;simp only[vx,T,seval,eV,ag,sH hi,D5];refine⟨by omega,fun g2=>Lg ?_,fun g2=>Lg ?_⟩
  ·simp only[vx,T,seval,eV,ag,←hx,qC];refine⟨by omega,Cg c ?_⟩;simp only[vx,T,seval,eV,ag];refine⟨fun h=>Lg ?_,fun h=>Lg ?_⟩
   ·rw[hit (by omega) (fun e=>h (by rw[e];rfl))];simp only[vx,T,seval,eV,ag];exact Ve rfl
   simp only[vx,T,seval,eV,ag,i1];refine Lq ⟨k+1,by omega,hnx fun _=>Hr (by omega)⟩ ?_ (by show a.length-(k+1)<a.length-k;omega);refine Sa ?_;simp only[ry,seval,rz,eV,ag]
  simp only[vx,T,seval,eV,ag,i1];refine Lq ⟨k+1,by omega,hnx fun e=>absurd e (by omega)⟩ ?_ (by show a.length-(k+1)<a.length-k;omega);refine Sa ?_;simp only[ry,seval,rz,eV,ag]
 have hkl:k=a.length:=by omega
 have e:b=false:=by
  cases b with
  |false=>rfl
  |true=>
   obtain⟨j,h1,h2,h3⟩:=hb.1 rfl;exact absurd (hz j (by omega) h2) h3
 rw[e];simp only[vx,T,seval,eV,ag];exact Ve rfl
theorem Kf {i:Nat}{a:El}{k:Nat}(h:k/2^i%2=0):wo i a (k+1)=wo i a k++[a.getD k default]:=by rw[wo,if_pos h];rfl
theorem LH {i:Nat}{a:El}{k:Nat}(h:k/2^i%2≠0):wo i a (k+1)=wo i a k:=by rw[wo,if_neg h]
theorem vN (a:El)(i:Nat)(hi:i≤8)(hl:a.length<2^38):Fr Tryz.prog 54 [eV a,.one (.int .i64 i)] (.rows 57 4 (wo i a a.length).length (fQ (wo i a a.length))):=by
 refine fw Tryz.func54 ⟨[0,1,4,5,6,10,17],[]⟩ ?_;simp only[Tryz.f54,Tryz.ntmps54,iz,seval];simp only[vx,T,seval,eV,ag];refine Lk (fun y:{k:Nat//k≤a.length}=>⟨[(0,eV a),(1,.one (.int .i64 i)),(4,.one .nil),(5,.one (.own 1 4 0 (wo i a y.1).length)),(6,.one (.int .i64 y.1))],[(1,⟨.rows 57 4 (wo i a y.1).length (fQ (wo i a y.1)),true⟩)],2,26⟩) (fun y=>a.length-y.1) ⟨0,Nat.zero_le _⟩ ?_ (fun⟨k,hk⟩=>?_)
 ·refine Sa ?_;simp only[ry,seval,rz,eV,ag];exact⟨rfl,rfl⟩
 have i1:=wI k (by omega);simp only;have wl:=Go.Tw.IU (i:=i) (a:=a) (n:=k);simp only[vx,T,seval,eV,ag,sH hi,D5];refine⟨fun g=>Lg ?_,fun g=>Lg ?_⟩
 ·have hkl:k<a.length:=by omega
  simp only[vx,T,seval,eV,ag,sH hi,D5];refine⟨by omega,fun g2=>Lg ?_,fun g2=>Lg ?_⟩
  ·have hst:=Kf (a:=a) (show k/2^i%2=0 by omega);have hl2:=congrArg List.length hst;rw[X6]at hl2;obtain⟨x,hx⟩:∃x,x=a.getD k default:=⟨_,rfl⟩;rw[←hx]at hst;simp only[vx,T,seval,eV,ag,←hx,qC];simp only[i1];refine⟨by omega,⟨by omega,by omega⟩,Lq ⟨k+1,by omega⟩ ?_ ?_⟩
   ·refine Sa ?_;simp only[ry,seval,rz,eV,ag];rw[hst];exact⟨by simp,by simp,De rfl x⟩
   simp only;omega
  have hst:=LH (a:=a) (show k/2^i%2≠0 by omega);simp only[vx,T,seval,eV,ag,i1];refine Lq ⟨k+1,by omega⟩ ?_ ?_
  ·refine Sa ?_;simp only[ry,seval,rz,eV,ag,hst]
  simp only;omega
 have hkl:k=a.length:=by omega
 subst hkl;simp only[vx,T,seval,eV,ag];exact⟨rfl,rfl,fun _ _ _ _=>rfl⟩
open Go Go.Eng
open Go.Tw (El aC aG zE aj au ar aq ae QB mS ai ah tB aX aD val In Rd TG cB bL bc aY)
structure FG (B Y Z H K:Nat) (U rs:List El):Prop where
 tq:TQ H U
 hB:B<2^34
 hY:1≤Y
 hZ:1≤Z
 y:∀j,j<K→∀b,b.length=2^j→QB B b→QB Y (bc H U rs j b)
 r:∀i,i<K→(∃m,m≤H∧(rs.getD i []).length=2^m)∧QB Z (rs.getD i [])
 s:mS H (Y+Z) tB<2^34
theorem FG.le {B Y Z H K k:Nat}{U rs:List El}(I:FG B Y Z H K U rs)(hk:k≤K):FG B Y Z H k U rs:=⟨I.tq,I.hB,I.hY,I.hZ,fun j hj=>I.y j (by omega),fun i hi=>I.r i (by omega),I.s⟩
def eM (H:Nat)(U rs:List El):V:=.agg [tC H U,tC rs.length rs]
theorem ND {B Y Z H:Nat}{U rs:List El}{a:El}(I:FG B Y Z H 0 U rs)(ha:a.length=2^0)(hq:QB B a):Pr Tryz.prog 165 [eM H U rs,eV a] (eV (bc H U rs 0 a)):=by
 obtain⟨x,rfl⟩:=Go.Tw.bD ha;have hB:=I.hB;have hx:qm x≤B:=hq x (by simp);have f:=dW I.tq.tk x (by omega);have e:bc H U rs 0 [x]=aX H x:=rfl;rw[e];refine pw Tryz.func165 ⟨[0,1,2,4,5,6,7,8,11,26,37],[]⟩ ?_;simp only[Tryz.f165,Tryz.ntmps165,iz,seval];simp only[vx,T,seval,eM,tV,tC,eV,ag,qC,X0];refine Cg f ?_;simp only[vx,T,seval,eM,tV,tC,eV,ag];exact Ve rfl
theorem oO {B Y Z H:Nat}{U rs:List El}:∀{k:Nat} {a:El},FG B Y Z H k U rs→k≤rs.length→k≤8→a.length=2^k→QB B a→Pr Tryz.prog 165 [eM H U rs,eV a] (eV (bc H U rs k a))
 |0,a,I,_,_,ha,hq=>ND I ha hq
 |k+1,a,I,hkr,hk8,ha,hq=>by
  have I':=I.le (Nat.le_succ k);have la1:=ai ha;have la2:=ah ha;have c1:=oO I' (by omega) (by omega) la1 (hq.take _);have c2:=oO I' (by omega) (by omega) la2 (hq.drop _);have hB:=I.hB;have h3:=I.tq.h3;have hp:=aO (h:=k+1) hk8;have hlt:2^k<2^(k+1):=Nat.pow_lt_pow_right (by decide) (by omega);have z:=dc (a.drop (2^k)) (by omega) (.of (hq.drop _) hB);have hn:(2^k:Nat)≤a.length:=by omega
  have cT:=ff hn;have cD:=eK (a:=a) (n:=2^k);have c1:=c1.args (xs:=[eM H U rs,.one (.rows 4 (2^k) (fun i=>qC (a.getD i default)))]) ⟨.refl _,.cell cT,trivial⟩;have c2:=c2.args (xs:=[eM H U rs,.one (.rows 4 (a.length-2^k) (fun i=>qC (a.getD (2^k+i) default)))]) ⟨.refl _,.cell cD,trivial⟩;have z:=z.args (xs:=[.one (.rows 4 (a.length-2^k) (fun i=>qC (a.getD (2^k+i) default)))]) ⟨.cell cD,trivial⟩;have hg:∀i,i≤k→(IntKind.i64.wrap (1*2^(if i≤63 then i+1 else 64))<((a.length:Nat):Int)↔i<k):=fun i hi=>by
   have hs:=dJ (h:=i+1) (by omega);rw[if_pos (by omega)]at hs⊢;rw[hs,ha]
   constructor
   ·intro h;refine Nat.lt_of_not_le fun h2=>?_
    have:=Nat.pow_le_pow_right (n:=2) (by decide) (show k+1≤i+1 by omega)
    omega
   intro h
   have:=Nat.pow_lt_pow_right (a:=2) (by decide) (show i+1<k+1 by omega)
   omega
  obtain⟨n,hnn⟩:∃n,n=2^k:=⟨_,rfl⟩;have ha2:a.length=2*n:=by rw[ha,Nat.pow_succ,hnn];omega
  have w2:IntKind.i64.wrap (((a.length:Nat):Int).tdiv 2)=(n:Int):=by
   rw[ha2,Int.tdiv_eq_ediv_of_nonneg (by omega),IntWalk.i64_in _ (by omega)];omega
  have w4:((a.length:Int)-(n:Int)).toNat=a.length-n:=by omega
  have hne:¬((a.length:Nat):Int)=1:=by
   have:=Nat.two_pow_pos k
   omega
  have st:∀(hv:¬a.drop (2^k)=zE (2^k)),True:=fun _=>trivial;refine pw Tryz.func165 ⟨[0,1,2,4,5,6,7,8,11,26,37],[]⟩ ?_;simp only[Tryz.f165,Tryz.ntmps165,iz,seval];simp only[vx,T,seval,eM,tV,tC,eV,ag,w2,w4];refine⟨fun h=>absurd h hne,fun _=>Lg ?_⟩;simp only[vx,T,seval,eM,tV,tC,eV,ag,w2,w4];refine Lk (fun y:{i:Nat//i≤k}=>⟨[(1,eV a),(2,.one (.ptr 1 0)),(4,.one .nil),(5,.one (.int .i64 n)),(6,.one (.int .i64 y.1))],[(1,⟨.var [tC H U,tC rs.length rs],true⟩)],2,60⟩) (fun y=>k-y.1) ⟨0,Nat.zero_le _⟩ ?_ (fun⟨i,hi⟩=>?_)
  ·refine Sa ?_;simp only[ry,seval,rz,tV,tC,eV,ag]
  simp only;have hgi:=hg i hi;have wi:IntKind.i64.wrap ((i:Int)+1)=((i+1:Nat):Int):=by rw[IntWalk.i64_in _ (by omega)];omega
  simp only[vx,T,seval,tV,tC,eV,ag,wi];refine⟨by omega,?_⟩;refine⟨fun g=>Lg ?_,fun g=>Lg ?_⟩
  ·have hik:=hgi.1 g;simp only[vx,T,seval,tV,tC,eV,ag,wi];refine Lq ⟨i+1,by omega⟩ ?_ (by show k-(i+1)<k-i;omega);refine Sa ?_;simp only[ry,seval,rz,tV,tC,eV,ag]
  have hik:i=k:=by
   have:¬i<k:=fun h=>g (hgi.2 h)
   omega
  subst hik;obtain⟨⟨m,hm,lr⟩,qr⟩:=I.r i (by omega);have q2:=I.y i (by omega) _ la2 (hq.drop _);have hlm:(rs.getD i []).length≤2^H:=by rw[lr];exact Nat.pow_le_pow_right (by decide) hm
  have pd:=qj (t:=U) (a:=rs.getD i []) (by omega) (by rw[lr];exact Nat.two_pow_pos _) hlm;have mu:=gD fT I.tq.tk I.tq.q I.hY I.hZ (bc H U rs i (a.drop (2^i))) (cB H (rs.getD i [])) aY (bL hlm) q2 (Go.Tw.QB.pad I.hZ qr) I.s;have gm:=QB.mul (h:=H) (t:=U) fT I.tq.q I.hY I.hZ q2 (Go.Tw.QB.pad (H:=H) I.hZ qr);have hge:=Go.Tw.il (h:=H) (S:=Y+Z) (C:=tB);have hs:=I.s;have q1:=I.y i (by omega) _ la1 (hq.take _);have ad:=kx I.tq.tk (bc H U rs i (a.take (2^i))) _ aY ae (.of q1 (by omega)) (.of gm hs);have el:=Go.Tw.y7 (H:=H) (T:=U) (rs:=rs) (k:=i) (a:=a);have er:bc H U rs (i+1) a=aC (bc H U rs i (a.take (2^i))) (aj H U (bc H U rs i (a.drop (2^i))) (cB H (rs.getD i []))):=rfl;rw[←er]at ad;obtain⟨r,hr⟩:∃r,r=bc H U rs (i+1) a:=⟨_,rfl⟩;obtain⟨x,hx⟩:∃x,x=bc H U rs i (a.take (2^i)):=⟨_,rfl⟩;obtain⟨y,hy⟩:∃y,y=bc H U rs i (a.drop (2^i)):=⟨_,rfl⟩;obtain⟨v,hv⟩:∃v,v=rs.getD i []:=⟨_,rfl⟩;obtain⟨p,hpp⟩:∃p,p=cB H v:=⟨_,rfl⟩;rw[←hr,←hx]at el ad;rw[←hx]at c1;rw[←hy]at c2;rw[←hr];rw[←hv]at pd;rw[←hy,←hv,←hpp]at ad mu;rw[←hpp]at pd;have hil:i<rs.length:=by omega
  by_cases hz:a.drop (2^i)=zE (2^i)
  ·rw[decide_eq_true (by rw[la2];exact hz)]at z;rw[el hz];rw[←hnn]at c1 z;simp only[vx,T,seval,tV,tC,eV,ag,wi,w4];refine⟨⟨by omega,by omega⟩,Cg c1 ?_⟩;simp only[vx,T,seval,eM,tV,tC,eV,ag,wi,w4];refine⟨⟨by omega,by omega,by omega⟩,Cg z ?_⟩;simp only[vx,T,seval,eM,tV,tC,eV,ag,wi,w4];exact Ve rfl
  rw[decide_eq_false (by rw[la2];exact hz)]at z;rw[←hnn]at c1 c2 z;simp only[vx,T,seval,tV,tC,eV,ag,wi,w4];refine⟨⟨by omega,by omega⟩,Cg c1 ?_⟩;simp only[vx,T,seval,eM,tV,tC,eV,ag,wi,w4];refine⟨⟨by omega,by omega,by omega⟩,Cg z ?_⟩;simp only[vx,T,seval,eM,tV,tC,eV,ag,wi,w4];refine⟨⟨by omega,by omega,by omega⟩,Cg c2 ?_⟩;simp only[vx,T,seval,eM,tV,tC,eV,ag,wi,w4,←hv];refine⟨⟨by omega,by omega⟩,Cg pd ?_⟩;simp only[vx,T,seval,eM,tV,tC,eV,ag,wi,w4,←hv];refine Cg mu ?_;simp only[vx,T,seval,eM,tV,tC,eV,ag,wi,w4,←hv];refine Cg ad ?_;simp only[vx,T,seval,eM,tV,tC,eV,ag,wi,w4,←hv];exact Ve rfl
open Go Go.Eng
open Go.Tw (El aC aG zE aj au ar aq ae QB mS ai ah tB aX aD val In Rd TG cB bL bc aY)
def oM (H:Nat)(U:List El)(n:Nat):V:=.agg [tC H U,.own 0 1 0 n]
def rB (n:Nat)(rs:List El):Bk:=.rows 33 1 n (fun j _=>ag (rs.getD j []))
theorem Dp {P:Program}{fn:FuncId}{x:V}{w n n':Nat}{f g:Nat→Nat→C}{B:Bk}{R:V→Bk→Prop}(h:Mc P fn [x,.one (.rows w n' g)] B R)(hc:dg (.rows w n f) (.rows w n' g)):Mc P fn [x,.one (.rows w n f)] B R:=
 ⟨h.1,fun ok W vs l h1 h2 h3 h4 hvs=>h.2 ok W vs l h1 h2 h3 h4 (by
  generalize vs.toList=ls at hvs⊢
  match ls,hvs with
  |[_,v2],⟨a,b,_⟩=>exact⟨a,hc ok W v2 b,trivial⟩)⟩
def Mh (rs:List El)(n:Nat)(x:V)(r:V)(B:Bk):Prop:=r=x∧B=rB n rs
theorem Ji {B Y Z H:Nat}{U rs:List El}{n:Nat}{a:El}(I:FG B Y Z H 0 U rs)(ha:a.length=2^0)(hq:QB B a):Mc Tryz.prog 165 [oM H U n,eV a] (rB n rs) (Mh rs n (eV (bc H U rs 0 a))):=by
 obtain⟨x,rfl⟩:=Go.Tw.bD ha;have hB:=I.hB;have hx:qm x≤B:=hq x (by simp);have f:=dW I.tq.tk x (by omega);have e:bc H U rs 0 [x]=aX H x:=rfl;rw[e];refine mw Tryz.func165 ⟨[0,1,2,4,5,6,7,8,11,26,37],[(6,(.cons 4 [] (.cons 5 [] .nil .nil) .nil)),(9,(.cons 6 [0,1,7,8,9,10,11,12,13] (.cons 14 [0,1] (.cons 15 [] (.cons 16 [] .nil .nil) .nil) .nil) .nil))]⟩ ?_;simp only[Tryz.f165,Tryz.ntmps165,iz,seval];simp only[vx,T,seval,oM,rB,tV,tC,eV,ag,qC,X0];refine Cg f ?_;simp only[vx,T,seval,oM,rB,tV,tC,eV,ag];exact⟨rfl,rfl⟩
theorem mn {B Y Z H:Nat}{U rs:List El}{N:Nat}(hN:rs.length=N):∀{k:Nat} {a:El},FG B Y Z H k U rs→k≤rs.length→k≤8→a.length=2^k→QB B a→Mc Tryz.prog 165 [oM H U N,eV a] (rB N rs) (Mh rs N (eV (bc H U rs k a)))
 |0,a,I,_,_,ha,hq=>Ji I ha hq
 |k+1,a,I,hkr,hk8,ha,hq=>by
  have I':=I.le (Nat.le_succ k);have la1:=ai ha;have la2:=ah ha;have c1:=mn hN I' (by omega) (by omega) la1 (hq.take _);have c2:=mn hN I' (by omega) (by omega) la2 (hq.drop _);have hB:=I.hB;have h3:=I.tq.h3;have hp:=aO (h:=k+1) hk8;have hlt:2^k<2^(k+1):=Nat.pow_lt_pow_right (by decide) (by omega);have z:=dc (a.drop (2^k)) (by omega) (.of (hq.drop _) hB);have hn:(2^k:Nat)≤a.length:=by omega
  have cT:=ff hn;have cD:=eK (a:=a) (n:=2^k);have c1:=Dp c1 cT;have c2:=Dp c2 cD;have z:=z.args (xs:=[.one (.rows 4 (a.length-2^k) (fun i=>qC (a.getD (2^k+i) default)))]) ⟨.cell cD,trivial⟩;have hg:∀i,i≤k→(IntKind.i64.wrap (1*2^(if i≤63 then i+1 else 64))<((a.length:Nat):Int)↔i<k):=fun i hi=>by
   have hs:=dJ (h:=i+1) (by omega);rw[if_pos (by omega)]at hs⊢;rw[hs,ha]
   constructor
   ·intro h;refine Nat.lt_of_not_le fun h2=>?_
    have:=Nat.pow_le_pow_right (n:=2) (by decide) (show k+1≤i+1 by omega)
    omega
   intro h
   have:=Nat.pow_lt_pow_right (a:=2) (by decide) (show i+1<k+1 by omega)
   omega
  obtain⟨n,hnn⟩:∃n,n=2^k:=⟨_,rfl⟩;have ha2:a.length=2*n:=by rw[ha,Nat.pow_succ,hnn];omega
  have w2:IntKind.i64.wrap (((a.length:Nat):Int).tdiv 2)=(n:Int):=by
   rw[ha2,Int.tdiv_eq_ediv_of_nonneg (by omega),IntWalk.i64_in _ (by omega)];omega
  have w4:((a.length:Int)-(n:Int)).toNat=a.length-n:=by omega
  have hne:¬((a.length:Nat):Int)=1:=by
   have:=Nat.two_pow_pos k
   omega
  have st:∀(hv:¬a.drop (2^k)=zE (2^k)),True:=fun _=>trivial;refine mw Tryz.func165 ⟨[0,1,2,4,5,6,7,8,11,26,37],[(6,(.cons 4 [] (.cons 5 [] .nil .nil) .nil)),(9,(.cons 6 [0,1,7,8,9,10,11,12,13] (.cons 14 [0,1] (.cons 15 [] (.cons 16 [] .nil .nil) .nil) .nil) .nil))]⟩ ?_;simp only[Tryz.f165,Tryz.ntmps165,iz,seval];simp only[vx,T,seval,oM,rB,tV,tC,eV,ag,w2,w4];refine⟨fun h=>absurd h hne,fun _=>Lg ?_⟩;simp only[vx,T,seval,oM,rB,tV,tC,eV,ag,w2,w4];refine Lk (fun y:{i:Nat//i≤k}=>⟨[(1,eV a),(2,.one (.ptr 1 0)),(4,.one .nil),(5,.one (.int .i64 n)),(6,.one (.int .i64 y.1))],[(0,⟨rB N rs,true⟩),(1,⟨.var [tC H U,.own 0 1 0 N],true⟩)],2,60⟩) (fun y=>k-y.1) ⟨0,Nat.zero_le _⟩ ?_ (fun⟨i,hi⟩=>?_)
  ·refine Sa ?_;simp only[ry,seval,rz,rB,tV,tC,eV,ag]
  simp only;have hgi:=hg i hi;have wi:IntKind.i64.wrap ((i:Int)+1)=((i+1:Nat):Int):=by rw[IntWalk.i64_in _ (by omega)];omega
  simp only[vx,T,seval,rB,tV,tC,eV,ag,wi];refine⟨by omega,?_⟩;refine⟨fun g=>Lg ?_,fun g=>Lg ?_⟩
  ·have hik:=hgi.1 g;simp only[vx,T,seval,rB,tV,tC,eV,ag,wi];refine Lq ⟨i+1,by omega⟩ ?_ (by show k-(i+1)<k-i;omega);refine Sa ?_;simp only[ry,seval,rz,rB,tV,tC,eV,ag]
  have hik:i=k:=by
   have:¬i<k:=fun h=>g (hgi.2 h)
   omega
  subst hik;obtain⟨⟨m,hm,lr⟩,qr⟩:=I.r i (by omega);have q2:=I.y i (by omega) _ la2 (hq.drop _);have hlm:(rs.getD i []).length≤2^H:=by rw[lr];exact Nat.pow_le_pow_right (by decide) hm
  have pd:=qj (t:=U) (a:=rs.getD i []) (by omega) (by rw[lr];exact Nat.two_pow_pos _) hlm;have mu:=gD fT I.tq.tk I.tq.q I.hY I.hZ (bc H U rs i (a.drop (2^i))) (cB H (rs.getD i [])) aY (bL hlm) q2 (Go.Tw.QB.pad I.hZ qr) I.s;have gm:=QB.mul (h:=H) (t:=U) fT I.tq.q I.hY I.hZ q2 (Go.Tw.QB.pad (H:=H) I.hZ qr);have hge:=Go.Tw.il (h:=H) (S:=Y+Z) (C:=tB);have hs:=I.s;have q1:=I.y i (by omega) _ la1 (hq.take _);have ad:=kx I.tq.tk (bc H U rs i (a.take (2^i))) _ aY ae (.of q1 (by omega)) (.of gm hs);have el:=Go.Tw.y7 (H:=H) (T:=U) (rs:=rs) (k:=i) (a:=a);have er:bc H U rs (i+1) a=aC (bc H U rs i (a.take (2^i))) (aj H U (bc H U rs i (a.drop (2^i))) (cB H (rs.getD i []))):=rfl;rw[←er]at ad;obtain⟨r,hr⟩:∃r,r=bc H U rs (i+1) a:=⟨_,rfl⟩;obtain⟨x,hx⟩:∃x,x=bc H U rs i (a.take (2^i)):=⟨_,rfl⟩;obtain⟨y,hy⟩:∃y,y=bc H U rs i (a.drop (2^i)):=⟨_,rfl⟩;obtain⟨v,hv⟩:∃v,v=rs.getD i []:=⟨_,rfl⟩;obtain⟨p,hpp⟩:∃p,p=cB H v:=⟨_,rfl⟩;rw[←hr,←hx]at el ad;rw[←hx]at c1;rw[←hy]at c2;rw[←hr];rw[←hv]at pd;rw[←hy,←hv,←hpp]at ad mu;rw[←hpp]at pd;have hil:i<rs.length:=by omega
  by_cases hz:a.drop (2^i)=zE (2^i)
  ·rw[decide_eq_true (by rw[la2];exact hz)]at z;rw[el hz];rw[←hnn]at c1 z;simp only[vx,T,seval,rB,tV,tC,eV,ag,wi,w4];refine⟨⟨by omega,by omega⟩,Cm 0 (B:=rB N rs) rfl trivial c1 ?_⟩;rintro _ _ ⟨rfl,rfl⟩ _;simp only[vx,T,seval,oM,rB,tV,tC,eV,ag,wi,w4];refine⟨⟨by omega,by omega,by omega⟩,Cg z ?_⟩;simp only[vx,T,seval,oM,rB,tV,tC,eV,ag,wi,w4];exact⟨rfl,rfl⟩
  rw[decide_eq_false (by rw[la2];exact hz)]at z;rw[←hnn]at c1 c2 z;simp only[vx,T,seval,rB,tV,tC,eV,ag,wi,w4];refine⟨⟨by omega,by omega⟩,Cm 0 (B:=rB N rs) rfl trivial c1 ?_⟩;rintro _ _ ⟨rfl,rfl⟩ _;simp only[vx,T,seval,oM,rB,tV,tC,eV,ag,wi,w4];refine⟨⟨by omega,by omega,by omega⟩,Cg z ?_⟩;simp only[vx,T,seval,oM,rB,tV,tC,eV,ag,wi,w4];refine⟨⟨by omega,by omega,by omega⟩,⟨by omega,by omega⟩,Cm 0 (B:=rB N rs) rfl trivial c2 ?_⟩;rintro _ _ ⟨rfl,rfl⟩ _;simp only[vx,T,seval,oM,rB,tV,tC,eV,ag,wi,w4,←hv];refine⟨⟨by omega,by omega⟩,Cg pd ?_⟩;simp only[vx,T,seval,oM,rB,tV,tC,eV,ag,wi,w4,←hv];refine Cg mu ?_;simp only[vx,T,seval,oM,rB,tV,tC,eV,ag,wi,w4,←hv];refine Cg ad ?_;simp only[vx,T,seval,oM,rB,tV,tC,eV,ag,wi,w4,←hv];exact⟨rfl,rfl⟩
open Go Go.Eng
open Go.Tw (El aC aG zE aj au QB mS tB val In Rd nU TG cB bL bc aY Ext lP yX)
theorem jT (rn:List (Nat×Option Nat)){e e':List (Nat×V)}{o o':List (Nat×gI)}{x x' n:Nat}(h:(vk rn 0=some 0∧0<x')∧Y0 rn x' e e'∧Y4 rn x' o o'∧Y6 rn o'):Sub ⟨e,o,x,n⟩ ⟨e',o',x',n⟩:=
 Sub.of rn h.1 rfl h.2.1 h.2.2.1 h.2.2.2
def Lb (A:List R)(t u:List El)(i:Nat)(x:List El×List El):Prop:=(∃s,x.1=t++s)∧Ext A u i x.1 x.2∧((∀j,j<i→In t.length t (R.sqrt (val j u (u.getD j []))))→x.1=t)
def Pl (f g:FuncId)(u:List El)(i:Nat)(x y:List El×List El):Prop:=
 ∃e w,Mc Tryz.prog f [oM x.1.length x.1 i,eV (u.getD i [])] (rB i x.2) (Mh x.2 i (eV e))∧Pr Tryz.prog g [tV x.1.length x.1,eV e] (.aJ [tV y.1.length y.1,eV w,.one (.int .i64 0)])∧y.2=x.2++[w]
section
variable {A:List R}(S:Go.Tw.Src 64 A)(hA:A.length≤3){t u:List El}
include S hA
theorem pD (G:TG A t):TQ t.length t:=(DT S hA G (Nat.le_refl _)).rq.tq
theorem GK (G:TG A u){k:Nat}{U rs:List El}(E:Ext A u k U rs)(hk:k≤u.length):FG tB yX yX U.length k U rs:=by
 have h3:=G.lS S hA;have hu:∀i,i<k→val i u (u.getD i [])∈A:=fun i hi=>G.mem i (by omega);refine⟨pD S hA E.tg,by decide,by decide,by decide,fun j hj b hb hq=>E.qb S hA hu (by omega) (by omega) hb hq,fun i hi=>?_,kX (E.tg.lS S hA) (by decide)⟩;obtain⟨m,h1,h2,_⟩:=E.root i hi;exact⟨⟨m,h1,h2⟩,E.LA S hA hu hi⟩
theorem H9 (G:TG A t)(Gu:TG A u):∃s:Nat→List El×List El,s 0=(t,[])∧(∀i,i≤u.length→Lb A t u i (s i))∧
  ∀i,i<u.length→Pl 165 205 u i (s i) (s (i+1)):=by
 have h3:=Gu.lS S hA;refine Go.Tw.chain (I:=Lb A t u) ⟨⟨[],(List.append_nil t).symm⟩,⟨G,rfl,fun i hi=>absurd hi (Nat.not_lt_zero _)⟩,fun _=>rfl⟩ fun i x hi hx=>?_;obtain⟨U,rs⟩:=x;obtain⟨⟨s,hs⟩,E,hall⟩:=hx;have hs:U=t++s:=hs;have E:Ext A u i U rs:=E;have lu:=(Gu.rd.rl i hi).1;have ci:=mn E.len (GK S hA Gu E (by omega)) (by rw[E.len];exact Nat.le_refl _) (by omega) lu (Gu.qb S hA hi);have le:(bc U.length U rs i (u.getD i [])).length=2^U.length:=aY;have ve:=Go.Tw.lB E (Nat.le_refl _) lu;have hm:val U.length U (bc U.length U rs i (u.getD i []))∈A:=by rw[ve];exact Gu.mem i hi
 have hp:R.pos (val U.length U (bc U.length U rs i (u.getD i []))):=by rw[ve];exact(Gu.rd.rl i hi).2
 have rb:=E.tg.Pq S hA le hm hp
 rcases z8 S hA E.tg le (R.bG.2 (.inr hp)) rb with⟨w,lw,vw,cw⟩|⟨no,c⟩
 ·refine⟨(U,rs++[w]),⟨_,w,ci,cw,rfl⟩,⟨s,hs⟩,?_,fun h=>hall fun j hj=>h j (by omega)⟩
  have:=E.up (S:=[]) (r:=w) (m:=U.length) (by rw[List.append_nil];exact E.tg) (by rw[List.append_nil];exact Nat.le_refl _) lw (by rw[List.append_nil,vw,ve])
  rwa [List.append_nil]at this
 have G':=E.tg.snoc le hm hp no;have hl:(U++[bc U.length U rs i (u.getD i [])]).length=U.length+1:=by simp
 refine⟨(U++[bc U.length U rs i (u.getD i [])],rs++[Go.Tw.dH U.length]),⟨_,Go.Tw.dH U.length,ci,?_,rfl⟩,⟨s++[bc U.length U rs i (u.getD i [])],by rw[hs,List.append_assoc]⟩,?_,fun h=>?_⟩
 ·show Pr _ _ _ (.aJ [tV (U++[bc U.length U rs i (u.getD i [])]).length _,_,_]);rw[hl];exact c
 ·exact E.up G' (m:=U.length+1) (by rw[hl];exact Nat.le_refl _) Go.Tw.kK (by rw[Go.Tw.qW,ve])
 have eU:U=t:=hall fun j hj=>h j (by omega);have hin:=h i (by omega);rw[←eU]at hin;refine absurd ?_ (no _ hin);rw[ve];exact R.dU (R.bG.2 (.inr (Gu.rd.rl i hi).2))
theorem rK (G:TG A t)(Gu:TG A u):∃U rs s,U=t++s∧Ext A u u.length U rs∧((∀j,j<u.length→In t.length t (R.sqrt (val j u (u.getD j []))))→U=t)∧Pr Tryz.prog 164 [tV t.length t,tV u.length u] (.aJ [eM U.length U rs,.one (.int .i64 0)]):=by
 obtain⟨s,e0,hI,hS⟩:=H9 S hA G Gu;have h3:=Gu.lS S hA;obtain⟨⟨z,hz⟩,E,hall⟩:=hI u.length (Nat.le_refl _);refine⟨(s u.length).1,(s u.length).2,z,hz,E,hall,?_⟩;have hl:∀i,i≤u.length→(s i).2.length=i:=fun i hi=>(hI i hi).2.1.len;have h3':∀i,i≤u.length→(s i).1.length≤3:=fun i hi=>(hI i hi).2.1.tg.lS S hA;have e1:(s 0).1=t:=by rw[e0]
 rw[←e1];clear e0 e1 hI hz E hall;obtain⟨n,hn⟩:∃n,n=u.length:=⟨_,rfl⟩;rw[←hn]at hS h3 hl h3'⊢;rw[show eM (s n).1.length (s n).1 (s n).2= .agg [tC (s n).1.length (s n).1,tC n (s n).2] by unfold eM;rw[hl n (Nat.le_refl n)]];refine pw Tryz.func164 ⟨[0,1,4,5,6,8,9,10,11,14,15,16,17,31],[(5,(.cons 4 [0,1] (.cons 5 [] (.cons 6 [] (.cons 7 [] (.cons 8 [] (.cons 9 [] (.cons 10 [] (.cons 11 [] (.cons 12 [] .nil .nil) .nil) .nil) (.cons 10 [] (.cons 9 [] (.cons 11 [] (.cons 12 [] .nil .nil) .nil) (.cons 11 [] (.cons 9 [] (.cons 12 [] .nil .nil) .nil) .nil)) .nil)) (.cons 9 [] (.cons 8 [] (.cons 10 [] (.cons 11 [] (.cons 12 [] .nil .nil) .nil) .nil) (.cons 10 [] (.cons 8 [] (.cons 11 [] (.cons 12 [] .nil .nil) .nil) .nil) .nil)) (.cons 10 [] (.cons 8 [] (.cons 9 [] (.cons 11 [] (.cons 12 [] .nil .nil) .nil) (.cons 11 [] (.cons 9 [] (.cons 12 [] .nil .nil) .nil) .nil)) (.cons 9 [] (.cons 8 [] (.cons 11 [] (.cons 12 [] .nil .nil) .nil) .nil) .nil)) .nil))) (.cons 8 [] (.cons 7 [] (.cons 9 [] (.cons 10 [] (.cons 11 [] (.cons 12 [] .nil .nil) .nil) .nil) (.cons 10 [] (.cons 9 [] (.cons 11 [] (.cons 12 [] .nil .nil) .nil) (.cons 11 [] (.cons 9 [] (.cons 12 [] .nil .nil) .nil) .nil)) .nil)) (.cons 9 [] (.cons 7 [] (.cons 10 [] (.cons 11 [] (.cons 12 [] .nil .nil) .nil) .nil) .nil) .nil)) (.cons 9 [] (.cons 7 [] (.cons 8 [] (.cons 10 [] (.cons 11 [] (.cons 12 [] .nil .nil) .nil) .nil) (.cons 10 [] (.cons 8 [] (.cons 11 [] (.cons 12 [] .nil .nil) .nil) .nil) .nil)) (.cons 8 [] (.cons 7 [] (.cons 10 [] (.cons 11 [] (.cons 12 [] .nil .nil) .nil) .nil) .nil) .nil)) .nil))) .nil) .nil) .nil))]⟩ ?_;simp only[Tryz.f164,Tryz.ntmps164,iz,seval];simp only[vx,T,seval,eM,tV,tC,eV,ag];refine Lk (fun y:{i:Nat//i≤n}=>⟨[(4,.one (.ptr 1 0)),(5,.one (.int .i64 0)),(6,.one (.ptr 2 0)),(14,tV n u),(15,.one (.int .i64 n)),(16,.one (.int .i64 y.1))],[(1,⟨.var [.nil,.nil],true⟩),(2,⟨.var [tC (s y.1).1.length (s y.1).1,.own 3 1 0 y.1],true⟩),(3,⟨.rows 33 1 y.1 (fun j _=>ag ((s y.1).2.getD j [])),true⟩)],4,44⟩) (fun y=>n-y.1) ⟨0,Nat.zero_le _⟩ ?_ (fun⟨i,hi⟩=>?_)
 ·refine jT [(1,some 1),(2,some 5),(3,none)] ?_;simp only[ry,seval,tV,tC,eV,ag,X4]
 simp only;have wi:IntKind.i64.wrap ((i:Int)+1)=((i+1:Nat):Int):=by rw[IntWalk.i64_in _ (by omega)];omega
 simp only[vx,T,seval,tV,tC,eV,ag,wi];refine⟨fun g=>Lg ?_,fun g=>Lg ?_⟩
 ·have hil:i<n:=by omega
  obtain⟨e,w,ci,ca,er⟩:=hS i hil;have hli:=hl i hi;have h3i:=h3' i hi;obtain⟨v,hv⟩:∃v,v=u.getD i []:=⟨_,rfl⟩;rw[←hv]at ci;obtain⟨U,hU⟩:∃U,U=(s i).1:=⟨_,rfl⟩;obtain⟨rs,hrs⟩:∃rs,rs=(s i).2:=⟨_,rfl⟩;rw[←hrs]at er hli;rw[←hU,←hrs]at ci;rw[←hU]at ca h3i;rw[←hU,←hrs];simp only[vx,T,seval,tV,tC,eV,ag,←hv];refine⟨⟨by omega,by omega⟩,Cm 3 (B:=rB i rs) rfl trivial ci ?_⟩;rintro _ _ ⟨rfl,rfl⟩ _;simp only[vx,T,seval,rB,oM,tV,tC,eV,ag,←hv];refine Cg ca ?_;simp only[vx,T,seval,rB,oM,tV,tC,eV,ag,←hv,wi];have es:(s (i+1)).2=rs++[w]:=er;have e1:∀j,j<i→(rs++[w]).getD j []=rs.getD j []:=fun j hj=>Go.Tw.dr (by omega);have e2:(rs++[w]).getD i []=w:=by rw[←hli];exact Go.Tw.gg
  repeat' (with_reducible refine And.intro ?_ ?_)
  all_goals first|omega|(refine Lq ⟨i+1,by omega⟩ ?_ (by show n-(i+1)<n-i;omega))
  all_goals
   refine jT [(1,some 1),(2,some 2),(3,some 36)] ?_;simp only[ry,seval,tV,tC,eV,ag];rw[es];intro k j hk hj;obtain rfl:j=0:=by omega
   by_cases hki:k<i
   ·rw[if_pos hki,e1 k hki]
   obtain rfl:k=i:=by omega
   rw[if_neg hki,e2,Nat.sub_self];rfl
 have hil:i=n:=by omega
 subst hil;simp only[vx,T,seval,tV,tC,eV,ag,wi];exact Ve rfl
end
open Go Go.Eng
open Go.Tw (El aC aG zE aj au QB mS tB val In Rd nU TG cB bL bc aY Ext lP yX)
def ir (x:List El×El):Nat→C
 |0=>tC x.1.length x.1
 |1=>ag x.2
 |_=>.any
def fU (l:List (List El×El))(i:Nat):Nat→C:=ir (l.getD i default)
def aZ (l:List (List El×El)):C:=.rows 2 l.length (fU l)
def nX (x:List El×El):V:=nV x.1.length x.1 x.2
theorem zH {h:Nat}{t:List El}{a:El}(tk:Tk h t)(ha:a.length<2^38)(hq:Qk a):Pr Tryz.prog 166 [nV h t a] (nV h t a):=by
 have h8:=tk.le8;have c:=(nY a ha hq).rows;have d:∀i,i<h→Pr Tryz.prog 207 [eV (t.getD i [])] (.one (.rows 4 (t.getD i []).length (fQ (t.getD i [])))):=fun i hi=>
  (nY _ (by rw[tk.len i hi];exact aO (by omega)) (tk.q i hi)).rows
 refine pw Tryz.func166 ⟨[0,1,2,3,5,11,12,13,14],[]⟩ ?_;simp only[Tryz.f166,Tryz.ntmps166,iz,seval];simp only[vx,T,seval,nV,tC,eV,ag];refine Cg c ?_;simp only[vx,T,seval,nV,tC,eV,ag];refine Lk (fun y:{i:Nat//i≤h}=>⟨[(1,.one (.ptr 1 0)),(2,.one (.ptr 2 0)),(3,.one (.ptr 7 0)),(11,tV h t),(12,.one (.int .i64 h)),(13,.one (.int .i64 y.1))],[(1,⟨.var [tC h t,ag a],true⟩),(2,⟨.var [.nil,.nil],true⟩),(7,⟨.var [.own 8 1 0 y.1,ag a],true⟩),(8,⟨.rows 33 1 y.1 (fun j _=>ag (t.getD j [])),true⟩)],12,26⟩) (fun y=>h-y.1) ⟨0,Nat.zero_le _⟩ ?_ (fun⟨i,hi⟩=>?_)
 ·refine jT [(1,some 1),(2,some 2),(7,some 7),(8,none)] ?_;simp only[ry,seval,nV,tV,tC,eV,ag,X4];exact fun _ _ _ _=>rfl
 simp only;have wi:IntKind.i64.wrap ((i:Int)+1)=((i+1:Nat):Int):=by rw[IntWalk.i64_in _ (by omega)];omega
 simp only[vx,T,seval,tV,tC,eV,ag,wi];refine⟨fun g=>Lg ?_,fun g=>Lg ?_⟩
 ·have di:=d i (by omega);obtain⟨v,hv⟩:∃v,v=t.getD i []:=⟨_,rfl⟩;rw[←hv]at di;simp only[vx,T,seval,tV,tC,eV,ag,←hv,wi];refine⟨by omega,Cg di ?_⟩;simp only[vx,T,seval,tV,tC,eV,ag,←hv,wi];refine⟨⟨by omega,by omega⟩,Lq ⟨i+1,by omega⟩ ?_ (by show h-(i+1)<h-i;omega)⟩;refine jT [(1,some 1),(2,some 2),(7,some 7),(8,some 24)] ?_;simp only[ry,seval,tV,tC,eV,ag];intro k j hk hj;obtain rfl:j=0:=by omega
  by_cases hki:k<i
  ·rw[if_pos hki]
  obtain rfl:k=i:=by omega
  rw[if_neg hki,Nat.sub_self,←hv];rfl
 have hil:i=h:=by omega
 subst hil;simp only[vx,T,seval,tV,tC,eV,ag,wi];exact Ve rfl
def DO (t x t':List El):Prop:=
 (fk t.length x.length t x=true∧t'=t)∨(fk t.length x.length t x=false∧fk x.length t.length x t=true∧t'=x)∨
 (fk t.length x.length t x=false∧fk x.length t.length x t=false∧∃rs,Pr Tryz.prog 164 [tV t.length t,tV x.length x] (.aJ [eM t'.length t' rs,.one (.int .i64 0)]))
theorem yE (l:List (List El×El))(hl:l.length<2^30)(tt:Nat→List El)(h0:tt 0=[])(tk:∀i,i≤l.length→Tk (tt i).length (tt i))(xk:∀i,i<l.length→Tk (l.getD i default).1.length (l.getD i default).1)
  (st:∀i,i<l.length→DO (tt i) (l.getD i default).1 (tt (i+1))):Pr Tryz.prog 161 [.one (aZ l)] (.aJ [tV (tt l.length).length (tt l.length),.one (.int .i64 0)]):=by
 have e0:(tt 0).length=0:=by rw[h0];rfl
 refine pw Tryz.func161 ⟨[0,2,3,4,6,7,8,9,10,11,12,23,27,32],[]⟩ ?_;simp only[Tryz.f161,Tryz.ntmps161,iz,seval];simp only[vx,T,seval,aZ];refine Lk (fun y:{i:Nat//i≤l.length}=>⟨[(2,.one .nil),(3,.one (.int .i64 0)),(4,tV (tt y.1).length (tt y.1)),(9,.one (aZ l)),(10,.one (.int .i64 l.length)),(11,.one (.int .i64 y.1))],[],1,41⟩) (fun y=>l.length-y.1) ⟨0,Nat.zero_le _⟩ ?_ (fun⟨i,hi⟩=>?_)
 ·refine Sa ?_;simp only[ry,seval,rz,aZ,tV,tC,e0]
 simp only;have wi:IntKind.i64.wrap ((i:Int)+1)=((i+1:Nat):Int):=by rw[IntWalk.i64_in _ (by omega)];omega
 simp only[vx,T,seval,aZ,tV,tC,wi];refine⟨fun g=>Lg ?_,fun g=>Lg ?_⟩
 ·have hil:i<l.length:=by omega
  have sti:=st i hil;have b1:=lX (tk i hi) (xk i hil);have b2:=lX (xk i hil) (tk i hi);obtain⟨x,hx⟩:∃x,x=l.getD i default:=⟨_,rfl⟩;rw[←hx]at sti b1 b2;obtain⟨t,ht⟩:∃t,t=tt i:=⟨_,rfl⟩;rw[←ht]at sti b1 b2;obtain⟨t',ht'⟩:∃t',t'=tt (i+1):=⟨_,rfl⟩;rw[←ht']at sti;rw[←ht]
  rcases sti with⟨g1,e⟩|⟨g1,g2,e⟩|⟨g1,g2,rs,c⟩
  ·rw[g1]at b1;simp only[vx,T,seval,aZ,fU,ir,tV,tC,←hx,wi];refine⟨by omega,Cg b1 ?_⟩;simp only[vx,T,seval,aZ,fU,ir,tV,tC,←hx,wi];refine Lq ⟨i+1,by omega⟩ ?_ (by show l.length-(i+1)<l.length-i;omega);refine Sa ?_;simp only[ry,seval,rz,aZ,tV,tC,←ht',e]
  ·rw[g1]at b1;rw[g2]at b2;simp only[vx,T,seval,aZ,fU,ir,tV,tC,←hx,wi];refine⟨by omega,Cg b1 ?_⟩;simp only[vx,T,seval,aZ,fU,ir,tV,tC,←hx,wi];refine Cg b2 ?_;simp only[vx,T,seval,aZ,fU,ir,tV,tC,←hx,wi];refine Lq ⟨i+1,by omega⟩ ?_ (by show l.length-(i+1)<l.length-i;omega);refine Sa ?_;simp only[ry,seval,rz,aZ,tV,tC,←ht',e]
  rw[g1]at b1;rw[g2]at b2;simp only[vx,T,seval,aZ,fU,ir,tV,tC,←hx,wi];refine⟨by omega,Cg b1 ?_⟩;simp only[vx,T,seval,aZ,fU,ir,tV,tC,←hx,wi];refine Cg b2 ?_;simp only[vx,T,seval,aZ,fU,ir,tV,tC,←hx,wi];refine Cg c ?_;simp only[vx,T,seval,aZ,fU,ir,tV,tC,eM,←hx,wi];refine Lq ⟨i+1,by omega⟩ ?_ (by show l.length-(i+1)<l.length-i;omega);refine Sa ?_;simp only[ry,seval,rz,aZ,tV,tC,←ht']
 have hil:i=l.length:=by omega
 subst hil;simp only[vx,T,seval,aZ,tV,tC,wi];exact Ve rfl
def HP (T':List El)(x:List El×El)(e:El):Prop:=
 (fk T'.length x.1.length T' x.1=true∧Pr Tryz.prog 163 [tV T'.length T',eV x.2] (eV e))∨
 (fk T'.length x.1.length T' x.1=false∧∃U rs,Pr Tryz.prog 164 [tV T'.length T',tV x.1.length x.1] (.aJ [eM U.length U rs,.one (.int .i64 0)])∧Pr Tryz.prog 165 [eM U.length U rs,eV x.2] (eV e))
theorem sV {ks:List (List El×El)}{k:Nat}(hk:ks.length=k)(x:List El×El):∀(i j:Nat),i<k+1→j<2→
  (if i<k then fU ks i j else[tC x.1.length x.1,ag x.2].getD ((i-k)*2+j) C.any)=fU (ks++[x]) i j:=by
 subst hk;intro i j hi hj
 by_cases h:i<ks.length
 ·rw[if_pos h];unfold fU;rw[X7,X7,List.getElem?_append_left h]
 have:i=ks.length:=by omega
 subst this;have e:(ks++[x]).getD ks.length default=x:=by rw[X7,List.getElem?_append_right (Nat.le_refl _),Nat.sub_self];rfl
 rw[if_neg h,Nat.sub_self,Nat.zero_mul,Nat.zero_add];unfold fU;rw[e]
 match j,hj with
 |0,_=>rfl
 |1,_=>rfl
theorem D7 (l os:List (List El×El))(hl:l.length<2^30)(hos:os.length=l.length)(U:List El)(uk:Tk U.length U)(xk:∀i,i<l.length→Tk (l.getD i default).1.length (l.getD i default).1)
  (cm:Pr Tryz.prog 161 [.one (aZ l)] (.aJ [tV U.length U,.one (.int .i64 0)]))
  (st:∀i,i<l.length→(os.getD i default).1=U∧(os.getD i default).2.length<2^38∧Qk (os.getD i default).2∧HP U (l.getD i default) (os.getD i default).2):
  Pr Tryz.prog 115 [.one (aZ l)] (.aJ [.one (aZ os),.one (.int .i64 0)]):=by
 have u8:=uk.le8;refine pw Tryz.func115 ⟨[0,2,3,4,5,6,8,9,10,11,18,20,21,22,23,31,45],[]⟩ ?_;simp only[Tryz.f115,Tryz.ntmps115,iz,seval];simp only[vx,T,seval,aZ];refine Cg cm ?_;simp only[vx,T,seval,aZ,tV,tC];refine Lk (fun y:{i:Nat//i≤l.length}=>⟨[(2,.one .nil),(3,.one (.int .i64 0)),(4,tV U.length U),(6,.one (.own 1 2 0 y.1)),(20,.one (aZ l)),(21,.one (.int .i64 l.length)),(22,.one (.int .i64 y.1))],[(1,⟨.rows 35 2 y.1 (fU (os.take y.1)),true⟩)],16,59⟩) (fun y=>l.length-y.1) ⟨0,Nat.zero_le _⟩ ?_ (fun⟨i,hi⟩=>?_)
 ·refine Sa ?_;simp only[ry,seval,rz,aZ,tV,tC]
 simp only;have wi:IntKind.i64.wrap ((i:Int)+1)=((i+1:Nat):Int):=by rw[IntWalk.i64_in _ (by omega)];omega
 simp only[vx,T,seval,aZ,tV,tC,wi];refine⟨fun g=>Lg ?_,fun g=>Lg ?_⟩
 ·have hil:i<l.length:=by omega
  obtain⟨s1,s2,s3,sj⟩:=st i hil;have b1:=lX uk (xk i hil);have hst:os.take (i+1)=os.take i++[os.getD i default]:=by rw[List.take_add_one,X7,X8 (by omega)];rfl
  have htl:(os.take i).length=i:=by rw[X5];omega
  have sn:=sV htl (os.getD i default);rw[←hst]at sn;obtain⟨x,hx⟩:∃x,x=l.getD i default:=⟨_,rfl⟩;rw[←hx]at sj b1;obtain⟨o,ho⟩:∃o,o=os.getD i default:=⟨_,rfl⟩;rw[←ho]at s1 s2 s3 sj sn;have dt:=zH uk s2 s3;rw[s1]at sn
  rcases sj with⟨g1,c⟩|⟨g1,V,rs,c,d⟩
  ·rw[g1]at b1;simp only[vx,T,seval,aZ,fU,ir,tV,tC,←hx,wi];refine⟨by omega,Cg b1 ?_⟩;simp only[vx,T,seval,aZ,fU,ir,tV,tC,←hx,wi];refine Cg c ?_;simp only[vx,T,seval,aZ,fU,ir,tV,tC,eV,ag,←hx,wi];refine Cg dt ?_;simp only[vx,T,seval,aZ,nV,tV,tC,eV,ag,wi];refine⟨⟨by omega,by omega⟩,Lq ⟨i+1,by omega⟩ ?_ (by show l.length-(i+1)<l.length-i;omega)⟩;refine Sa ?_;simp only[ry,seval,rz,aZ,tV,tC,ag];exact sn
  rw[g1]at b1;simp only[vx,T,seval,aZ,fU,ir,tV,tC,←hx,wi];refine⟨by omega,Cg b1 ?_⟩;simp only[vx,T,seval,aZ,fU,ir,tV,tC,←hx,wi];refine Cg c ?_;simp only[vx,T,seval,aZ,fU,ir,tV,tC,eV,ag,eM,←hx,wi];refine Cg d ?_;simp only[vx,T,seval,aZ,fU,ir,tV,tC,eV,ag,←hx,wi];refine Cg dt ?_;simp only[vx,T,seval,aZ,nV,tV,tC,eV,ag,wi];refine⟨⟨by omega,by omega⟩,Lq ⟨i+1,by omega⟩ ?_ (by show l.length-(i+1)<l.length-i;omega)⟩;refine Sa ?_;simp only[ry,seval,rz,aZ,tV,tC,ag];exact sn
 have hil:i=l.length:=by omega
 subst hil;have e:os.take l.length=os:=by rw[←hos,List.take_length]
 simp only[vx,T,seval,aZ,tV,tC,wi,e];rw[hos];exact jJ.refl _
open Go Go.Eng
open Go.Tw (El)
def nf (n:Nat)(c:Rat):Prop:=n<zn c.num∨n<nl c.den
def LgA (n:Nat)(x:List El×El):Prop:=(∃i,i<x.2.length∧nf n (x.2.getD i default))∨∃j,j<x.1.length∧∃i,i<(x.1.getD j []).length∧nf n ((x.1.getD j []).getD i default)
theorem vD (x o:List El×El):Pr Tryz.prog 17 [nX x,.one (.int .i64 0),nX o] (nX x):=by
 refine pw Tryz.func17 ⟨[0,1,2,3,5,6,8],[]⟩ ?_;simp only[Tryz.f17,Tryz.ntmps17,iz,seval];simp only[vx,T,seval,nX,nV,tC,ag];exact Ve rfl
theorem BZ (o:List El×El):Pr Tryz.prog 17 [.agg [.nil,.nil],.one (.int .i64 6),nX o] (nX o):=by
 refine pw Tryz.func17 ⟨[0,1,2,3,5,6,8],[]⟩ ?_;simp only[Tryz.f17,Tryz.ntmps17,iz,seval];simp only[vx,T,seval,nX,nV,tC,ag];exact Ve rfl
theorem Ni (x:List El×El)(hl:x.2.length<2^38)(hh:x.1.length<2^38)(ht:∀j,j<x.1.length→(x.1.getD j []).length<2^38){b:Bool}(hb:b=true↔LgA 2 x):Pr Tryz.prog 23 [nX x] (.one (.bool b)):=by
 obtain⟨t,a⟩:=x;simp only at hl hh ht;refine pw Tryz.func23 ⟨[0,1,2,3,4,5,6,11,33,38,48,70],[]⟩ ?_;simp only[Tryz.f23,Tryz.ntmps23,iz,seval];simp only[vx,T,seval,nX,nV,tC,ag];refine Lk (fun y:{i:Nat//i≤a.length∧∀j,j<i→¬nf 2 (a.getD j default)}=>⟨[(1,.one (.ptr 1 0)),(2,.one (.bool false)),(3,.one (.int .i64 y.1))],[(1,⟨.var [tC t.length t,ag a],true⟩)],2,71⟩) (fun y=>a.length-y.1) ⟨0,Nat.zero_le _,fun j hj=>absurd hj (Nat.not_lt_zero _)⟩ ?_ (fun⟨i,hi,hz⟩=>?_)
 ·refine Sa ?_;simp only[ry,seval,rz,tC,ag]
 have i1:=wI i (by omega);simp only[vx,T,seval,tC,ag];refine⟨fun g=>Lg ?_,fun g=>Lg ?_⟩
 ·have hil:i<a.length:=by omega
  have hit:nf 2 (a.getD i default)→b=true:=fun h=>hb.2 (.inl ⟨i,hil,h⟩);have hnx:¬nf 2 (a.getD i default)→∀j,j<i+1→¬nf 2 (a.getD j default):=fun h0 j hj=>by
   by_cases h:j<i
   ·exact hz j h
   obtain rfl:j=i:=by omega
   exact h0
  obtain⟨x,hx⟩:∃x,x=a.getD i default:=⟨_,rfl⟩;rw[←hx]at hit hnx;have ln:(zm x.num).length=zn x.num:=rfl;have ld:(zm (x.den:Int)).length=nl x.den:=rfl;simp only[vx,T,seval,tC,ag,←hx,qC];refine⟨by omega,fun h=>Lg ?_,fun h=>Lg ?_⟩
  ·rw[hit (.inl (by omega))];simp only[vx,T,seval,tC,ag];exact Ve rfl
  simp only[vx,T,seval,tC,ag,←hx,qC];refine⟨by omega,fun h'=>Lg ?_,fun h'=>Lg ?_⟩
  ·rw[hit (.inr (by omega))];simp only[vx,T,seval,tC,ag];exact Ve rfl
  simp only[vx,T,seval,tC,ag,i1];refine Lq ⟨i+1,by omega,hnx fun h2=>by unfold nf at h2;omega⟩ ?_ (by show a.length-(i+1)<a.length-i;omega);refine Sa ?_;simp only[ry,seval,rz,tC,ag]
 have ha:∀i,i<a.length→¬nf 2 (a.getD i default):=fun j hj=>hz j (by omega);clear hz i1 g;simp only[vx,T,seval,tC,ag];refine Lk (fun y:{j:Nat//j≤t.length∧∀k,k<j→∀i,i<(t.getD k []).length→¬nf 2 ((t.getD k []).getD i default)}=>⟨[(1,.one (.ptr 1 0)),(2,.one (.bool false)),(4,.one (.int .i64 y.1))],[(1,⟨.var [tC t.length t,ag a],true⟩)],2,71⟩) (fun y=>t.length-y.1) ⟨0,Nat.zero_le _,fun j hj=>absurd hj (Nat.not_lt_zero _)⟩ ?_ (fun⟨j,hj,hz⟩=>?_)
 ·refine Sa ?_;simp only[ry,seval,rz,tC,ag]
 have j1:IntKind.i64.wrap ((j:Int)+1)=((j+1:Nat):Int):=by rw[IntWalk.i64_in _ (by omega)];omega
 simp only[vx,T,seval,tC,ag];refine⟨fun g=>Lg ?_,fun g=>Lg ?_⟩
 ·have hjl:j<t.length:=by omega
  have hit:∀i,i<(t.getD j []).length→nf 2 ((t.getD j []).getD i default)→b=true:=fun i hi h=>hb.2 (.inr ⟨j,hjl,i,hi,h⟩);have hnx:(∀i,i<(t.getD j []).length→¬nf 2 ((t.getD j []).getD i default))→∀k,k<j+1→∀i,i<(t.getD k []).length→¬nf 2 ((t.getD k []).getD i default):=fun h0 k hk=>by
   by_cases h:k<j
   ·exact hz k h
   obtain rfl:k=j:=by omega
   exact h0
  have hel:=ht j hjl;obtain⟨e,he⟩:∃e,e=t.getD j []:=⟨_,rfl⟩;rw[←he]at hit hnx hel;simp only[vx,T,seval,tC,ag];refine Lk (fun y:{i:Nat//i≤e.length∧∀k,k<i→¬nf 2 (e.getD k default)}=>⟨[(1,.one (.ptr 1 0)),(2,.one (.bool false)),(4,.one (.int .i64 j)),(5,.one (.int .i64 y.1))],[(1,⟨.var [tC t.length t,ag a],true⟩)],2,71⟩) (fun y=>e.length-y.1) ⟨0,Nat.zero_le _,fun j hj=>absurd hj (Nat.not_lt_zero _)⟩ ?_ (fun⟨i,hi,hz⟩=>?_)
  ·refine Sa ?_;simp only[ry,seval,rz,tC,ag]
  have i1:=wI i (by omega);simp only[vx,T,seval,tC,ag,←he];refine⟨by omega,fun g=>Lg ?_,fun g=>Lg ?_⟩
  ·have hil:i<e.length:=by omega
   have hit:=hit i hil;have hnx:¬nf 2 (e.getD i default)→∀j,j<i+1→¬nf 2 (e.getD j default):=fun h0 j hj=>by
    by_cases h:j<i
    ·exact hz j h
    obtain rfl:j=i:=by omega
    exact h0
   obtain⟨x,hx⟩:∃x,x=e.getD i default:=⟨_,rfl⟩;rw[←hx]at hit hnx;have ln:(zm x.num).length=zn x.num:=rfl;have ld:(zm (x.den:Int)).length=nl x.den:=rfl;simp only[vx,T,seval,tC,ag,←he,←hx,qC];refine⟨by omega,by omega,fun h=>Lg ?_,fun h=>Lg ?_⟩
   ·rw[hit (.inl (by omega))];simp only[vx,T,seval,tC,ag];exact Ve rfl
   simp only[vx,T,seval,tC,ag,←he,←hx,qC];refine⟨fun h'=>Lg ?_,fun h'=>Lg ?_⟩
   ·rw[hit (.inr (by omega))];simp only[vx,T,seval,tC,ag];exact Ve rfl
   simp only[vx,T,seval,tC,ag,i1];refine Lq ⟨i+1,by omega,hnx fun h2=>by unfold nf at h2;omega⟩ ?_ (by show e.length-(i+1)<e.length-i;omega);refine Sa ?_;simp only[ry,seval,rz,tC,ag]
  simp only[vx,T,seval,tC,ag,j1];refine Lq ⟨j+1,by omega,hnx fun i hi=>hz i (by omega)⟩ ?_ (by show t.length-(j+1)<t.length-j;omega);refine Sa ?_;simp only[ry,seval,rz,tC,ag]
 rw[show b=false by
  cases hbb:b with
  |false=>rfl
  |true=>
   rcases hb.1 hbb with⟨i,h1,h2⟩|⟨k,h1,i,h2,h3⟩
   ·exact absurd h2 (ha i h1)
   exact absurd h3 (hz k (by have:k<t.length:=h1;omega) i h2)]
 simp only[vx,T,seval,tC,ag];exact Ve rfl
theorem KC (x:List El×El)(hl:x.2.length<2^38)(hh:x.1.length<2^38)(ht:∀j,j<x.1.length→(x.1.getD j []).length<2^38){b:Bool}(hb:b=false↔LgA 6 x):Pr Tryz.prog 31 [nX x] (.one (.bool b)):=by
 obtain⟨t,a⟩:=x;simp only at hl hh ht;refine pw Tryz.func31 ⟨[0,1,2,3,4,5,10,32,37,47,75],[]⟩ ?_;simp only[Tryz.f31,Tryz.ntmps31,iz,seval];simp only[vx,T,seval,nX,nV,tC,ag];refine Lk (fun y:{i:Nat//i≤a.length∧∀j,j<i→¬nf 6 (a.getD j default)}=>⟨[(1,.one (.ptr 1 0)),(2,.one (.bool false)),(3,.one (.int .i64 y.1))],[(1,⟨.var [tC t.length t,ag a],true⟩)],2,76⟩) (fun y=>a.length-y.1) ⟨0,Nat.zero_le _,fun j hj=>absurd hj (Nat.not_lt_zero _)⟩ ?_ (fun⟨i,hi,hz⟩=>?_)
 ·refine Sa ?_;simp only[ry,seval,rz,tC,ag]
 have i1:=wI i (by omega);simp only[vx,T,seval,tC,ag];refine⟨fun g=>Lg ?_,fun g=>Lg ?_⟩
 ·have hil:i<a.length:=by omega
  have hit:nf 6 (a.getD i default)→b=false:=fun h=>hb.2 (.inl ⟨i,hil,h⟩);have hnx:¬nf 6 (a.getD i default)→∀j,j<i+1→¬nf 6 (a.getD j default):=fun h0 j hj=>by
   by_cases h:j<i
   ·exact hz j h
   obtain rfl:j=i:=by omega
   exact h0
  obtain⟨x,hx⟩:∃x,x=a.getD i default:=⟨_,rfl⟩;rw[←hx]at hit hnx;have ln:(zm x.num).length=zn x.num:=rfl;have ld:(zm (x.den:Int)).length=nl x.den:=rfl;simp only[vx,T,seval,tC,ag,←hx,qC];refine⟨by omega,fun h=>Lg ?_,fun h=>Lg ?_⟩
  ·rw[hit (.inl (by omega))];simp only[vx,T,seval,tC,ag];exact Ve rfl
  simp only[vx,T,seval,tC,ag,←hx,qC];refine⟨by omega,fun h'=>Lg ?_,fun h'=>Lg ?_⟩
  ·rw[hit (.inr (by omega))];simp only[vx,T,seval,tC,ag];exact Ve rfl
  simp only[vx,T,seval,tC,ag,i1];refine Lq ⟨i+1,by omega,hnx fun h2=>by unfold nf at h2;omega⟩ ?_ (by show a.length-(i+1)<a.length-i;omega);refine Sa ?_;simp only[ry,seval,rz,tC,ag]
 have ha:∀i,i<a.length→¬nf 6 (a.getD i default):=fun j hj=>hz j (by omega);clear hz i1 g;simp only[vx,T,seval,tC,ag];refine Lk (fun y:{j:Nat//j≤t.length∧∀k,k<j→∀i,i<(t.getD k []).length→¬nf 6 ((t.getD k []).getD i default)}=>⟨[(1,.one (.ptr 1 0)),(2,.one (.bool false)),(4,.one (.int .i64 y.1))],[(1,⟨.var [tC t.length t,ag a],true⟩)],2,76⟩) (fun y=>t.length-y.1) ⟨0,Nat.zero_le _,fun j hj=>absurd hj (Nat.not_lt_zero _)⟩ ?_ (fun⟨j,hj,hz⟩=>?_)
 ·refine Sa ?_;simp only[ry,seval,rz,tC,ag]
 have j1:IntKind.i64.wrap ((j:Int)+1)=((j+1:Nat):Int):=by rw[IntWalk.i64_in _ (by omega)];omega
 simp only[vx,T,seval,tC,ag];refine⟨fun g=>Lg ?_,fun g=>Lg ?_⟩
 ·have hjl:j<t.length:=by omega
  have hit:∀i,i<(t.getD j []).length→nf 6 ((t.getD j []).getD i default)→b=false:=fun i hi h=>hb.2 (.inr ⟨j,hjl,i,hi,h⟩);have hnx:(∀i,i<(t.getD j []).length→¬nf 6 ((t.getD j []).getD i default))→∀k,k<j+1→∀i,i<(t.getD k []).length→¬nf 6 ((t.getD k []).getD i default):=fun h0 k hk=>by
   by_cases h:k<j
   ·exact hz k h
   obtain rfl:k=j:=by omega
   exact h0
  have hel:=ht j hjl;obtain⟨e,he⟩:∃e,e=t.getD j []:=⟨_,rfl⟩;rw[←he]at hit hnx hel;simp only[vx,T,seval,tC,ag];refine Lk (fun y:{i:Nat//i≤e.length∧∀k,k<i→¬nf 6 (e.getD k default)}=>⟨[(1,.one (.ptr 1 0)),(2,.one (.bool false)),(4,.one (.int .i64 j)),(5,.one (.int .i64 y.1))],[(1,⟨.var [tC t.length t,ag a],true⟩)],2,76⟩) (fun y=>e.length-y.1) ⟨0,Nat.zero_le _,fun j hj=>absurd hj (Nat.not_lt_zero _)⟩ ?_ (fun⟨i,hi,hz⟩=>?_)
  ·refine Sa ?_;simp only[ry,seval,rz,tC,ag]
  have i1:=wI i (by omega);simp only[vx,T,seval,tC,ag,←he];refine⟨by omega,fun g=>Lg ?_,fun g=>Lg ?_⟩
  ·have hil:i<e.length:=by omega
   have hit:=hit i hil;have hnx:¬nf 6 (e.getD i default)→∀j,j<i+1→¬nf 6 (e.getD j default):=fun h0 j hj=>by
    by_cases h:j<i
    ·exact hz j h
    obtain rfl:j=i:=by omega
    exact h0
   obtain⟨x,hx⟩:∃x,x=e.getD i default:=⟨_,rfl⟩;rw[←hx]at hit hnx;have ln:(zm x.num).length=zn x.num:=rfl;have ld:(zm (x.den:Int)).length=nl x.den:=rfl;simp only[vx,T,seval,tC,ag,←he,←hx,qC];refine⟨by omega,by omega,fun h=>Lg ?_,fun h=>Lg ?_⟩
   ·rw[hit (.inl (by omega))];simp only[vx,T,seval,tC,ag];exact Ve rfl
   simp only[vx,T,seval,tC,ag,←he,←hx,qC];refine⟨by omega,by omega,fun h'=>Lg ?_,fun h'=>Lg ?_⟩
   ·rw[hit (.inr (by omega))];simp only[vx,T,seval,tC,ag];exact Ve rfl
   simp only[vx,T,seval,tC,ag,i1];refine Lq ⟨i+1,by omega,hnx fun h2=>by unfold nf at h2;omega⟩ ?_ (by show e.length-(i+1)<e.length-i;omega);refine Sa ?_;simp only[ry,seval,rz,tC,ag]
  simp only[vx,T,seval,tC,ag,j1];refine Lq ⟨j+1,by omega,hnx fun i hi=>hz i (by omega)⟩ ?_ (by show t.length-(j+1)<t.length-j;omega);refine Sa ?_;simp only[ry,seval,rz,tC,ag]
 rw[show b=true by
  cases hbb:b with
  |true=>rfl
  |false=>
   rcases hb.1 hbb with⟨i,h1,h2⟩|⟨k,h1,i,h2,h3⟩
   ·exact absurd h2 (ha i h1)
   exact absurd h3 (hz k (by have:k<t.length:=h1;omega) i h2)]
 simp only[vx,T,seval,tC,ag];exact Ve rfl
open Go Go.Eng
open Go.Tw (El Oc wo fe kJ jl bY TG iD)
def Nd (i:Nat)(x:List El×El)(k:Nat):Prop:=Oc i x.2∨∃m,i<m∧m<k∧Oc i (x.1.getD m [])
open Classical in
noncomputable def kL:Nat→List El×El→List El×El
 |0,x=>x
 |i+1,x=>if Nd i x x.1.length then kL i x else kL i (fe i x.1,wo i x.2 x.2.length)
theorem mM {A:List R}{B:Nat}{v:R}:∀(n:Nat) {x:List El×El},n≤x.1.length→bY A B x.1 x.2 v→bY A B (kL n x).1 (kL n x).2 v
 |0,_,_,h=>h
 |n+1,x,hn,h=>by
  rw[kL]
  split
  ·exact mM n (by omega) h
  rename_i no
  refine mM n (by show n≤(fe n x.1).length;rw[kJ];omega) (h.drop (by omega) (fun k h1 h2 h3=>no (.inr ⟨k,h1,h2,h3⟩)) fun h3=>no (.inl h3))
theorem iD.qk {B:Nat}{a:El}(h:iD B a)(hB:B<2^38):Qk a:=fun c hc=>by
 have:=Go.Tw.pX (h c hc).1 (h c hc).2
 omega
theorem C6 (p:Prop):∃b:Bool,b=true↔p:=by
 by_cases h:p
 ·exact⟨true,fun _=>h,fun _=>rfl⟩
 exact⟨false,fun e=>(by cases e),fun k=>absurd k h⟩
def wR (t:List El)(i k m:Nat):El:=if i<m∧m<k then wo i (t.getD m []) (2^m)else t.getD m []
theorem FL {t:List El}{i m:Nat}:wR t i (i+1) m=t.getD m []:=if_neg (by omega)
theorem JR {t:List El}{i k:Nat}:wR t i k k=t.getD k []:=if_neg (by omega)
theorem Nk {t:List El}{i k m j:Nat}{e:El}(hik:i<k)(he:e=wo i (t.getD k []) (2^k))(hj:j<1):dE (fun m _=>ag (wR t i k m)) k 0 [ag e] m j=ag (wR t i (k+1) m):=by
 obtain rfl:j=0:=by omega
 unfold dE wR
 by_cases h:m=k
 ·subst h;rw[if_pos rfl,if_pos (Nat.zero_le _),if_pos (by simp),if_pos ⟨hik,by omega⟩,he];rfl
 rw[if_neg h];simp only
 by_cases h2:i<m∧m<k
 ·rw[if_pos h2,if_pos ⟨h2.1,by omega⟩]
 rw[if_neg h2,if_neg (by omega)]
theorem KJ {t:List El}{i m:Nat}(hi:i<t.length)(hm:m<t.length-1):(if m<i then ag (wR t i t.length m)else ag (wR t i t.length (i+1+(m-i))))=ag ((fe i t).getD m []):=by
 rw[jl hm]
 split
 ·unfold wR;rw[if_neg (by omega)]
 unfold wR;rw[show i+1+(m-i)=m+1 by omega,if_pos ⟨by omega,by omega⟩]
section
variable {A:List R}(S:Go.Tw.Src 64 A)(hA:A.length≤3)
include S hA
theorem Mo (x:List El×El){v:R}(hx:bY A 64 x.1 x.2 v):Pr Tryz.prog 24 [nX x] (nX (kL x.1.length x)):=by
 obtain⟨R,hR⟩:∃R,R=kL x.1.length x:=⟨_,rfl⟩;rw[←hR];have h3:=hx.tg.lS S hA;have w1:IntKind.i64.wrap ((x.1.length:Int)-1)=(x.1.length:Int)-1:=IntWalk.i64_in _ (by omega);refine pw Tryz.func24 ⟨[0,1,2,3,4,5,6,7,20,33,46,58],[(1,(.opt 7 3 (.cons 3 [4,5] (.cons 6 [] (.cons 8 [] .nil .nil) .nil) .nil) (.cons 3 [4,5] (.cons 6 [] (.cons 7 [] (.cons 8 [] .nil .nil) .nil) (.cons 7 [4,5] (.cons 6 [] (.cons 8 [] .nil .nil) .nil) .nil)) .nil)))]⟩ ?_;simp only[Tryz.f24,Tryz.ntmps24,iz,seval];simp only[vx,T,seval,nX,nV,tC,ag,w1]
 repeat' (with_reducible refine And.intro ?_ ?_)
 all_goals first|omega|skip
 all_goals refine Lk (fun y:{y:Nat×(List El×El)//y.1≤y.2.1.length∧bY A 64 y.2.1 y.2.2 v∧kL y.1 y.2=R}=>⟨[(2,.one (.ptr 1 0)),(3,.one (.ptr 2 0)),(4,.one (.int .i64 ((y.1.1:Int)-1)))],[(1,⟨.var [.nil,.nil],true⟩),(2,⟨.var [.own 3 1 0 y.1.2.1.length,ag y.1.2.2],true⟩),(3,⟨.rows 33 1 y.1.2.1.length (fun i _=>ag (y.1.2.1.getD i [])),true⟩)],4,85⟩) (fun y=>y.1.1) ⟨(x.1.length,x),Nat.le_refl _,hx,hR.symm⟩ ?_ (fun⟨⟨n,t,a⟩,hn,hs,hr⟩=>?_)
 all_goals first
  |(refine jT [(1,some 2),(2,some 10),(3,some 12)] ?_;simp only[ry,seval,tC,ag,Nat.not_lt_zero,Nat.sub_zero];done)
  |(refine jT [(1,some 2),(2,some 14),(3,some 12)] ?_;simp only[ry,seval,tC,ag,Nat.not_lt_zero,Nat.sub_zero];done)
  |(refine jT [(1,some 2),(2,some 13),(3,some 12)] ?_;simp only[ry,seval,tC,ag,Nat.not_lt_zero,Nat.sub_zero];done)
  |skip
 all_goals
  simp only at hn hs hr;have t3:=hs.tg.lS S hA;have al:a.length≤2^3:=by rw[hs.len];exact Nat.pow_le_pow_right (by decide) t3
  have tl:∀m,m<t.length→(t.getD m []).length=2^m:=fun m hm=>(hs.tg.rd.rl m hm).1;simp only[vx,T,seval,tC,ag];refine⟨fun g=>Lg ?_,fun g=>Lg ?_⟩
  ·obtain⟨i,rfl⟩:∃i,n=i+1:=⟨n-1,by omega⟩;have e0:((i+1:Nat):Int)-1=(i:Int):=by omega
   have i1:=wI i (by omega);have i2:IntKind.i64.wrap ((i:Int)-1)=(i:Int)-1:=IntWalk.i64_in _ (by omega);obtain⟨b0,hb0⟩:∃b:Bool,b=true↔Oc i a:=C6 _;have c1:=Ax a i (by omega) (by omega) (iD.qk hs.bits (by decide)) hb0;clear g;simp only[vx,T,seval,tC,ag,e0,i1];refine Cg c1 ?_;simp only[vx,T,seval,tC,ag,e0,i1];refine Lk (fun y:{p:Nat×Bool//i+1≤p.1∧p.1≤t.length∧(p.2=true↔Nd i (t,a) p.1)}=>⟨[(2,.one (.ptr 1 0)),(3,.one (.ptr 2 0)),(4,.one (.int .i64 i)),(5,.one (.bool y.1.2)),(6,.one (.int .i64 y.1.1))],[(1,⟨.var [.nil,.nil],true⟩),(2,⟨.var [.own 3 1 0 t.length,ag a],true⟩),(3,⟨.rows 33 1 t.length (fun i _=>ag (t.getD i [])),true⟩)],4,85⟩) (fun y=>t.length-y.1.1) ⟨(i+1,b0),Nat.le_refl _,hn,hb0.trans ⟨.inl,fun h=>h.elim id fun⟨m,h1,h2,_⟩=>absurd h1 (by simp only at h2;omega)⟩⟩ ?_ (fun⟨⟨k,b⟩,hk1,hk2,hb⟩=>?_)
   ·refine jT [(1,some 1),(2,some 2),(3,some 3)] ?_;simp only[ry,seval,tC,ag]
   simp only at hk1 hk2 hb;have k1:IntKind.i64.wrap ((k:Int)+1)=((k+1:Nat):Int):=by rw[IntWalk.i64_in _ (by omega)];omega
   simp only[vx,T,seval,tC,ag];refine⟨fun g=>Lg ?_,fun g=>Lg ?_⟩
   ·have hkl:k<t.length:=by omega
    have hel:=tl k hkl;have p8:2^k≤2^3:=Nat.pow_le_pow_right (by decide) (by omega);obtain⟨b1,hb1⟩:∃b:Bool,b=true↔Oc i (t.getD k []):=C6 _;have c2:=Ax (t.getD k []) i (by omega) (by omega) (iD.qk (hs.tb k hkl) (by decide)) hb1;have nx:∀b':Bool,(b'=true↔b=true∨b1=true)→(b'=true↔Nd i (t,a) (k+1)):=fun b' h=>by
     rw[h,hb,hb1]
     constructor
     ·rintro((h|⟨m,h1,h2,h3⟩)|h)
      ·exact .inl h
      ·exact .inr ⟨m,h1,by omega,h3⟩
      exact .inr ⟨k,by omega,by omega,h⟩
     rintro(h|⟨m,h1,h2,h3⟩)
     ·exact .inl (.inl h)
     by_cases hm:m=k
     ·subst hm;exact .inr h3
     exact .inl (.inr ⟨m,h1,by omega,h3⟩)
    obtain⟨e,he⟩:∃e,e=t.getD k []:=⟨_,rfl⟩;rw[←he]at c2;simp only[vx,T,seval,tC,ag,k1];refine⟨fun h=>Lg ?_,fun h=>Lg ?_⟩
    ·simp only[vx,T,seval,tC,ag,k1];refine Lq ⟨(k+1,true),by simp only;omega,hkl,nx true ⟨fun _=>.inl h,fun _=>rfl⟩⟩ ?_ (by show t.length-(k+1)<t.length-k;omega);refine jT [(1,some 1),(2,some 2),(3,some 3)] ?_;simp only[ry,seval,tC,ag]
    simp only[vx,T,seval,tC,ag,k1,←he];refine⟨by omega,Cg c2 ?_⟩;simp only[vx,T,seval,tC,ag,k1];refine Lq ⟨(k+1,b1),by simp only;omega,hkl,nx b1 ⟨.inr,fun x=>x.elim (fun y=>absurd y (by rw[h];decide)) id⟩⟩ ?_ (by show t.length-(k+1)<t.length-k;omega);refine jT [(1,some 1),(2,some 2),(3,some 3)] ?_;simp only[ry,seval,tC,ag]
   have hkl:k=t.length:=by omega
   subst hkl;clear g
   cases b with
   |true=>
    have e1:kL i (t,a)=R:=by rw[←hr,kL,if_pos (hb.1 rfl)]
    simp only[vx,T,seval,tC,ag,i2];refine Lq ⟨(i,t,a),by simp only;omega,hs,e1⟩ ?_ (by show i<i+1;omega);refine jT [(1,some 1),(2,some 2),(3,some 3)] ?_;simp only[ry,seval,tC,ag]
   |false=>
    have no:¬Nd i (t,a) t.length:=fun h=>absurd (hb.2 h) (by decide);have na:¬Oc i a:=fun h=>no (.inl h);have nt:∀k,i<k→k<t.length→¬Oc i (t.getD k []):=fun k h1 h2 h3=>no (.inr ⟨k,h1,h2,h3⟩);have e1:kL i (fe i t,wo i a a.length)=R:=by rw[←hr,kL,if_neg no]
    have hs':=hs.drop (by omega) nt na;have c3:=(vN a i (by omega) (by omega)).rows;rw[←Gk]at c3;obtain⟨a',ha'⟩:∃a',a'=wo i a a.length:=⟨_,rfl⟩;rw[←ha']at c3 e1 hs';clear k1 hb hb0 c1 hr hs no na x hx hR h3 w1;simp only[vx,T,seval,tC,ag,i1];refine Cg c3 ?_;simp only[vx,T,seval,tC,ag,i1];refine Lk (fun y:{k:Nat//i+1≤k∧k≤t.length}=>⟨[(2,.one (.ptr 1 0)),(3,.one (.ptr 2 0)),(4,.one (.int .i64 i)),(7,.one (.int .i64 y.1))],[(1,⟨.var [.nil,.nil],true⟩),(2,⟨.var [.own 3 1 0 t.length,ag a'],true⟩),(3,⟨.rows 33 1 t.length (fun m _=>ag (wR t i y.1 m)),true⟩)],4,85⟩) (fun y=>t.length-y.1) ⟨i+1,Nat.le_refl _,hn⟩ ?_ (fun⟨k,hk1,hk2⟩=>?_)
    ·refine jT [(1,some 1),(2,some 2),(3,some 3)] ?_;simp only[ry,seval,tC,ag];exact fun m j _ _=>congrArg ag FL.symm
    simp only;have k1:IntKind.i64.wrap ((k:Int)+1)=((k+1:Nat):Int):=by rw[IntWalk.i64_in _ (by omega)];omega
    simp only[vx,T,seval,tC,ag];refine⟨fun g=>Lg ?_,fun g=>Lg ?_⟩
    ·have hkl:k<t.length:=by omega
     have hel:=tl k hkl;have p8:2^k≤2^3:=Nat.pow_le_pow_right (by decide) (by omega);have c4:=(vN (t.getD k []) i (by omega) (by omega)).rows;rw[←Gk,hel]at c4;obtain⟨e,he⟩:∃e,e=wo i (t.getD k []) (2^k):=⟨_,rfl⟩;rw[←he,←JR (i:=i)]at c4;obtain⟨u,hu⟩:∃u,u=wR t i k k:=⟨_,rfl⟩;rw[←hu]at c4;simp only[vx,T,seval,tC,ag,k1,←hu];refine⟨by omega,Cg c4 ?_⟩;simp only[vx,T,seval,tC,ag,k1];refine⟨by omega,Lq ⟨k+1,by omega,hkl⟩ ?_ (by show t.length-(k+1)<t.length-k;omega)⟩;refine jT [(1,some 1),(2,some 2),(3,some 3)] ?_;simp only[ry,seval,tC,ag];exact fun m j _ hj=>Nk (by omega) he hj
    have hkl:k=t.length:=by omega
    subst hkl;have dl:(fe i t).length=t.length-1:=kJ;have en:i+((t.length:Int)-((i+1:Nat):Int)).toNat=t.length-1:=by omega
    simp only[vx,T,seval,tC,ag,i1,i2,en];refine⟨by omega,by omega,by omega,Lq ⟨(i,fe i t,a'),by simp only[dl];omega,hs',e1⟩ ?_ (by show i<i+1;omega)⟩;refine jT [(1,some 1),(2,some 2),(3,some 22)] ?_;simp only[ry,seval,tC,ag,dl];exact fun m j hm _=>KJ (by omega) hm
  obtain rfl:n=0:=by omega
  obtain rfl:(t,a)=R:=hr;simp only[vx,T,seval,tC,ag];exact Ve rfl
end
open Go Go.Eng
open Go.Tw (El aC aG zE aj au ar aq ae QB mS ai ah aL aF tB aX aD dH)
theorem dL {h:Nat}{t:List El}(hh:h≤8)(q:Rat):Fr Tryz.prog 97 [tV h t,QV q] (.rows 57 4 (aX h q).length (fQ (aX h q))):=by
 have hp:=aO hh;have z:=aS 0 (by decide) (by decide);have hs:=dJ (h:=h) hh;have hl:(aX h q).length=2^h:=aD;have h1:1≤2^h:=Nat.two_pow_pos h;have hst:∀k,k+1<2^h→(q::zE k)++[0]=q::zE (k+1):=fun k _=>by
  rw[List.cons_append,←Go.Tw.CE];rfl
 have er:aX h q=q::zE (2^h-1):=rfl;rw[er]at hl⊢;obtain⟨N,hN⟩:∃N,N=2^h:=⟨_,rfl⟩;rw[←hN]at hs hl hp h1 hst⊢;refine fw Tryz.func97 ⟨[0,1,3,4,5,13],[]⟩ ?_;simp only[Tryz.f97,Tryz.ntmps97,iz,seval];simp only[vx,T,seval,tV,tC,eV,ag,QV,QC];refine Lk (fun y:{k:Nat//k+1≤N}=>⟨[(0,tV h t),(4,.one .nil),(5,.one (.own 2 4 0 (y.1+1)))],[(2,⟨.rows 57 4 (y.1+1) (fQ (q::zE y.1)),true⟩)],3,19⟩) (fun y=>N-(y.1+1)) ⟨0,by omega⟩ ?_ (fun⟨k,hk⟩=>?_)
 ·refine Sa ?_;simp only[ry,seval,rz,tV,tC,eV,ag];intro i j hi hj;obtain rfl:i=0:=by omega
  rw[Nat.zero_mul,Nat.zero_add];exact dx q rfl j
 simp only;simp only[vx,T,seval,tV,tC,eV,ag,hs];refine⟨by omega,?_⟩;refine⟨fun g=>Lg ?_,fun g=>Lg ?_⟩
 ·simp only[vx,T,seval,tV,tC,eV,ag,hs];refine Cg z ?_;simp only[vx,T,seval,tV,tC,eV,ag,hs,QV,QC];refine⟨⟨by omega,by omega⟩,Lq ⟨k+1,by omega⟩ ?_ (by show N-(k+1+1)<N-(k+1);omega)⟩;refine Sa ?_;simp only[ry,seval,rz,tV,tC,eV,ag,hs];rw[←hst k (by omega)];exact De (by rw[List.length_cons,au]) (Rat.ofInt 0)
 simp only[vx,T,seval,tV,tC,eV,ag,hs];have ek:k=N-1:=by omega
 subst ek;exact⟨au.symm,rfl,by rw[au],fun _ _ _ _=>rfl⟩
theorem MT {h:Nat}{U:List El}(h8:h+1≤8):Pr Tryz.prog 156 [tV (h+1) U,.one (.int .i64 h)] (eV (dH h)):=by
 have hs':=dJ (h:=h) (by omega);have hp:=aO h8;have o0:=aS 0 (by decide) (by decide);have o:=aS 1 (by decide) (by decide);have z:=dL (h:=h+1) (t:=U) h8 (Rat.ofInt 0);have e0:aX (h+1) (Rat.ofInt 0)=zE (2^(h+1)):=by
  have:=Nat.two_pow_pos (h+1)
  show(0:Rat)::List.replicate (2^(h+1)-1) 0=List.replicate (2^(h+1)) 0
  rw[←List.replicate_succ];congr 1;omega
 rw[e0]at z;have hlt:2^h<2^(h+1):=Nat.pow_lt_pow_right (by decide) (by omega);have hlen:(zE (2^(h+1))).length=2^(h+1):=au;obtain⟨N,hN⟩:∃N,N=2^(h+1):=⟨_,rfl⟩;obtain⟨M,hM⟩:∃M,M=2^h:=⟨_,rfl⟩;have st:=AJ h;rw[←hN]at z hlt hlen hp st;rw[←hM]at hs' hlt st;refine pw Tryz.func156 ⟨[0,1,4,5],[]⟩ ?_;simp only[Tryz.f156,Tryz.ntmps156,iz,seval];simp only[vx,T,seval,tV,tC,ag];refine Cg o0 ?_;simp only[vx,T,seval,tV,tC,ag,QV,QC];refine cY.fresh z ?_;simp only[vx,T,seval,tV,tC,ag,hs',hlen];refine⟨by omega,Cg o ?_⟩;simp only[vx,T,seval,tV,tC,ag,QV,QC,hs',hlen];exact⟨⟨by omega,by omega⟩,jJ.cell (dg.rows (by rw[Go.Tw.kK,hN]) fun i j _ hj=>.of_eq (st i j hj))⟩
theorem Fe (q:Rat)(hq:qm q<2^36):Pr Tryz.prog 71 [QV q] (.one (.bool true)):=by
 have h:=pg (zs q.num) (zs (q.den:Int)) (zm q.num) (zm (q.den:Int)) (qy _) (qy _) (by unfold qm at hq;rw[aN];omega) (by unfold qm at hq;rw[aN,ay];omega);rw[L7]at h;exact h
theorem DV (a:El)(n:Nat)(hl:a.length=n)(hn:n<2^38)(hq:Qk a):Pr Tryz.prog 154 [eV a,.one (.int .i64 n)] (.one (.bool true)):=by
 subst hl;refine pw Tryz.func154 ⟨[0,1,4,5,9,17],[]⟩ ?_;simp only[Tryz.f154,Tryz.ntmps154,iz,seval];simp only[vx,T,seval,eV,ag];refine Lk (fun y:{i:Nat//i≤a.length}=>⟨[(0,eV a),(1,.one (.int .i64 a.length)),(4,.one (.bool false)),(5,.one (.int .i64 y.1))],[],2,22⟩) (fun y=>a.length-y.1) ⟨0,Nat.zero_le _⟩ ?_ (fun⟨i,hi⟩=>?_)
 ·refine Sa ?_;simp only[ry,seval,rz,eV,ag]
 have i1:=wI i (by omega);simp only[vx,T,seval,eV,ag];refine⟨fun h1=>Lg ?_,fun h1=>Lg ?_⟩
 ·have v:=Fe _ (Nat.lt_trans (hq.get i) (by decide));obtain⟨x,hx⟩:∃x,x=a.getD i default:=⟨_,rfl⟩;rw[←hx]at v;simp only[vx,T,seval,eV,ag,←hx,qC];refine⟨by omega,Cg v ?_⟩;simp only[vx,T,seval,eV,ag,i1];refine Lq ⟨i+1,by omega⟩ ?_ (by show a.length-(i+1)<a.length-i;omega);refine Sa ?_;simp only[ry,seval,rz,eV,ag]
 simp only[vx,T,seval,eV,ag];exact Ve rfl
theorem C2 {h:Nat}{t:List El}(tk:Tk h t):Pr Tryz.prog 153 [tV h t] (.one (.bool true)):=by
 have h8:=tk.le8;refine pw Tryz.func153 ⟨[0,2,3,7,17],[]⟩ ?_;simp only[Tryz.f153,Tryz.ntmps153,iz,seval];simp only[vx,T,seval,tV,tC];refine Lk (fun y:{i:Nat//i≤h}=>⟨[(0,tV h t),(2,.one (.bool false)),(3,.one (.int .i64 y.1))],[],1,18⟩) (fun y=>h-y.1) ⟨0,Nat.zero_le _⟩ ?_ (fun⟨i,hi⟩=>?_)
 ·refine Sa ?_;simp only[ry,seval,rz,tV,tC]
 have i1:=wI i (by omega);simp only[vx,T,seval,tV,tC];refine⟨fun g=>Lg ?_,fun g=>Lg ?_⟩
 ·have hih:i<h:=by omega
  have hs:=dJ (h:=i) (by omega);have r:=DV (t.getD i []) (2^i) (tk.len i hih) (aO (by omega)) (tk.q i hih);simp only[vx,T,seval,tV,tC,ag,hs];refine⟨by omega,by omega,Cg r ?_⟩;simp only[vx,T,seval,tV,tC,i1];refine Lq ⟨i+1,by omega⟩ ?_ (by show h-(i+1)<h-i;omega);refine Sa ?_;simp only[ry,seval,rz,tV,tC]
 simp only[vx,T,seval,tV,tC];exact Ve rfl
theorem sY {h:Nat}{t:List El}(tk:Tk h t)(a:El)(ha:a.length=2^h)(hq:Qk a):Pr Tryz.prog 104 [tV h t,eV a] (.one (.bool true)):=by
 have hs:=dJ (h:=h) tk.le8;have r:=DV a (2^h) ha (aO tk.le8) hq;have tw:=C2 tk;refine pw Tryz.func104 ⟨[0,1,4],[]⟩ ?_;simp only[Tryz.f104,Tryz.ntmps104,iz,seval];simp only[vx,T,seval,tV,tC,eV,ag,hs];refine Cg tw ?_;simp only[vx,T,seval,tV,tC,eV,ag,hs];refine⟨by omega,Cg r ?_⟩;simp only[vx,T,seval,tV,tC];exact Ve rfl
end Go.Proofs.YtgalhjhdgkoemaaGreat
