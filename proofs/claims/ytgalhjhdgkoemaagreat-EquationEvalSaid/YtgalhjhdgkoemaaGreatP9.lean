/-
  EquationEval: for every input the law returns true, and each argument reads afterwards as it read before. No condition beyond the given row's own cells.
  (Text 9 of 10; made by a program out of smaller texts.)
-/
import Derived.Test.YtgalhjhdgkoemaaGreatP8
set_option linter.unusedSimpArgs false
set_option linter.unusedVariables false
set_option maxHeartbeats 16000000
set_option maxRecDepth 10000
open Nat renaming reduceAdd→J1,reduceMul→J2,reduceSub→J3,reduceEqDiff→J4,reduceLT→J5,reduceLeDiff→J6,reduceBEq→J7,reduceDiv→J8,reduceMod→J9,reducePow→J0
open Int renaming reduceToNat→K1,reduceLE→K2,reduceLT→K3,reduceEq→K4,reducePow→K5,reduceSub→K6,reduceNeg→K7,natCast_add→X2,natCast_one→X3,natCast_zero→X4
open List renaming getD_cons_zero→X0,getD_cons_succ→X1,length_take→X5,length_append→X6,getD_eq_getElem?_getD→X7,getElem?_eq_getElem→X8
namespace Go.Proofs.YtgalhjhdgkoemaaGreat
open Go Go.Eng
def dF (a b:ao):Prop:=cI a.2 b.2≤0
theorem mD (a:ao):dF a a:=by unfold dF;rw[fO.2 rfl];exact Int.le_refl _
theorem lZ {a b c:ao}(h1:dF a b)(h2:dF b c):dF a c:=uv h1 h2
theorem tN {a b:ao}(h:cI a.2 b.2<0):dF a b:=by unfold dF;omega
theorem tU {a b:ao}(h:¬cI a.2 b.2<0):dF b a:=by unfold dF;rw[nI a.2 b.2];omega
def I2 (xs:List ao):Prop:=∀m∈xs,m.2.length<2^40
theorem I2.get {xs:List ao}(h:I2 xs)(k:Nat):(xs.getD k default).2.length<2^40:=by
 rw[X7]
 cases hg:xs[k]? with
 |none=>decide
 |some m=>exact h m (List.mem_of_getElem? hg)
theorem I2.perm {xs ys:List ao}(h:I2 xs)(hp:ys.Perm xs):I2 ys:=fun m hm=>h m (hp.mem_iff.1 hm)
theorem ti (x c:Nat)(hc:c=x/2)(hx:x<2^42):IntKind.i64.wrap (((x:Nat):Int).fdiv 2)=(c:Int):=by
 rw[Int.fdiv_eq_ediv_of_nonneg _ (by omega),IntWalk.i64_in _ (by omega)];omega
def Oy (xs:List ao)(N a b:Nat)(r:V)(B':Bk):Prop:=∃ys,r= .aJ []∧B'= .rows 68 5 N (fR ys)∧Out xs ys a b∧bu dF ys a b
theorem Al (F:Nat):∀(xs:List ao) {N:Nat} (hN:xs.length=N) (a m b:Nat) (ham:a<m) (hmb:m<b) (hb:b≤N) (hl:N<2^40) (hF:b-a≤F) (hx:I2 xs) (hL:bu dF xs a m) (hR:bu dF xs m b),
  Mc Tryz.prog 174 [.one (.own 0 5 0 N),.one (.int .i64 a),.one (.int .i64 m),.one (.int .i64 b),.one cF] (.rows 68 5 N (fR xs)) (Oy xs N a b):=by
 induction F with
 |zero=>intro xs N hN a m b ham hmb hb hl hF;omega
 |succ F ih=>
 intro xs N hN a m b ham hmb hb hl hF hx hL hR;refine mw Tryz.func174 ⟨[0,1,2,3,4,10,11,12,13,14,15,16,17,18,19,20,21,22,23,24,28,33,50,58,80,85,103,110,140,151,171,185,199,213],[(11,(.cons 15 [2,3,4,16] (.cons 17 [] .nil .nil) .nil)),(23,(.cons 15 [2,3,4,16] (.cons 17 [] .nil .nil) .nil))]⟩ ?_;simp only[Tryz.f174,Tryz.ntmps174,iz,seval];have w1:IntKind.i64.wrap ((m:Int)-a)=((m-a:Nat):Int):=by rw[IntWalk.i64_in _ (by omega)];omega
 have w2:IntKind.i64.wrap ((b:Int)-m)=((b-m:Nat):Int):=by rw[IntWalk.i64_in _ (by omega)];omega
 simp only[vx,T,seval,cF,w1,w2];refine⟨fun h1=>Lg ?_,fun h1=>Lg ?_⟩
 ·simp only[vx,T,seval,cF];refine Lk (fun y:{y:Nat×Nat//m≤y.1∧y.1≤y.2∧y.2≤b∧(∀h,m≤h→h<y.1→dF (xs.getD h default) (xs.getD a default))∧∀h,y.2≤h→h<b→dF (xs.getD a default) (xs.getD h default)}=>⟨[(0,.one (.own 0 5 0 N)),(1,.one (.int .i64 a)),(2,.one (.int .i64 m)),(3,.one (.int .i64 b)),(4,.one cF),(10,.one (.int .i64 y.1.1)),(11,.one (.int .i64 y.1.2))],[(0,⟨.rows 68 5 N (fR xs),true⟩)],1,220⟩) (fun y=>y.1.2-y.1.1) ⟨(m,b),Nat.le_refl _,by simp only;omega,Nat.le_refl _,fun h h1 h2=>by simp only at h2;omega,fun h h1 h2=>by simp only at h1;omega⟩ ?_ (fun⟨⟨i,j⟩,hi,hij,hj,hlo,hhi⟩=>?_)
  ·refine Sa ?_;simp only[ry,seval,rz,cF]
  simp only at hi hij hj hlo hhi;obtain⟨c,hc⟩:∃c,c=(i+j)/2:=⟨_,rfl⟩;have w3:IntKind.i64.wrap ((i:Int)+j)=((i+j:Nat):Int):=by rw[IntWalk.i64_in _ (by omega)];omega
  have w4:IntKind.u64.wrap ((i+j:Nat):Int)=((i+j:Nat):Int):=IntWalk.u64_in _ (by omega);have w5:=ti _ _ hc (by omega);have w6:IntKind.i64.wrap ((c:Int)+1)=((c+1:Nat):Int):=by rw[IntWalk.i64_in _ (by omega)];omega
  simp only[vx,T,seval,cF];refine⟨fun h2=>Lg ?_,fun h2=>Lg ?_⟩
  ·simp only[vx,T,seval,cF,w3,w4,w5,AV,AT,AW,AU,AP];refine⟨by omega,by omega,Cg (mq (xs.getD c default) (xs.getD a default) (hx.get c) (hx.get a)) ?_⟩;simp only[vx,T,seval,cF];refine⟨fun h3=>Lg ?_,fun h3=>Lg ?_⟩
   ·simp only[vx,T,seval,cF];simp only[w6];refine Lq ⟨(c+1,j),by simp only;omega,by simp only;omega,hj,fun h h4 h5=>lZ (bu.IZ mD hR h4 (show h≤c by simp only at h5;omega) (by omega)) (tN h3),hhi⟩ ?_ ?_
    ·refine Sa ?_;simp only[ry,seval,rz,cF]
    simp only;omega
   simp only[vx,T,seval,cF];refine Lq ⟨(i,c),hi,by simp only;omega,by simp only;omega,hlo,fun h h4 h5=>lZ (tU h3) (bu.IZ mD hR (show m≤c by omega) (show c≤h by simp only at h4;omega) h5)⟩ ?_ ?_
   ·refine Sa ?_;simp only[ry,seval,rz,cF]
   simp only;omega
  have hij2:i=j:=by omega
  subst hij2;have i1:IntKind.i64.wrap ((i:Int)-1)=((i-1:Nat):Int):=by rw[IntWalk.i64_in _ (by omega)];omega
  have ma:m=a+1:=by omega
  subst ma;simp only[vx,T,seval,cF];refine Lk (fun y:{y:Nat×List ao//a≤y.1∧y.1≤i-1∧Out xs y.2 a b∧∀j,y.2.getD j default=fB xs a (a+1) (y.1+1) j}=>⟨[(0,.one (.own 0 5 0 N)),(1,.one (.int .i64 a)),(2,.one (.int .i64 (a+1:Nat))),(3,.one (.int .i64 b)),(4,.one cF),(10,.one (.int .i64 i)),(13,.one (.int .i64 y.1.1))],[(0,⟨.rows 68 5 N (fR y.1.2),true⟩)],1,220⟩) (fun y=>i-y.1.1) ⟨(a,xs),Nat.le_refl _,by simp only;omega,.refl _ _ _,fun k=>(kF (.inr rfl) (by omega) (by omega) k).symm⟩ ?_ (fun⟨⟨k,ys⟩,hk1,hk2,ho,hr⟩=>?_)
  ·refine Sa ?_;simp only[ry,seval,rz,cF]
  simp only at hk1 hk2 ho hr;have hyl:=ho.1;have k1:IntKind.i64.wrap ((k:Int)+1)=((k+1:Nat):Int):=by rw[IntWalk.i64_in _ (by omega)];omega
  simp only[vx,T,seval,cF,i1];refine⟨fun h3=>Lg ?_,fun h3=>Lg ?_⟩
  ·simp only[vx,T,seval,cF,k1,AV,AT,AW,AU,AP];refine⟨by omega,by omega,by omega,by omega,by omega,Lq ⟨(k+1,swp ys k (k+1)),by simp only;omega,by simp only;omega,ho.swp (by omega) (by omega) (by omega) (by omega) (by omega),MD hr hk1 (by omega)⟩ ?_ ?_⟩
   ·refine Sa ?_;simp only[ry,seval,rz,cF];rw[←hN,←hyl];exact pj (by omega) (by omega)
   simp only;omega
  have hk3:k=i-1:=by omega
  rw[hk3,show i-1+1=i by omega]at hr;simp only[vx,T,seval,cF];exact⟨ys,rfl,rfl,ho,OS mD hR hi hj hlo hhi hr⟩
 simp only[vx,T,seval,cF,w2];refine⟨fun h2=>Lg ?_,fun h2=>Lg ?_⟩
 ·have hb1:b=m+1:=by omega
  subst hb1;simp only[vx,T,seval,cF];refine Lk (fun y:{y:Nat×Nat//a≤y.1∧y.1≤y.2∧y.2≤m∧(∀h,a≤h→h<y.1→dF (xs.getD h default) (xs.getD m default))∧∀h,y.2≤h→h<m→dF (xs.getD m default) (xs.getD h default)}=>⟨[(0,.one (.own 0 5 0 N)),(1,.one (.int .i64 a)),(2,.one (.int .i64 m)),(3,.one (.int .i64 (m+1:Nat))),(4,.one cF),(14,.one (.int .i64 y.1.1)),(15,.one (.int .i64 y.1.2))],[(0,⟨.rows 68 5 N (fR xs),true⟩)],1,220⟩) (fun y=>y.1.2-y.1.1) ⟨(a,m),Nat.le_refl _,by simp only;omega,Nat.le_refl _,fun h h1 h2=>by simp only at h2;omega,fun h h1 h2=>by simp only at h1;omega⟩ ?_ (fun⟨⟨i,j⟩,hi,hij,hj,hlo,hhi⟩=>?_)
  ·refine Sa ?_;simp only[ry,seval,rz,cF]
  simp only at hi hij hj hlo hhi;obtain⟨c,hc⟩:∃c,c=(i+j)/2:=⟨_,rfl⟩;have w3:IntKind.i64.wrap ((i:Int)+j)=((i+j:Nat):Int):=by rw[IntWalk.i64_in _ (by omega)];omega
  have w4:IntKind.u64.wrap ((i+j:Nat):Int)=((i+j:Nat):Int):=IntWalk.u64_in _ (by omega);have w5:=ti _ _ hc (by omega);have w6:IntKind.i64.wrap ((c:Int)+1)=((c+1:Nat):Int):=by rw[IntWalk.i64_in _ (by omega)];omega
  simp only[vx,T,seval,cF];refine⟨fun h2=>Lg ?_,fun h2=>Lg ?_⟩
  ·simp only[vx,T,seval,cF,w3,w4,w5,AV,AT,AW,AU,AP];refine⟨by omega,by omega,Cg (mq (xs.getD m default) (xs.getD c default) (hx.get m) (hx.get c)) ?_⟩;simp only[vx,T,seval,cF];refine⟨fun h3=>Lg ?_,fun h3=>Lg ?_⟩
   ·have h3:¬cI (xs.getD m default).2 (xs.getD c default).2<0:=by simpa using h3
    simp only[vx,T,seval,cF];simp only[w6];refine Lq ⟨(c+1,j),by simp only;omega,by simp only;omega,hj,fun h h4 h5=>lZ (bu.IZ mD hL h4 (show h≤c by simp only at h5;omega) (by omega)) (tU h3),hhi⟩ ?_ ?_
    ·refine Sa ?_;simp only[ry,seval,rz,cF]
    simp only;omega
   have h3:cI (xs.getD m default).2 (xs.getD c default).2<0:=by simpa using h3
   simp only[vx,T,seval,cF];refine Lq ⟨(i,c),hi,by simp only;omega,by simp only;omega,hlo,fun h h4 h5=>lZ (tN h3) (bu.IZ mD hL (show a≤c by omega) (show c≤h by simp only at h4;omega) h5)⟩ ?_ ?_
   ·refine Sa ?_;simp only[ry,seval,rz,cF]
   simp only;omega
  have hij2:i=j:=by omega
  subst hij2;simp only[vx,T,seval,cF];refine Lk (fun y:{y:Nat×List ao//i≤y.1∧y.1≤m∧Out xs y.2 a (m+1)∧∀j,y.2.getD j default=fB xs y.1 m (m+1) j}=>⟨[(0,.one (.own 0 5 0 N)),(1,.one (.int .i64 a)),(2,.one (.int .i64 m)),(3,.one (.int .i64 (m+1:Nat))),(4,.one cF),(14,.one (.int .i64 i)),(17,.one (.int .i64 y.1.1))],[(0,⟨.rows 68 5 N (fR y.1.2),true⟩)],1,220⟩) (fun y=>y.1.1) ⟨(m,xs),hj,Nat.le_refl _,.refl _ _ _,fun k=>(kF (.inl rfl) (Nat.le_refl _) (by omega) k).symm⟩ ?_ (fun⟨⟨k,ys⟩,hk1,hk2,ho,hr⟩=>?_)
  ·refine Sa ?_;simp only[ry,seval,rz,cF]
  simp only at hk1 hk2 ho hr;have hyl:=ho.1;simp only[vx,T,seval,cF];refine⟨fun h3=>Lg ?_,fun h3=>Lg ?_⟩
  ·have k1:IntKind.i64.wrap ((k:Int)-1)=((k-1:Nat):Int):=by rw[IntWalk.i64_in _ (by omega)];omega
   simp only[vx,T,seval,cF,k1,AV,AT,AW,AU,AP];refine⟨by omega,by omega,by omega,by omega,by omega,Lq ⟨(k-1,swp ys k (k-1)),by simp only;omega,by simp only;omega,ho.swp (by omega) (by omega) (by omega) (by omega) (by omega),F2 hr (by omega) hk2 (by omega)⟩ ?_ ?_⟩
   ·refine Sa ?_;simp only[ry,seval,rz,cF];rw[←hN,←hyl];exact pj (by omega) (by omega)
   simp only;omega
  have hk3:k=i:=by omega
  subst hk3;simp only[vx,T,seval,cF];exact⟨ys,rfl,rfl,ho,Pj mD hL hi hj hlo hhi hr⟩
 obtain⟨bh,hmid⟩:∃c,c=(a+b)/2:=⟨_,rfl⟩;have w3:IntKind.i64.wrap ((a:Int)+b)=((a+b:Nat):Int):=by rw[IntWalk.i64_in _ (by omega)];omega
 have w4:IntKind.u64.wrap ((a+b:Nat):Int)=((a+b:Nat):Int):=IntWalk.u64_in _ (by omega);have w5:=ti _ _ hmid (by omega);have w6:IntKind.i64.wrap ((bh:Int)+m)=((bh+m:Nat):Int):=by rw[IntWalk.i64_in _ (by omega)];omega
 have w7:IntKind.i64.wrap (((bh+m:Nat):Int)-1)=((bh+m-1:Nat):Int):=by rw[IntWalk.i64_in _ (by omega)];omega
 simp only[vx,T,seval,cF,w3,w4,w5,w6,w7];refine⟨fun h3=>Lg ?_,fun h3=>Lg ?_⟩
 ·have w8:IntKind.i64.wrap (((bh+m:Nat):Int)-b)=((bh+m-b:Nat):Int):=by rw[IntWalk.i64_in _ (by omega)];omega
  simp only[vx,T,seval,cF,w6,w7,w8];refine Lk (fun y:{y:Nat×Nat//(bh+m-b)≤y.1∧y.1≤y.2∧y.2≤(bh)∧(y.1=(bh+m-b)∨dF (xs.getD (y.1-1) default) (xs.getD (bh+m-y.1) default))∧(y.2=(bh)∨dF (xs.getD (bh+m-1-y.2) default) (xs.getD y.2 default))}=>⟨[(0,.one (.own 0 5 0 N)),(1,.one (.int .i64 a)),(2,.one (.int .i64 m)),(3,.one (.int .i64 b)),(4,.one cF),(18,.one (.int .i64 bh)),(19,.one (.int .i64 (bh+m:Nat))),(20,.one (.int .i64 y.1.1)),(21,.one (.int .i64 y.1.2)),(22,.one (.int .i64 (bh+m-1:Nat)))],[(0,⟨.rows 68 5 N (fR xs),true⟩)],1,220⟩) (fun y=>y.1.2-y.1.1) ⟨((bh+m-b),(bh)),Nat.le_refl _,by simp only;omega,Nat.le_refl _,.inl rfl,.inl rfl⟩ ?_ (fun⟨⟨s,r⟩,hs1,hsr,hr1,c1,c2⟩=>?_)
  ·refine Sa ?_;simp only[ry,seval,rz,cF]
  simp only at hs1 hsr hr1 c1 c2;simp only[vx,T,seval,cF];refine⟨fun h4=>Lg ?_,fun h4=>Lg ?_⟩
  ·obtain⟨c,hc⟩:∃c,c=(s+r)/2:=⟨_,rfl⟩;have v3:IntKind.i64.wrap ((s:Int)+r)=((s+r:Nat):Int):=by rw[IntWalk.i64_in _ (by omega)];omega
   have v4:IntKind.u64.wrap ((s+r:Nat):Int)=((s+r:Nat):Int):=IntWalk.u64_in _ (by omega);have v5:=ti _ _ hc (by omega);have v6:IntKind.i64.wrap ((c:Int)+1)=((c+1:Nat):Int):=by rw[IntWalk.i64_in _ (by omega)];omega
   have v7:IntKind.i64.wrap (((bh+m-1:Nat):Int)-c)=((bh+m-1-c:Nat):Int):=by rw[IntWalk.i64_in _ (by omega)];omega
   simp only[vx,T,seval,cF,v3,v4,v5,v7,AV,AT,AW,AU,AP];refine⟨by omega,by omega,Cg (mq (xs.getD (bh+m-1-c) default) (xs.getD c default) (hx.get _) (hx.get c)) ?_⟩;simp only[vx,T,seval,cF];refine⟨fun h5=>Lg ?_,fun h5=>Lg ?_⟩
   ·have h5:¬cI (xs.getD (bh+m-1-c) default).2 (xs.getD c default).2<0:=by simpa using h5
    simp only[vx,T,seval,cF];simp only[v6];refine Lq ⟨(c+1,r),by simp only;omega,by simp only;omega,hr1,.inr ?_,c2⟩ ?_ ?_
    ·simp only;rw[show c+1-1=c by omega,show bh+m-(c+1)=bh+m-1-c by omega];exact tU h5
    ·refine Sa ?_;simp only[ry,seval,rz,cF]
    simp only;omega
   have h5:cI (xs.getD (bh+m-1-c) default).2 (xs.getD c default).2<0:=by simpa using h5
   simp only[vx,T,seval,cF];refine Lq ⟨(s,c),hs1,by simp only;omega,by simp only;omega,c1,.inr (tN h5)⟩ ?_ ?_
   ·refine Sa ?_;simp only[ry,seval,rz,cF]
   simp only;omega
  have hsr2:s=r:=by omega
  subst hsr2;obtain⟨e,he⟩:∃e,e=bh+m-s:=⟨_,rfl⟩;have v8:IntKind.i64.wrap (((bh+m:Nat):Int)-s)=(e:Int):=by rw[IntWalk.i64_in _ (by omega)];omega
  have c1':s=a∨e=b∨dF (xs.getD (s-1) default) (xs.getD e default):=by
   rcases c1 with c1|c1
   ·omega
   rw[he];exact .inr (.inr c1)
  have c2':s=m∨e=m∨dF (xs.getD (e-1) default) (xs.getD s default):=by
   rcases c2 with c2|c2
   ·omega
   rw[show e-1=bh+m-1-s by omega];exact .inr (.inr c2)
  have sl:=fun zs hz=>Dn (zs:=zs) mD (fun h1 h2=>lZ h1 h2) hL hR (show a≤s by omega) (show s≤m by omega) (show m≤e by omega) (show e≤b by omega) (show s+e=bh+m by omega) (show s≤bh by omega) c1' c2' hz;simp only[vx,T,seval,cF,v8];refine⟨fun g1=>Lg ?_,fun g1=>Lg ?_⟩
  ·simp only[vx,T,seval,cF];refine⟨fun g2=>Lg ?_,fun g2=>Lg ?_⟩
   ·simp only[vx,T,seval,cF];refine Cm 0 rfl trivial (y9 xs hN s m e (by omega) (by omega) (by omega) hl) ?_;rintro _ _ ⟨zs,rfl,rfl,ho,hz⟩ _;have ho:=ho.mono (show a≤s by omega) (show e≤b by omega);obtain⟨s1,s2,s3,s4,s5⟩:=sl zs hz;simp only[vx,T,seval,cF];refine⟨fun g3=>Lg ?_,fun g3=>Lg ?_⟩
    ·simp only[vx,T,seval,cF];refine⟨fun g4=>Lg ?_,fun g4=>Lg ?_⟩
     ·simp only[vx,T,seval,cF];refine Cm 0 rfl trivial (ih zs ((ho:Out xs zs a b).1.trans hN) a s bh (by omega) (by omega) (by omega) hl (by omega) (hx.perm (ho:Out xs zs a b).2.1) s1 s2) ?_;rintro _ _ ⟨ys,rfl,rfl,ho2,t1⟩ _;simp only[vx,T,seval,cF];have p1:Out zs ys a bh:=ho2;have p0:Out xs zs a b:=ho;have pl:zs.length=N:=p0.1.trans hN;have q3:=s3.out p1 (.inr (Nat.le_refl _));have q4:=s4.out p1 (.inr (by omega));have q5:=aI s5 (show b≤zs.length by omega) (by omega) (by omega) (.inl p1);have q6:=p0.trans (p1.mono (Nat.le_refl _) (by omega));refine⟨fun g5=>Lg ?_,fun g5=>Lg ?_⟩
      ·simp only[vx,T,seval,cF];refine⟨fun g6=>Lg ?_,fun g6=>Lg ?_⟩
       ·simp only[vx,T,seval,cF];refine Cm 0 rfl trivial (ih ys (p1.1.trans pl) bh e b (by omega) (by omega) (by omega) hl (by omega) (hx.perm q6.2.1) q3 q4) ?_;rintro _ _ ⟨ws,rfl,rfl,ho3,t2⟩ _;simp only[vx,T,seval,cF];exact⟨ws,rfl,rfl,q6.trans (ho3.mono (by omega) (Nat.le_refl _)),bu.join (t1.out ho3 (.inl (Nat.le_refl _))) t2 (aI q5 (by rw[p1.1,pl];exact hb) (by omega) (by omega) (.inr ho3))⟩
       simp only[vx,T,seval,cF];have e1:e=b:=by omega
       have t2:bu dF ys bh b:=by rw[←e1];exact q3
       exact⟨ys,rfl,rfl,q6,bu.join t1 t2 q5⟩
      simp only[vx,T,seval,cF];have e1:bh=e:=by omega
      have t2:bu dF ys bh b:=by rw[e1];exact q4
      exact⟨ys,rfl,rfl,q6,bu.join t1 t2 q5⟩
     simp only[vx,T,seval,cF];have e1:s=bh:=by omega
     have t1:bu dF zs a bh:=by rw[←e1];exact s1
     have p1:Out zs zs a bh:=Out.refl _ _ _;have p0:Out xs zs a b:=ho;have pl:zs.length=N:=p0.1.trans hN;have q3:=s3.out p1 (.inr (Nat.le_refl _));have q4:=s4.out p1 (.inr (by omega));have q5:=aI s5 (show b≤zs.length by omega) (by omega) (by omega) (.inl p1);have q6:=p0.trans (p1.mono (Nat.le_refl _) (by omega));refine⟨fun g5=>Lg ?_,fun g5=>Lg ?_⟩
     ·simp only[vx,T,seval,cF];refine⟨fun g6=>Lg ?_,fun g6=>Lg ?_⟩
      ·simp only[vx,T,seval,cF];refine Cm 0 rfl trivial (ih zs (p1.1.trans pl) bh e b (by omega) (by omega) (by omega) hl (by omega) (hx.perm q6.2.1) q3 q4) ?_;rintro _ _ ⟨ws,rfl,rfl,ho3,t2⟩ _;simp only[vx,T,seval,cF];exact⟨ws,rfl,rfl,q6.trans (ho3.mono (by omega) (Nat.le_refl _)),bu.join (t1.out ho3 (.inl (Nat.le_refl _))) t2 (aI q5 (by rw[p1.1,pl];exact hb) (by omega) (by omega) (.inr ho3))⟩
      simp only[vx,T,seval,cF];have e1:e=b:=by omega
      have t2:bu dF zs bh b:=by rw[←e1];exact q3
      exact⟨zs,rfl,rfl,q6,bu.join t1 t2 q5⟩
     simp only[vx,T,seval,cF];have e1:bh=e:=by omega
     have t2:bu dF zs bh b:=by rw[e1];exact q4
     exact⟨zs,rfl,rfl,q6,bu.join t1 t2 q5⟩
    simp only[vx,T,seval,cF];have e1:a=s:=by omega
    have t1:bu dF zs a bh:=by rw[e1];exact s2
    have p1:Out zs zs a bh:=Out.refl _ _ _;have p0:Out xs zs a b:=ho;have pl:zs.length=N:=p0.1.trans hN;have q3:=s3.out p1 (.inr (Nat.le_refl _));have q4:=s4.out p1 (.inr (by omega));have q5:=aI s5 (show b≤zs.length by omega) (by omega) (by omega) (.inl p1);have q6:=p0.trans (p1.mono (Nat.le_refl _) (by omega));refine⟨fun g5=>Lg ?_,fun g5=>Lg ?_⟩
    ·simp only[vx,T,seval,cF];refine⟨fun g6=>Lg ?_,fun g6=>Lg ?_⟩
     ·simp only[vx,T,seval,cF];refine Cm 0 rfl trivial (ih zs (p1.1.trans pl) bh e b (by omega) (by omega) (by omega) hl (by omega) (hx.perm q6.2.1) q3 q4) ?_;rintro _ _ ⟨ws,rfl,rfl,ho3,t2⟩ _;simp only[vx,T,seval,cF];exact⟨ws,rfl,rfl,q6.trans (ho3.mono (by omega) (Nat.le_refl _)),bu.join (t1.out ho3 (.inl (Nat.le_refl _))) t2 (aI q5 (by rw[p1.1,pl];exact hb) (by omega) (by omega) (.inr ho3))⟩
     simp only[vx,T,seval,cF];have e1:e=b:=by omega
     have t2:bu dF zs bh b:=by rw[←e1];exact q3
     exact⟨zs,rfl,rfl,q6,bu.join t1 t2 q5⟩
    simp only[vx,T,seval,cF];have e1:bh=e:=by omega
    have t2:bu dF zs bh b:=by rw[e1];exact q4
    exact⟨zs,rfl,rfl,q6,bu.join t1 t2 q5⟩
   simp only[vx,T,seval,cF];obtain⟨s1,s2,s3,s4,s5⟩:=sl xs (fun k=>(kF (.inr (by omega)) (by omega) (by omega) k).symm);refine⟨fun g3=>Lg ?_,fun g3=>Lg ?_⟩
   ·simp only[vx,T,seval,cF];refine⟨fun g4=>Lg ?_,fun g4=>Lg ?_⟩
    ·simp only[vx,T,seval,cF];refine Cm 0 rfl trivial (ih xs ((Out.refl _ _ _:Out xs xs a b).1.trans hN) a s bh (by omega) (by omega) (by omega) hl (by omega) (hx.perm (Out.refl _ _ _:Out xs xs a b).2.1) s1 s2) ?_;rintro _ _ ⟨ys,rfl,rfl,ho2,t1⟩ _;simp only[vx,T,seval,cF];have p1:Out xs ys a bh:=ho2;have p0:Out xs xs a b:=Out.refl _ _ _;have pl:xs.length=N:=p0.1.trans hN;have q3:=s3.out p1 (.inr (Nat.le_refl _));have q4:=s4.out p1 (.inr (by omega));have q5:=aI s5 (show b≤xs.length by omega) (by omega) (by omega) (.inl p1);have q6:=p0.trans (p1.mono (Nat.le_refl _) (by omega));refine⟨fun g5=>Lg ?_,fun g5=>Lg ?_⟩
     ·simp only[vx,T,seval,cF];refine⟨fun g6=>Lg ?_,fun g6=>Lg ?_⟩
      ·simp only[vx,T,seval,cF];refine Cm 0 rfl trivial (ih ys (p1.1.trans pl) bh e b (by omega) (by omega) (by omega) hl (by omega) (hx.perm q6.2.1) q3 q4) ?_;rintro _ _ ⟨ws,rfl,rfl,ho3,t2⟩ _;simp only[vx,T,seval,cF];exact⟨ws,rfl,rfl,q6.trans (ho3.mono (by omega) (Nat.le_refl _)),bu.join (t1.out ho3 (.inl (Nat.le_refl _))) t2 (aI q5 (by rw[p1.1,pl];exact hb) (by omega) (by omega) (.inr ho3))⟩
      simp only[vx,T,seval,cF];have e1:e=b:=by omega
      have t2:bu dF ys bh b:=by rw[←e1];exact q3
      exact⟨ys,rfl,rfl,q6,bu.join t1 t2 q5⟩
     simp only[vx,T,seval,cF];have e1:bh=e:=by omega
     have t2:bu dF ys bh b:=by rw[e1];exact q4
     exact⟨ys,rfl,rfl,q6,bu.join t1 t2 q5⟩
    simp only[vx,T,seval,cF];have e1:s=bh:=by omega
    have t1:bu dF xs a bh:=by rw[←e1];exact s1
    have p1:Out xs xs a bh:=Out.refl _ _ _;have p0:Out xs xs a b:=Out.refl _ _ _;have pl:xs.length=N:=p0.1.trans hN;have q3:=s3.out p1 (.inr (Nat.le_refl _));have q4:=s4.out p1 (.inr (by omega));have q5:=aI s5 (show b≤xs.length by omega) (by omega) (by omega) (.inl p1);have q6:=p0.trans (p1.mono (Nat.le_refl _) (by omega));refine⟨fun g5=>Lg ?_,fun g5=>Lg ?_⟩
    ·simp only[vx,T,seval,cF];refine⟨fun g6=>Lg ?_,fun g6=>Lg ?_⟩
     ·simp only[vx,T,seval,cF];refine Cm 0 rfl trivial (ih xs (p1.1.trans pl) bh e b (by omega) (by omega) (by omega) hl (by omega) (hx.perm q6.2.1) q3 q4) ?_;rintro _ _ ⟨ws,rfl,rfl,ho3,t2⟩ _;simp only[vx,T,seval,cF];exact⟨ws,rfl,rfl,q6.trans (ho3.mono (by omega) (Nat.le_refl _)),bu.join (t1.out ho3 (.inl (Nat.le_refl _))) t2 (aI q5 (by rw[p1.1,pl];exact hb) (by omega) (by omega) (.inr ho3))⟩
     simp only[vx,T,seval,cF];have e1:e=b:=by omega
     have t2:bu dF xs bh b:=by rw[←e1];exact q3
     exact⟨xs,rfl,rfl,q6,bu.join t1 t2 q5⟩
    simp only[vx,T,seval,cF];have e1:bh=e:=by omega
    have t2:bu dF xs bh b:=by rw[e1];exact q4
    exact⟨xs,rfl,rfl,q6,bu.join t1 t2 q5⟩
   simp only[vx,T,seval,cF];have e1:a=s:=by omega
   have t1:bu dF xs a bh:=by rw[e1];exact s2
   have p1:Out xs xs a bh:=Out.refl _ _ _;have p0:Out xs xs a b:=Out.refl _ _ _;have pl:xs.length=N:=p0.1.trans hN;have q3:=s3.out p1 (.inr (Nat.le_refl _));have q4:=s4.out p1 (.inr (by omega));have q5:=aI s5 (show b≤xs.length by omega) (by omega) (by omega) (.inl p1);have q6:=p0.trans (p1.mono (Nat.le_refl _) (by omega));refine⟨fun g5=>Lg ?_,fun g5=>Lg ?_⟩
   ·simp only[vx,T,seval,cF];refine⟨fun g6=>Lg ?_,fun g6=>Lg ?_⟩
    ·simp only[vx,T,seval,cF];refine Cm 0 rfl trivial (ih xs (p1.1.trans pl) bh e b (by omega) (by omega) (by omega) hl (by omega) (hx.perm q6.2.1) q3 q4) ?_;rintro _ _ ⟨ws,rfl,rfl,ho3,t2⟩ _;simp only[vx,T,seval,cF];exact⟨ws,rfl,rfl,q6.trans (ho3.mono (by omega) (Nat.le_refl _)),bu.join (t1.out ho3 (.inl (Nat.le_refl _))) t2 (aI q5 (by rw[p1.1,pl];exact hb) (by omega) (by omega) (.inr ho3))⟩
    simp only[vx,T,seval,cF];have e1:e=b:=by omega
    have t2:bu dF xs bh b:=by rw[←e1];exact q3
    exact⟨xs,rfl,rfl,q6,bu.join t1 t2 q5⟩
   simp only[vx,T,seval,cF];have e1:bh=e:=by omega
   have t2:bu dF xs bh b:=by rw[e1];exact q4
   exact⟨xs,rfl,rfl,q6,bu.join t1 t2 q5⟩
  simp only[vx,T,seval,cF];obtain⟨s1,s2,s3,s4,s5⟩:=sl xs (fun k=>(kF (.inl (by omega)) (by omega) (by omega) k).symm);refine⟨fun g3=>Lg ?_,fun g3=>Lg ?_⟩
  ·simp only[vx,T,seval,cF];refine⟨fun g4=>Lg ?_,fun g4=>Lg ?_⟩
   ·simp only[vx,T,seval,cF];refine Cm 0 rfl trivial (ih xs ((Out.refl _ _ _:Out xs xs a b).1.trans hN) a s bh (by omega) (by omega) (by omega) hl (by omega) (hx.perm (Out.refl _ _ _:Out xs xs a b).2.1) s1 s2) ?_;rintro _ _ ⟨ys,rfl,rfl,ho2,t1⟩ _;simp only[vx,T,seval,cF];have p1:Out xs ys a bh:=ho2;have p0:Out xs xs a b:=Out.refl _ _ _;have pl:xs.length=N:=p0.1.trans hN;have q3:=s3.out p1 (.inr (Nat.le_refl _));have q4:=s4.out p1 (.inr (by omega));have q5:=aI s5 (show b≤xs.length by omega) (by omega) (by omega) (.inl p1);have q6:=p0.trans (p1.mono (Nat.le_refl _) (by omega));refine⟨fun g5=>Lg ?_,fun g5=>Lg ?_⟩
    ·simp only[vx,T,seval,cF];refine⟨fun g6=>Lg ?_,fun g6=>Lg ?_⟩
     ·simp only[vx,T,seval,cF];refine Cm 0 rfl trivial (ih ys (p1.1.trans pl) bh e b (by omega) (by omega) (by omega) hl (by omega) (hx.perm q6.2.1) q3 q4) ?_;rintro _ _ ⟨ws,rfl,rfl,ho3,t2⟩ _;simp only[vx,T,seval,cF];exact⟨ws,rfl,rfl,q6.trans (ho3.mono (by omega) (Nat.le_refl _)),bu.join (t1.out ho3 (.inl (Nat.le_refl _))) t2 (aI q5 (by rw[p1.1,pl];exact hb) (by omega) (by omega) (.inr ho3))⟩
     simp only[vx,T,seval,cF];have e1:e=b:=by omega
     have t2:bu dF ys bh b:=by rw[←e1];exact q3
     exact⟨ys,rfl,rfl,q6,bu.join t1 t2 q5⟩
    simp only[vx,T,seval,cF];have e1:bh=e:=by omega
    have t2:bu dF ys bh b:=by rw[e1];exact q4
    exact⟨ys,rfl,rfl,q6,bu.join t1 t2 q5⟩
   simp only[vx,T,seval,cF];have e1:s=bh:=by omega
   have t1:bu dF xs a bh:=by rw[←e1];exact s1
   have p1:Out xs xs a bh:=Out.refl _ _ _;have p0:Out xs xs a b:=Out.refl _ _ _;have pl:xs.length=N:=p0.1.trans hN;have q3:=s3.out p1 (.inr (Nat.le_refl _));have q4:=s4.out p1 (.inr (by omega));have q5:=aI s5 (show b≤xs.length by omega) (by omega) (by omega) (.inl p1);have q6:=p0.trans (p1.mono (Nat.le_refl _) (by omega));refine⟨fun g5=>Lg ?_,fun g5=>Lg ?_⟩
   ·simp only[vx,T,seval,cF];refine⟨fun g6=>Lg ?_,fun g6=>Lg ?_⟩
    ·simp only[vx,T,seval,cF];refine Cm 0 rfl trivial (ih xs (p1.1.trans pl) bh e b (by omega) (by omega) (by omega) hl (by omega) (hx.perm q6.2.1) q3 q4) ?_;rintro _ _ ⟨ws,rfl,rfl,ho3,t2⟩ _;simp only[vx,T,seval,cF];exact⟨ws,rfl,rfl,q6.trans (ho3.mono (by omega) (Nat.le_refl _)),bu.join (t1.out ho3 (.inl (Nat.le_refl _))) t2 (aI q5 (by rw[p1.1,pl];exact hb) (by omega) (by omega) (.inr ho3))⟩
    simp only[vx,T,seval,cF];have e1:e=b:=by omega
    have t2:bu dF xs bh b:=by rw[←e1];exact q3
    exact⟨xs,rfl,rfl,q6,bu.join t1 t2 q5⟩
   simp only[vx,T,seval,cF];have e1:bh=e:=by omega
   have t2:bu dF xs bh b:=by rw[e1];exact q4
   exact⟨xs,rfl,rfl,q6,bu.join t1 t2 q5⟩
  simp only[vx,T,seval,cF];have e1:a=s:=by omega
  have t1:bu dF xs a bh:=by rw[e1];exact s2
  have p1:Out xs xs a bh:=Out.refl _ _ _;have p0:Out xs xs a b:=Out.refl _ _ _;have pl:xs.length=N:=p0.1.trans hN;have q3:=s3.out p1 (.inr (Nat.le_refl _));have q4:=s4.out p1 (.inr (by omega));have q5:=aI s5 (show b≤xs.length by omega) (by omega) (by omega) (.inl p1);have q6:=p0.trans (p1.mono (Nat.le_refl _) (by omega));refine⟨fun g5=>Lg ?_,fun g5=>Lg ?_⟩
  ·simp only[vx,T,seval,cF];refine⟨fun g6=>Lg ?_,fun g6=>Lg ?_⟩
   ·simp only[vx,T,seval,cF];refine Cm 0 rfl trivial (ih xs (p1.1.trans pl) bh e b (by omega) (by omega) (by omega) hl (by omega) (hx.perm q6.2.1) q3 q4) ?_;rintro _ _ ⟨ws,rfl,rfl,ho3,t2⟩ _;simp only[vx,T,seval,cF];exact⟨ws,rfl,rfl,q6.trans (ho3.mono (by omega) (Nat.le_refl _)),bu.join (t1.out ho3 (.inl (Nat.le_refl _))) t2 (aI q5 (by rw[p1.1,pl];exact hb) (by omega) (by omega) (.inr ho3))⟩
   simp only[vx,T,seval,cF];have e1:e=b:=by omega
   have t2:bu dF xs bh b:=by rw[←e1];exact q3
   exact⟨xs,rfl,rfl,q6,bu.join t1 t2 q5⟩
  simp only[vx,T,seval,cF];have e1:bh=e:=by omega
  have t2:bu dF xs bh b:=by rw[e1];exact q4
  exact⟨xs,rfl,rfl,q6,bu.join t1 t2 q5⟩
 simp only[vx,T,seval,cF,w6,w7];refine Lk (fun y:{y:Nat×Nat//(a)≤y.1∧y.1≤y.2∧y.2≤(m)∧(y.1=(a)∨dF (xs.getD (y.1-1) default) (xs.getD (bh+m-y.1) default))∧(y.2=(m)∨dF (xs.getD (bh+m-1-y.2) default) (xs.getD y.2 default))}=>⟨[(0,.one (.own 0 5 0 N)),(1,.one (.int .i64 a)),(2,.one (.int .i64 m)),(3,.one (.int .i64 b)),(4,.one cF),(18,.one (.int .i64 bh)),(19,.one (.int .i64 (bh+m:Nat))),(20,.one (.int .i64 y.1.1)),(21,.one (.int .i64 y.1.2)),(22,.one (.int .i64 (bh+m-1:Nat)))],[(0,⟨.rows 68 5 N (fR xs),true⟩)],1,220⟩) (fun y=>y.1.2-y.1.1) ⟨((a),(m)),Nat.le_refl _,by simp only;omega,Nat.le_refl _,.inl rfl,.inl rfl⟩ ?_ (fun⟨⟨s,r⟩,hs1,hsr,hr1,c1,c2⟩=>?_)
 ·refine Sa ?_;simp only[ry,seval,rz,cF]
 simp only at hs1 hsr hr1 c1 c2;simp only[vx,T,seval,cF];refine⟨fun h4=>Lg ?_,fun h4=>Lg ?_⟩
 ·obtain⟨c,hc⟩:∃c,c=(s+r)/2:=⟨_,rfl⟩;have v3:IntKind.i64.wrap ((s:Int)+r)=((s+r:Nat):Int):=by rw[IntWalk.i64_in _ (by omega)];omega
  have v4:IntKind.u64.wrap ((s+r:Nat):Int)=((s+r:Nat):Int):=IntWalk.u64_in _ (by omega);have v5:=ti _ _ hc (by omega);have v6:IntKind.i64.wrap ((c:Int)+1)=((c+1:Nat):Int):=by rw[IntWalk.i64_in _ (by omega)];omega
  have v7:IntKind.i64.wrap (((bh+m-1:Nat):Int)-c)=((bh+m-1-c:Nat):Int):=by rw[IntWalk.i64_in _ (by omega)];omega
  simp only[vx,T,seval,cF,v3,v4,v5,v7,AV,AT,AW,AU,AP];refine⟨by omega,by omega,Cg (mq (xs.getD (bh+m-1-c) default) (xs.getD c default) (hx.get _) (hx.get c)) ?_⟩;simp only[vx,T,seval,cF];refine⟨fun h5=>Lg ?_,fun h5=>Lg ?_⟩
  ·have h5:¬cI (xs.getD (bh+m-1-c) default).2 (xs.getD c default).2<0:=by simpa using h5
   simp only[vx,T,seval,cF];simp only[v6];refine Lq ⟨(c+1,r),by simp only;omega,by simp only;omega,hr1,.inr ?_,c2⟩ ?_ ?_
   ·simp only;rw[show c+1-1=c by omega,show bh+m-(c+1)=bh+m-1-c by omega];exact tU h5
   ·refine Sa ?_;simp only[ry,seval,rz,cF]
   simp only;omega
  have h5:cI (xs.getD (bh+m-1-c) default).2 (xs.getD c default).2<0:=by simpa using h5
  simp only[vx,T,seval,cF];refine Lq ⟨(s,c),hs1,by simp only;omega,by simp only;omega,c1,.inr (tN h5)⟩ ?_ ?_
  ·refine Sa ?_;simp only[ry,seval,rz,cF]
  simp only;omega
 have hsr2:s=r:=by omega
 subst hsr2;obtain⟨e,he⟩:∃e,e=bh+m-s:=⟨_,rfl⟩;have v8:IntKind.i64.wrap (((bh+m:Nat):Int)-s)=(e:Int):=by rw[IntWalk.i64_in _ (by omega)];omega
 have c1':s=a∨e=b∨dF (xs.getD (s-1) default) (xs.getD e default):=by
  rcases c1 with c1|c1
  ·omega
  rw[he];exact .inr (.inr c1)
 have c2':s=m∨e=m∨dF (xs.getD (e-1) default) (xs.getD s default):=by
  rcases c2 with c2|c2
  ·omega
  rw[show e-1=bh+m-1-s by omega];exact .inr (.inr c2)
 have sl:=fun zs hz=>Dn (zs:=zs) mD (fun h1 h2=>lZ h1 h2) hL hR (show a≤s by omega) (show s≤m by omega) (show m≤e by omega) (show e≤b by omega) (show s+e=bh+m by omega) (show s≤bh by omega) c1' c2' hz;simp only[vx,T,seval,cF,v8];refine⟨fun g1=>Lg ?_,fun g1=>Lg ?_⟩
 ·simp only[vx,T,seval,cF];refine⟨fun g2=>Lg ?_,fun g2=>Lg ?_⟩
  ·simp only[vx,T,seval,cF];refine Cm 0 rfl trivial (y9 xs hN s m e (by omega) (by omega) (by omega) hl) ?_;rintro _ _ ⟨zs,rfl,rfl,ho,hz⟩ _;have ho:=ho.mono (show a≤s by omega) (show e≤b by omega);obtain⟨s1,s2,s3,s4,s5⟩:=sl zs hz;simp only[vx,T,seval,cF];refine⟨fun g3=>Lg ?_,fun g3=>Lg ?_⟩
   ·simp only[vx,T,seval,cF];refine⟨fun g4=>Lg ?_,fun g4=>Lg ?_⟩
    ·simp only[vx,T,seval,cF];refine Cm 0 rfl trivial (ih zs ((ho:Out xs zs a b).1.trans hN) a s bh (by omega) (by omega) (by omega) hl (by omega) (hx.perm (ho:Out xs zs a b).2.1) s1 s2) ?_;rintro _ _ ⟨ys,rfl,rfl,ho2,t1⟩ _;simp only[vx,T,seval,cF];have p1:Out zs ys a bh:=ho2;have p0:Out xs zs a b:=ho;have pl:zs.length=N:=p0.1.trans hN;have q3:=s3.out p1 (.inr (Nat.le_refl _));have q4:=s4.out p1 (.inr (by omega));have q5:=aI s5 (show b≤zs.length by omega) (by omega) (by omega) (.inl p1);have q6:=p0.trans (p1.mono (Nat.le_refl _) (by omega));refine⟨fun g5=>Lg ?_,fun g5=>Lg ?_⟩
     ·simp only[vx,T,seval,cF];refine⟨fun g6=>Lg ?_,fun g6=>Lg ?_⟩
      ·simp only[vx,T,seval,cF];refine Cm 0 rfl trivial (ih ys (p1.1.trans pl) bh e b (by omega) (by omega) (by omega) hl (by omega) (hx.perm q6.2.1) q3 q4) ?_;rintro _ _ ⟨ws,rfl,rfl,ho3,t2⟩ _;simp only[vx,T,seval,cF];exact⟨ws,rfl,rfl,q6.trans (ho3.mono (by omega) (Nat.le_refl _)),bu.join (t1.out ho3 (.inl (Nat.le_refl _))) t2 (aI q5 (by rw[p1.1,pl];exact hb) (by omega) (by omega) (.inr ho3))⟩
      simp only[vx,T,seval,cF];have e1:e=b:=by omega
      have t2:bu dF ys bh b:=by rw[←e1];exact q3
      exact⟨ys,rfl,rfl,q6,bu.join t1 t2 q5⟩
     simp only[vx,T,seval,cF];have e1:bh=e:=by omega
     have t2:bu dF ys bh b:=by rw[e1];exact q4
     exact⟨ys,rfl,rfl,q6,bu.join t1 t2 q5⟩
    simp only[vx,T,seval,cF];have e1:s=bh:=by omega
    have t1:bu dF zs a bh:=by rw[←e1];exact s1
    have p1:Out zs zs a bh:=Out.refl _ _ _;have p0:Out xs zs a b:=ho;have pl:zs.length=N:=p0.1.trans hN;have q3:=s3.out p1 (.inr (Nat.le_refl _));have q4:=s4.out p1 (.inr (by omega));have q5:=aI s5 (show b≤zs.length by omega) (by omega) (by omega) (.inl p1);have q6:=p0.trans (p1.mono (Nat.le_refl _) (by omega));refine⟨fun g5=>Lg ?_,fun g5=>Lg ?_⟩
    ·simp only[vx,T,seval,cF];refine⟨fun g6=>Lg ?_,fun g6=>Lg ?_⟩
     ·simp only[vx,T,seval,cF];refine Cm 0 rfl trivial (ih zs (p1.1.trans pl) bh e b (by omega) (by omega) (by omega) hl (by omega) (hx.perm q6.2.1) q3 q4) ?_;rintro _ _ ⟨ws,rfl,rfl,ho3,t2⟩ _;simp only[vx,T,seval,cF];exact⟨ws,rfl,rfl,q6.trans (ho3.mono (by omega) (Nat.le_refl _)),bu.join (t1.out ho3 (.inl (Nat.le_refl _))) t2 (aI q5 (by rw[p1.1,pl];exact hb) (by omega) (by omega) (.inr ho3))⟩
     simp only[vx,T,seval,cF];have e1:e=b:=by omega
     have t2:bu dF zs bh b:=by rw[←e1];exact q3
     exact⟨zs,rfl,rfl,q6,bu.join t1 t2 q5⟩
    simp only[vx,T,seval,cF];have e1:bh=e:=by omega
    have t2:bu dF zs bh b:=by rw[e1];exact q4
    exact⟨zs,rfl,rfl,q6,bu.join t1 t2 q5⟩
   simp only[vx,T,seval,cF];have e1:a=s:=by omega
   have t1:bu dF zs a bh:=by rw[e1];exact s2
   have p1:Out zs zs a bh:=Out.refl _ _ _;have p0:Out xs zs a b:=ho;have pl:zs.length=N:=p0.1.trans hN;have q3:=s3.out p1 (.inr (Nat.le_refl _));have q4:=s4.out p1 (.inr (by omega));have q5:=aI s5 (show b≤zs.length by omega) (by omega) (by omega) (.inl p1);have q6:=p0.trans (p1.mono (Nat.le_refl _) (by omega));refine⟨fun g5=>Lg ?_,fun g5=>Lg ?_⟩
   ·simp only[vx,T,seval,cF];refine⟨fun g6=>Lg ?_,fun g6=>Lg ?_⟩
    ·simp only[vx,T,seval,cF];refine Cm 0 rfl trivial (ih zs (p1.1.trans pl) bh e b (by omega) (by omega) (by omega) hl (by omega) (hx.perm q6.2.1) q3 q4) ?_;rintro _ _ ⟨ws,rfl,rfl,ho3,t2⟩ _;simp only[vx,T,seval,cF];exact⟨ws,rfl,rfl,q6.trans (ho3.mono (by omega) (Nat.le_refl _)),bu.join (t1.out ho3 (.inl (Nat.le_refl _))) t2 (aI q5 (by rw[p1.1,pl];exact hb) (by omega) (by omega) (.inr ho3))⟩
    simp only[vx,T,seval,cF];have e1:e=b:=by omega
    have t2:bu dF zs bh b:=by rw[←e1];exact q3
    exact⟨zs,rfl,rfl,q6,bu.join t1 t2 q5⟩
   simp only[vx,T,seval,cF];have e1:bh=e:=by omega
   have t2:bu dF zs bh b:=by rw[e1];exact q4
   exact⟨zs,rfl,rfl,q6,bu.join t1 t2 q5⟩
  simp only[vx,T,seval,cF];obtain⟨s1,s2,s3,s4,s5⟩:=sl xs (fun k=>(kF (.inr (by omega)) (by omega) (by omega) k).symm);refine⟨fun g3=>Lg ?_,fun g3=>Lg ?_⟩
  ·simp only[vx,T,seval,cF];refine⟨fun g4=>Lg ?_,fun g4=>Lg ?_⟩
   ·simp only[vx,T,seval,cF];refine Cm 0 rfl trivial (ih xs ((Out.refl _ _ _:Out xs xs a b).1.trans hN) a s bh (by omega) (by omega) (by omega) hl (by omega) (hx.perm (Out.refl _ _ _:Out xs xs a b).2.1) s1 s2) ?_;rintro _ _ ⟨ys,rfl,rfl,ho2,t1⟩ _;simp only[vx,T,seval,cF];have p1:Out xs ys a bh:=ho2;have p0:Out xs xs a b:=Out.refl _ _ _;have pl:xs.length=N:=p0.1.trans hN;have q3:=s3.out p1 (.inr (Nat.le_refl _));have q4:=s4.out p1 (.inr (by omega));have q5:=aI s5 (show b≤xs.length by omega) (by omega) (by omega) (.inl p1);have q6:=p0.trans (p1.mono (Nat.le_refl _) (by omega));refine⟨fun g5=>Lg ?_,fun g5=>Lg ?_⟩
    ·simp only[vx,T,seval,cF];refine⟨fun g6=>Lg ?_,fun g6=>Lg ?_⟩
     ·simp only[vx,T,seval,cF];refine Cm 0 rfl trivial (ih ys (p1.1.trans pl) bh e b (by omega) (by omega) (by omega) hl (by omega) (hx.perm q6.2.1) q3 q4) ?_;rintro _ _ ⟨ws,rfl,rfl,ho3,t2⟩ _;simp only[vx,T,seval,cF];exact⟨ws,rfl,rfl,q6.trans (ho3.mono (by omega) (Nat.le_refl _)),bu.join (t1.out ho3 (.inl (Nat.le_refl _))) t2 (aI q5 (by rw[p1.1,pl];exact hb) (by omega) (by omega) (.inr ho3))⟩
     simp only[vx,T,seval,cF];have e1:e=b:=by omega
     have t2:bu dF ys bh b:=by rw[←e1];exact q3
     exact⟨ys,rfl,rfl,q6,bu.join t1 t2 q5⟩
    simp only[vx,T,seval,cF];have e1:bh=e:=by omega
    have t2:bu dF ys bh b:=by rw[e1];exact q4
    exact⟨ys,rfl,rfl,q6,bu.join t1 t2 q5⟩
   simp only[vx,T,seval,cF];have e1:s=bh:=by omega
   have t1:bu dF xs a bh:=by rw[←e1];exact s1
   have p1:Out xs xs a bh:=Out.refl _ _ _;have p0:Out xs xs a b:=Out.refl _ _ _;have pl:xs.length=N:=p0.1.trans hN;have q3:=s3.out p1 (.inr (Nat.le_refl _));have q4:=s4.out p1 (.inr (by omega));have q5:=aI s5 (show b≤xs.length by omega) (by omega) (by omega) (.inl p1);have q6:=p0.trans (p1.mono (Nat.le_refl _) (by omega));refine⟨fun g5=>Lg ?_,fun g5=>Lg ?_⟩
   ·simp only[vx,T,seval,cF];refine⟨fun g6=>Lg ?_,fun g6=>Lg ?_⟩
    ·simp only[vx,T,seval,cF];refine Cm 0 rfl trivial (ih xs (p1.1.trans pl) bh e b (by omega) (by omega) (by omega) hl (by omega) (hx.perm q6.2.1) q3 q4) ?_;rintro _ _ ⟨ws,rfl,rfl,ho3,t2⟩ _;simp only[vx,T,seval,cF];exact⟨ws,rfl,rfl,q6.trans (ho3.mono (by omega) (Nat.le_refl _)),bu.join (t1.out ho3 (.inl (Nat.le_refl _))) t2 (aI q5 (by rw[p1.1,pl];exact hb) (by omega) (by omega) (.inr ho3))⟩
    simp only[vx,T,seval,cF];have e1:e=b:=by omega
    have t2:bu dF xs bh b:=by rw[←e1];exact q3
    exact⟨xs,rfl,rfl,q6,bu.join t1 t2 q5⟩
   simp only[vx,T,seval,cF];have e1:bh=e:=by omega
   have t2:bu dF xs bh b:=by rw[e1];exact q4
   exact⟨xs,rfl,rfl,q6,bu.join t1 t2 q5⟩
  simp only[vx,T,seval,cF];have e1:a=s:=by omega
  have t1:bu dF xs a bh:=by rw[e1];exact s2
  have p1:Out xs xs a bh:=Out.refl _ _ _;have p0:Out xs xs a b:=Out.refl _ _ _;have pl:xs.length=N:=p0.1.trans hN;have q3:=s3.out p1 (.inr (Nat.le_refl _));have q4:=s4.out p1 (.inr (by omega));have q5:=aI s5 (show b≤xs.length by omega) (by omega) (by omega) (.inl p1);have q6:=p0.trans (p1.mono (Nat.le_refl _) (by omega));refine⟨fun g5=>Lg ?_,fun g5=>Lg ?_⟩
  ·simp only[vx,T,seval,cF];refine⟨fun g6=>Lg ?_,fun g6=>Lg ?_⟩
   ·simp only[vx,T,seval,cF];refine Cm 0 rfl trivial (ih xs (p1.1.trans pl) bh e b (by omega) (by omega) (by omega) hl (by omega) (hx.perm q6.2.1) q3 q4) ?_;rintro _ _ ⟨ws,rfl,rfl,ho3,t2⟩ _;simp only[vx,T,seval,cF];exact⟨ws,rfl,rfl,q6.trans (ho3.mono (by omega) (Nat.le_refl _)),bu.join (t1.out ho3 (.inl (Nat.le_refl _))) t2 (aI q5 (by rw[p1.1,pl];exact hb) (by omega) (by omega) (.inr ho3))⟩
   simp only[vx,T,seval,cF];have e1:e=b:=by omega
   have t2:bu dF xs bh b:=by rw[←e1];exact q3
   exact⟨xs,rfl,rfl,q6,bu.join t1 t2 q5⟩
  simp only[vx,T,seval,cF];have e1:bh=e:=by omega
  have t2:bu dF xs bh b:=by rw[e1];exact q4
  exact⟨xs,rfl,rfl,q6,bu.join t1 t2 q5⟩
 simp only[vx,T,seval,cF];obtain⟨s1,s2,s3,s4,s5⟩:=sl xs (fun k=>(kF (.inl (by omega)) (by omega) (by omega) k).symm);refine⟨fun g3=>Lg ?_,fun g3=>Lg ?_⟩
 ·simp only[vx,T,seval,cF];refine⟨fun g4=>Lg ?_,fun g4=>Lg ?_⟩
  ·simp only[vx,T,seval,cF];refine Cm 0 rfl trivial (ih xs ((Out.refl _ _ _:Out xs xs a b).1.trans hN) a s bh (by omega) (by omega) (by omega) hl (by omega) (hx.perm (Out.refl _ _ _:Out xs xs a b).2.1) s1 s2) ?_;rintro _ _ ⟨ys,rfl,rfl,ho2,t1⟩ _;simp only[vx,T,seval,cF];have p1:Out xs ys a bh:=ho2;have p0:Out xs xs a b:=Out.refl _ _ _;have pl:xs.length=N:=p0.1.trans hN;have q3:=s3.out p1 (.inr (Nat.le_refl _));have q4:=s4.out p1 (.inr (by omega));have q5:=aI s5 (show b≤xs.length by omega) (by omega) (by omega) (.inl p1);have q6:=p0.trans (p1.mono (Nat.le_refl _) (by omega));refine⟨fun g5=>Lg ?_,fun g5=>Lg ?_⟩
   ·simp only[vx,T,seval,cF];refine⟨fun g6=>Lg ?_,fun g6=>Lg ?_⟩
    ·simp only[vx,T,seval,cF];refine Cm 0 rfl trivial (ih ys (p1.1.trans pl) bh e b (by omega) (by omega) (by omega) hl (by omega) (hx.perm q6.2.1) q3 q4) ?_;rintro _ _ ⟨ws,rfl,rfl,ho3,t2⟩ _;simp only[vx,T,seval,cF];exact⟨ws,rfl,rfl,q6.trans (ho3.mono (by omega) (Nat.le_refl _)),bu.join (t1.out ho3 (.inl (Nat.le_refl _))) t2 (aI q5 (by rw[p1.1,pl];exact hb) (by omega) (by omega) (.inr ho3))⟩
    simp only[vx,T,seval,cF];have e1:e=b:=by omega
    have t2:bu dF ys bh b:=by rw[←e1];exact q3
    exact⟨ys,rfl,rfl,q6,bu.join t1 t2 q5⟩
   simp only[vx,T,seval,cF];have e1:bh=e:=by omega
   have t2:bu dF ys bh b:=by rw[e1];exact q4
   exact⟨ys,rfl,rfl,q6,bu.join t1 t2 q5⟩
  simp only[vx,T,seval,cF];have e1:s=bh:=by omega
  have t1:bu dF xs a bh:=by rw[←e1];exact s1
  have p1:Out xs xs a bh:=Out.refl _ _ _;have p0:Out xs xs a b:=Out.refl _ _ _;have pl:xs.length=N:=p0.1.trans hN;have q3:=s3.out p1 (.inr (Nat.le_refl _));have q4:=s4.out p1 (.inr (by omega));have q5:=aI s5 (show b≤xs.length by omega) (by omega) (by omega) (.inl p1);have q6:=p0.trans (p1.mono (Nat.le_refl _) (by omega));refine⟨fun g5=>Lg ?_,fun g5=>Lg ?_⟩
  ·simp only[vx,T,seval,cF];refine⟨fun g6=>Lg ?_,fun g6=>Lg ?_⟩
   ·simp only[vx,T,seval,cF];refine Cm 0 rfl trivial (ih xs (p1.1.trans pl) bh e b (by omega) (by omega) (by omega) hl (by omega) (hx.perm q6.2.1) q3 q4) ?_;rintro _ _ ⟨ws,rfl,rfl,ho3,t2⟩ _;simp only[vx,T,seval,cF];exact⟨ws,rfl,rfl,q6.trans (ho3.mono (by omega) (Nat.le_refl _)),bu.join (t1.out ho3 (.inl (Nat.le_refl _))) t2 (aI q5 (by rw[p1.1,pl];exact hb) (by omega) (by omega) (.inr ho3))⟩
   simp only[vx,T,seval,cF];have e1:e=b:=by omega
   have t2:bu dF xs bh b:=by rw[←e1];exact q3
   exact⟨xs,rfl,rfl,q6,bu.join t1 t2 q5⟩
  simp only[vx,T,seval,cF];have e1:bh=e:=by omega
  have t2:bu dF xs bh b:=by rw[e1];exact q4
  exact⟨xs,rfl,rfl,q6,bu.join t1 t2 q5⟩
 simp only[vx,T,seval,cF];have e1:a=s:=by omega
 have t1:bu dF xs a bh:=by rw[e1];exact s2
 have p1:Out xs xs a bh:=Out.refl _ _ _;have p0:Out xs xs a b:=Out.refl _ _ _;have pl:xs.length=N:=p0.1.trans hN;have q3:=s3.out p1 (.inr (Nat.le_refl _));have q4:=s4.out p1 (.inr (by omega));have q5:=aI s5 (show b≤xs.length by omega) (by omega) (by omega) (.inl p1);have q6:=p0.trans (p1.mono (Nat.le_refl _) (by omega));refine⟨fun g5=>Lg ?_,fun g5=>Lg ?_⟩
 ·simp only[vx,T,seval,cF];refine⟨fun g6=>Lg ?_,fun g6=>Lg ?_⟩
  ·simp only[vx,T,seval,cF];refine Cm 0 rfl trivial (ih xs (p1.1.trans pl) bh e b (by omega) (by omega) (by omega) hl (by omega) (hx.perm q6.2.1) q3 q4) ?_;rintro _ _ ⟨ws,rfl,rfl,ho3,t2⟩ _;simp only[vx,T,seval,cF];exact⟨ws,rfl,rfl,q6.trans (ho3.mono (by omega) (Nat.le_refl _)),bu.join (t1.out ho3 (.inl (Nat.le_refl _))) t2 (aI q5 (by rw[p1.1,pl];exact hb) (by omega) (by omega) (.inr ho3))⟩
  simp only[vx,T,seval,cF];have e1:e=b:=by omega
  have t2:bu dF xs bh b:=by rw[←e1];exact q3
  exact⟨xs,rfl,rfl,q6,bu.join t1 t2 q5⟩
 simp only[vx,T,seval,cF];have e1:bh=e:=by omega
 have t2:bu dF xs bh b:=by rw[e1];exact q4
 exact⟨xs,rfl,rfl,q6,bu.join t1 t2 q5⟩
end Go.Proofs.YtgalhjhdgkoemaaGreat
