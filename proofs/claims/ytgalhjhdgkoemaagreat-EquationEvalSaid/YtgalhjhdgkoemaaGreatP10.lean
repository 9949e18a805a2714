/-
  EquationEval: for every input the law returns true, and each argument reads afterwards as it read before. No condition beyond the given row's own cells.
  (Text 10 of 10; made by a program out of smaller texts.)
-/
import Derived.Lib.AppendZerosOnto
import Derived.Lib.Walk
import Derived.Deep.Slices
import Derived.ChangeArms
import Derived.ChangeSame
import Derived.Below
import Derived.OpenShut
import Derived.ProofKit
import Derived.Test.YtgalhjhdgkoemaaGreatRows
import Derived.Test.YtgalhjhdgkoemaaGreatP9
set_option linter.unusedSimpArgs false
set_option linter.unusedVariables false
set_option maxHeartbeats 16000000
set_option maxRecDepth 10000
open Nat renaming reduceAdd→J1,reduceMul→J2,reduceSub→J3,reduceEqDiff→J4,reduceLT→J5,reduceLeDiff→J6,reduceBEq→J7,reduceDiv→J8,reduceMod→J9,reducePow→J0
open Int renaming reduceToNat→K1,reduceLE→K2,reduceLT→K3,reduceEq→K4,reducePow→K5,reduceSub→K6,reduceNeg→K7,natCast_add→X2,natCast_one→X3,natCast_zero→X4
open List renaming getD_cons_zero→X0,getD_cons_succ→X1,length_take→X5,length_append→X6,getD_eq_getElem?_getD→X7,getElem?_eq_getElem→X8
namespace Go.Proofs.YtgalhjhdgkoemaaGreat
open Go Go.Eng
theorem IN {xs:List ao}{i j:Nat}(hi:i<xs.length)(hj:j<xs.length):swp xs i j=swp xs j i:=by
 refine j7 (by rw[oU,oU]) fun k _=>?_;rw[swp_get hi hj,swp_get hj hi]
 by_cases h1:k=j
 ·by_cases h2:k=i
  ·rw[if_pos h1,if_pos h2,←h1,←h2]
  rw[if_pos h1,if_neg h2,if_pos h1]
 rw[if_neg h1]
 by_cases h2:k=i
 ·rw[if_pos h2,if_pos h2]
 rw[if_neg h2,if_neg h2,if_neg h1]
theorem zq (xs:List ao){N:Nat}(hN:xs.length=N)(a b:Nat)(hab:a≤b)(hb:b≤N)(hl:N<2^40)(hx:I2 xs):
  Mc Tryz.prog 173 [.one (.own 0 5 0 N),.one (.int .i64 a),.one (.int .i64 b),.one cF] (.rows 68 5 N (fR xs)) (Oy xs N a b):=by
 refine mw Tryz.func173 ⟨[0,1,2,3,8,9,14,34],[(6,(.cons 15 [2,3,4,16] (.cons 17 [] .nil .nil) .nil))]⟩ ?_;simp only[Tryz.f173,Tryz.ntmps173,iz,seval];have w1:IntKind.i64.wrap ((a:Int)+1)=((a+1:Nat):Int):=by rw[IntWalk.i64_in _ (by omega)];omega
 simp only[vx,T,seval,cF,w1];refine Lk (fun y:{y:Nat×List ao//a+1≤y.1∧y.1≤max b (a+1)∧Out xs y.2 a b∧bu dF y.2 a y.1}=>⟨[(0,.one (.own 0 5 0 N)),(1,.one (.int .i64 a)),(2,.one (.int .i64 b)),(3,.one cF),(8,.one (.int .i64 y.1.1))],[(0,⟨.rows 68 5 N (fR y.1.2),true⟩)],1,53⟩) (fun y=>b-y.1.1) ⟨(a+1,xs),Nat.le_refl _,by simp only;omega,.refl _ _ _,fun p q h1 h2 h3=>by simp only at h3;omega⟩ ?_ (fun⟨⟨i,ys⟩,hi1,hi2,ho,hs⟩=>?_)
 ·refine Sa ?_;simp only[ry,seval,rz,cF]
 simp only at hi1 hi2 ho hs;simp only[vx,T,seval,cF];refine⟨fun h1=>Lg ?_,fun h1=>Lg ?_⟩
 ·have hib:i<b:=by omega
  have i1:=wI i (by omega);simp only[vx,T,seval,cF];refine Lk (fun y:{y:Nat×List ao//Out xs y.2 a b∧Ins dF a i y.1 y.2}=>⟨[(0,.one (.own 0 5 0 N)),(1,.one (.int .i64 a)),(2,.one (.int .i64 b)),(3,.one cF),(8,.one (.int .i64 i)),(9,.one (.int .i64 y.1.1))],[(0,⟨.rows 68 5 N (fR y.1.2),true⟩)],1,53⟩) (fun y=>y.1.1) ⟨(i,ys),ho,Ins.init hs (by omega)⟩ ?_ (fun⟨⟨k,zs⟩,hoz,hI⟩=>?_)
  ·refine Sa ?_;simp only[ry,seval,rz,cF]
  simp only at hoz hI;have hki:=hI.ki;have hkl:=hI.lok;have hzl:=hoz.1;have hxz:=hx.perm hoz.2.1;simp only[vx,T,seval,cF];refine⟨fun h2=>Lg ?_,fun h2=>Lg ?_⟩
  ·have k1:IntKind.i64.wrap ((k:Int)-1)=((k-1:Nat):Int):=by rw[IntWalk.i64_in _ (by omega)];omega
   simp only[vx,T,seval,cF,k1,AV,AT,AW,AU,AP];refine⟨by omega,by omega,Cg (mq (zs.getD k default) (zs.getD (k-1) default) (hxz.get _) (hxz.get _)) ?_⟩;simp only[vx,T,seval,cF];refine⟨fun h3=>Lg ?_,fun h3=>Lg ?_⟩
   ·have hst:=hI.step (by omega) (by omega) (tN h3);rw[IN (by omega) (by omega)]at hst;simp only[vx,T,seval,cF,k1,AV,AT,AW,AU,AP];refine⟨by omega,by omega,by omega,by omega,by omega,Lq ⟨(k-1,swp zs k (k-1)),hoz.swp (by omega) (by omega) (by omega) (by omega) (by omega),hst⟩ ?_ ?_⟩
    ·refine Sa ?_;simp only[ry,seval,rz,cF];rw[←hN,←hzl];exact pj (by omega) (by omega)
    simp only;omega
   have hd:=Ins.done (le:=dF) (fun{_ _ _} h1 h2=>lZ h1 h2) hI (.inr (tU h3));simp only[vx,T,seval,cF];simp only[i1];refine Lq ⟨(i+1,zs),by simp only;omega,by simp only;omega,hoz,hd⟩ ?_ ?_
   ·refine Sa ?_;simp only[ry,seval,rz,cF]
   simp only;omega
  have hd:=Ins.done (le:=dF) (fun{_ _ _} h1 h2=>lZ h1 h2) hI (.inl (by omega));simp only[vx,T,seval,cF];simp only[i1];refine Lq ⟨(i+1,zs),by simp only;omega,by simp only;omega,hoz,hd⟩ ?_ ?_
  ·refine Sa ?_;simp only[ry,seval,rz,cF]
  simp only;omega
 simp only[vx,T,seval,cF];exact⟨ys,rfl,rfl,ho,hs.mono (Nat.le_refl _) (by omega)⟩
theorem kI {d p a:Nat}(hp:d∣p)(ha:d∣a)(h:p<a):p+d≤a:=by
 have h1:d∣a-p:=Nat.dvd_sub ha hp;have h2:=Nat.le_of_dvd (by omega) h1;omega
def AR (ys:List ao)(bs lo hi N:Nat):Prop:=∀p,bs∣p→lo≤p→p<hi→bu dF ys p (min (p+bs) N)
theorem AR.first {ys zs:List ao}{a N:Nat}(h:AR ys 20 0 a N)(ha:20∣a)(ho:Out ys zs a (a+20))(hs:bu dF zs a (a+20)):AR zs 20 0 (a+20) N:=by
 intro p hp h1 h2
 by_cases h3:p<a
 ·have:=kI hp ha h3
  exact(h p hp h1 h3).out ho (.inl (by omega))
 by_cases h4:p=a
 ·subst h4;exact hs.mono (Nat.le_refl _) (by omega)
 have:=kI ha hp (by omega)
 omega
theorem AR.last {ys zs:List ao}{a N:Nat}(h:AR ys 20 0 a N)(ha:20∣a)(hN:N<a+20)(ho:Out ys zs a N)(hs:bu dF zs a N):AR zs 20 0 N N:=by
 intro p hp h1 h2
 by_cases h3:p<a
 ·have:=kI hp ha h3
  exact(h p hp h1 h3).out ho (.inl (by omega))
 by_cases h4:p=a
 ·subst h4;exact hs.mono (Nat.le_refl _) (by omega)
 have:=kI ha hp (by omega)
 omega
theorem AR.merge {ys zs:List ao}{a b bs N:Nat}(h:AR ys (2*bs) 0 a N)(ha:2*bs∣a)(hb:b=min (a+2*bs) N)(ho:Out ys zs a b)(hs:bu dF zs a b):AR zs (2*bs) 0 b N:=by
 intro p hp h1 h2
 by_cases h3:p<a
 ·have:=kI hp ha h3
  exact(h p hp h1 h3).out ho (.inl (by omega))
 by_cases h4:p=a
 ·subst h4;exact hs.mono (Nat.le_refl _) (by omega)
 have:=kI ha hp (by omega)
 omega
theorem AR.rest {ys zs:List ao}{a b bs N:Nat}(h:AR ys bs a N N)(hb:a≤b)(ho:Out ys zs a b):AR zs bs b N N:=by
 intro p hp h1 h2;exact(h p hp (by omega) h2).out ho (.inr h1)
def Mb (xs:List ao)(N:Nat)(r:V)(B':Bk):Prop:=∃ys,r= .aJ []∧B'= .rows 68 5 N (fR ys)∧ys.Perm xs∧bu dF ys 0 N
theorem yJ (xs:List ao){N:Nat}(hN:xs.length=N)(hl:N<2^38)(hx:I2 xs):
  Mc Tryz.prog 119 [.one (.own 0 5 0 N),.one (.int .i64 N),.one cF] (.rows 68 5 N (fR xs)) (Mb xs N):=by
 refine mw Tryz.func119 ⟨[0,1,2,6,7,8,9,13,30,35,54],[]⟩ ?_;simp only[Tryz.f119,Tryz.ntmps119,iz,seval];simp only[vx,T,seval,cF];refine Lk (fun y:{y:Nat×List ao//20∣y.1∧y.1≤N∧y.2.Perm xs∧AR y.2 20 0 y.1 N}=>⟨[(0,.one (.own 0 5 0 N)),(1,.one (.int .i64 N)),(2,.one cF),(6,.one (.int .i64 20)),(7,.one (.int .i64 y.1.1)),(8,.one (.int .i64 (y.1.1+20:Nat)))],[(0,⟨.rows 68 5 N (fR y.1.2),true⟩)],1,63⟩) (fun y=>N-y.1.1) ⟨(0,xs),Nat.dvd_zero _,Nat.zero_le _,.refl _,fun p _ _ h=>absurd h (Nat.not_lt_zero _)⟩ ?_ (fun⟨⟨a,ys⟩,ha,haN,hp,hs⟩=>?_)
 ·refine Sa ?_;simp only[ry,seval,rz,cF]
 simp only at ha haN hp hs;have hyN:ys.length=N:=hp.length_eq.trans hN;simp only[vx,T,seval,cF];refine⟨fun h1=>Lg ?_,fun h1=>Lg ?_⟩
 ·have w1:IntKind.i64.wrap (((a+20:Nat):Int)+20)=((a+20+20:Nat):Int):=by rw[IntWalk.i64_in _ (by omega)];omega
  simp only[vx,T,seval,cF];refine Cm 0 rfl trivial (zq ys hyN a (a+20) (by omega) (by omega) (by omega) (hx.perm hp)) ?_;rintro _ _ ⟨zs,rfl,rfl,ho,hz⟩ _;simp only[vx,T,seval,cF];simp only[w1];refine Lq ⟨(a+20,zs),Nat.dvd_add ha (Nat.dvd_refl _),by simp only;omega,ho.2.1.trans hp,hs.first ha ho hz⟩ ?_ ?_
  ·refine Sa ?_;simp only[ry,seval,rz,cF]
  simp only;omega
 simp only[vx,T,seval,cF];refine Cm 0 rfl trivial (zq ys hyN a N haN (Nat.le_refl _) (by omega) (hx.perm hp)) ?_;rintro _ _ ⟨zs,rfl,rfl,ho,hz⟩ _;have hs2:=hs.last ha (by omega) ho hz;have hp2:=ho.2.1.trans hp;simp only[vx,T,seval,cF];refine Lk (fun y:{y:Nat×List ao//0<y.1∧y.1<2^40∧y.2.Perm xs∧AR y.2 y.1 0 N N}=>⟨[(0,.one (.own 0 5 0 N)),(1,.one (.int .i64 N)),(2,.one cF),(6,.one (.int .i64 y.1.1))],[(0,⟨.rows 68 5 N (fR y.1.2),true⟩)],1,63⟩) (fun y=>N-y.1.1) ⟨(20,zs),by simp only;omega,by simp only;omega,hp2,hs2⟩ ?_ (fun⟨⟨bs,ws⟩,hb0,hb1,hpw,hsw⟩=>?_)
 ·refine Sa ?_;simp only[ry,seval,rz,cF]
 simp only at hb0 hb1 hpw hsw;simp only[vx,T,seval,cF];refine⟨fun h2=>Lg ?_,fun h2=>Lg ?_⟩
 ·have w2:IntKind.i64.wrap (2*(bs:Int))=((2*bs:Nat):Int):=by rw[IntWalk.i64_in _ (by omega)];omega
  have w2':IntKind.i64.wrap ((bs:Int)*2)=((2*bs:Nat):Int):=by rw[IntWalk.i64_in _ (by omega)];omega
  simp only[vx,T,seval,cF,w2];refine Lk (fun y:{y:Nat×List ao//2*bs∣y.1∧y.1≤N∧y.2.Perm xs∧AR y.2 (2*bs) 0 y.1 N∧AR y.2 bs y.1 N N}=>⟨[(0,.one (.own 0 5 0 N)),(1,.one (.int .i64 N)),(2,.one cF),(6,.one (.int .i64 bs)),(7,.one (.int .i64 y.1.1)),(8,.one (.int .i64 (y.1.1+2*bs:Nat)))],[(0,⟨.rows 68 5 N (fR y.1.2),true⟩)],1,63⟩) (fun y=>N-y.1.1) ⟨(0,ws),Nat.dvd_zero _,Nat.zero_le _,hpw,fun p _ _ h=>absurd h (Nat.not_lt_zero _),hsw⟩ ?_ (fun⟨⟨c,us⟩,hc,hcN,hpu,hsu,hru⟩=>?_)
  ·refine Sa ?_;simp only[ry,seval,rz,cF,Nat.zero_add]
  simp only at hc hcN hpu hsu hru;have huN:us.length=N:=hpu.length_eq.trans hN;have hcb:bs∣c:=Nat.dvd_trans (Nat.dvd_mul_left _ _) hc;have w3:IntKind.i64.wrap ((c:Int)+bs)=((c+bs:Nat):Int):=by rw[IntWalk.i64_in _ (by omega)];omega
  simp only[vx,T,seval,cF];refine⟨fun h3=>Lg ?_,fun h3=>Lg ?_⟩
  ·have w4:IntKind.i64.wrap (((c+2*bs:Nat):Int)+((2*bs:Nat):Int))=((c+2*bs+2*bs:Nat):Int):=by rw[IntWalk.i64_in _ (by omega)];omega
   simp only[vx,T,seval,cF,w2,w3];have g1:bu dF us c (c+bs):=(hru c hcb (Nat.le_refl _) (by omega)).mono (Nat.le_refl _) (by omega);have g2:bu dF us (c+bs) (c+2*bs):=(hru (c+bs) (Nat.dvd_add hcb (Nat.dvd_refl _)) (by omega) (by omega)).mono (Nat.le_refl _) (by omega);refine Cm 0 rfl trivial (Al (c+2*bs-c) us huN c (c+bs) (c+2*bs) (by omega) (by omega) (by omega) (by omega) (Nat.le_refl _) (hx.perm hpu) g1 g2) ?_;rintro _ _ ⟨vs,rfl,rfl,ho3,hv⟩ _;simp only[vx,T,seval,cF,w2];simp only[w4];refine Lq ⟨(c+2*bs,vs),Nat.dvd_add hc (Nat.dvd_refl _),by simp only;omega,ho3.2.1.trans hpu,hsu.merge hc (by omega) ho3 hv,hru.rest (by omega) ho3⟩ ?_ ?_
   ·refine Sa ?_;simp only[ry,seval,rz,cF]
   simp only;omega
  simp only[vx,T,seval,cF,w3];refine⟨fun h4=>Lg ?_,fun h4=>Lg ?_⟩
  ·simp only[vx,T,seval,cF];have g1:bu dF us c (c+bs):=(hru c hcb (Nat.le_refl _) (by omega)).mono (Nat.le_refl _) (by omega);have g2:bu dF us (c+bs) N:=(hru (c+bs) (Nat.dvd_add hcb (Nat.dvd_refl _)) (by omega) (by omega)).mono (Nat.le_refl _) (by omega);refine Cm 0 rfl trivial (Al (N-c) us huN c (c+bs) N (by omega) (by omega) (Nat.le_refl _) (by omega) (Nat.le_refl _) (hx.perm hpu) g1 g2) ?_;rintro _ _ ⟨vs,rfl,rfl,ho3,hv⟩ _;simp only[vx,T,seval,cF];simp only[w2'];refine Lq ⟨(2*bs,vs),by simp only;omega,by simp only;omega,ho3.2.1.trans hpu,hsu.merge hc (by omega) ho3 hv⟩ ?_ ?_
   ·refine Sa ?_;simp only[ry,seval,rz,cF]
   simp only;omega
  have g1:bu dF us c N:=by
   by_cases h5:c<N
   ·exact(hru c hcb (Nat.le_refl _) h5).mono (Nat.le_refl _) (by omega)
   intro p q h6 h7 h8;omega
  simp only[vx,T,seval,cF];simp only[w2'];refine Lq ⟨(2*bs,us),by simp only;omega,by simp only;omega,hpu,hsu.merge hc (by omega) (Out.refl _ _ _) g1⟩ ?_ ?_
  ·refine Sa ?_;simp only[ry,seval,rz,cF]
  simp only;omega
 have g1:bu dF ws 0 N:=by
  by_cases h5:0<N
  ·exact(hsw 0 (Nat.dvd_zero _) (Nat.le_refl _) h5).mono (Nat.le_refl _) (by omega)
  intro p q h6 h7 h8;omega
 simp only[vx,T,seval,cF];exact⟨ws,rfl,rfl,hpw,g1⟩
theorem sd (xs:List ao){N:Nat}(hN:xs.length=N)(hl:N<2^38)(hx:I2 xs):
  Mc Tryz.prog 77 [.one (.own 0 5 0 N),.one cF] (.rows 68 5 N (fR xs)) (Mb xs N):=by
 refine mw Tryz.func77 ⟨[0,1],[]⟩ ?_;simp only[Tryz.f77,Tryz.ntmps77,iz,seval];simp only[vx,T,seval,cF];refine Cm 0 rfl trivial (yJ xs hN hl hx) ?_;rintro _ _ ⟨ys,rfl,rfl,h1,h2⟩ _;simp only[vx,T,seval,cF];exact⟨ys,rfl,rfl,h1,h2⟩
open Go Go.Eng
def qz (m:ao):Bool:=decide (m.1=0)
def qn (m:ao):Bool:=decide (m.1≠0)
def JD (xs:List ao):Int:=if xs.findIdx qz<xs.length then(xs.findIdx qz:Int)else-1
def cG:C:=.fn 83 0 (fun _=>.any)
def LN (xs:List ao):Prop:=∀m∈xs,qm m.1<2^36
theorem LN.get {xs:List ao}(h:LN xs)(k:Nat):qm (xs.getD k default).1<2^36:=by
 rw[X7]
 cases hg:xs[k]? with
 |none=>exact Nat.lt_of_le_of_lt (gW (z:=0) (by decide)) (by decide)
 |some m=>exact h m (List.mem_of_getElem? hg)
theorem th (xs:List ao){N:Nat}(hN:xs.length=N)(hl:N<2^38)(hx:LN xs):
  Pr Tryz.prog 123 [.one (.rows 5 N (fR xs)),.one cG] (.one (.int .i64 (JD xs))):=by
 refine pw Tryz.func123 ⟨[0,1,4,5,7,8,9,16],[]⟩ ?_;simp only[Tryz.f123,Tryz.ntmps123,iz,seval];simp only[vx,T,seval,cG];refine Lk (fun y:{i:Nat//i≤N∧∀k,k<i→qz (xs.getD k default)=false}=>⟨[(0,.one (.rows 5 N (fR xs))),(1,.one cG),(7,.one (.int .i64 N)),(8,.one (.int .i64 y.1))],[],1,19⟩) (fun y=>N-y.1) ⟨0,Nat.zero_le _,fun k h=>absurd h (Nat.not_lt_zero _)⟩ ?_ (fun⟨i,hi,hz⟩=>?_)
 ·refine Sa ?_;simp only[ry,seval,rz,cG]
 have i1:=wI i (by omega);simp only[vx,T,seval,cG];refine⟨fun h1=>Lg ?_,fun h1=>Lg ?_⟩
 ·simp only[vx,T,seval,cG,AV,AT,AW,AU,AP];refine⟨by omega,Cg (zu (xs.getD i default) (hx.get i)) ?_⟩;simp only[vx,T,seval,cG];refine⟨fun h2=>Lg ?_,fun h2=>Lg ?_⟩
  ·have e1:xs.findIdx qz=i:=by
    rw[List.findIdx_eq (by omega)];refine⟨by rw[←getD_eq (by omega)];simpa[qz]using h2,fun j hj=>?_⟩;rw[←getD_eq (by omega)];exact hz j hj
   have e2:JD xs=i:=by unfold JD;rw[e1,if_pos (by omega)]
   simp only[vx,T,seval,cG,e2];exact Ve rfl
  simp only[vx,T,seval,cG];simp only[i1];refine Lq ⟨i+1,by omega,fun k hk=>?_⟩ ?_ ?_
  ·by_cases h3:k<i
   ·exact hz k h3
   rw[show k=i by omega];simpa[qz]using h2
  ·refine Sa ?_;simp only[ry,seval,rz,cG]
  simp only;omega
 have e1:xs.findIdx qz=xs.length:=by
  rw[List.findIdx_eq_length];intro x hx;obtain⟨k,hk,rfl⟩:=List.mem_iff_getElem.1 hx;rw[←getD_eq hk];exact hz k (by omega)
 have e2:JD xs= -1:=by unfold JD;rw[if_neg (by omega)]
 simp only[vx,T,seval,cG,e2];exact Ve rfl
def O5 (xs:List ao)(N:Nat)(r:V)(B':Bk):Prop:=∃k f,r= .one (.own 0 5 0 k)∧B'= .rows 68 5 N f∧k≤N∧k=(xs.filter qn).length∧∀i j,i<k→j<5→f i j=fR (xs.filter qn) i j
theorem Hf (m:ao):qn m=!qz m:=by unfold qn qz;by_cases h:m.1=0<;>simp [h]
theorem vv {ys:List ao}{i:Nat}{x:ao}(hi:i<ys.length):(ys.set i x).take (i+1)=ys.take i++[x]:=by
 rw[List.take_add_one,List.take_set_of_le (Nat.le_refl _),List.getElem?_set_self hi];rfl
theorem JP {ys zs:List ao}{k:Nat}(h:ys.take k=zs){i j:Nat}(hi:i<k):fR ys i j=fR zs i j:=by
 unfold fR;rw[←h,X7,X7,List.getElem?_take_of_lt hi]
theorem se (xs:List ao){N:Nat}(hN:xs.length=N)(hl:N<2^38)(hx:LN xs):
  Mc Tryz.prog 82 [.one (.own 0 5 0 N),.one cG] (.rows 68 5 N (fR xs)) (O5 xs N):=by
 refine mw Tryz.func82 ⟨[0,1,4,5,6,7,12,19,29],[]⟩ ?_;simp only[Tryz.f82,Tryz.ntmps82,iz,seval];simp only[vx,T,seval,cG];refine Cg (Pr.Md (th xs hN hl hx) (dg.rows rfl fun i j _ _=>dg.of_eq (by simp)) (dg.refl _)) ?_;simp only[vx,T,seval,cG];refine⟨fun h1=>Lg ?_,fun h1=>Lg ?_⟩
 ·have hall:xs.filter qn=xs:=by
   unfold JD at h1
   split at h1
   ·omega
   rename_i h2
   have h3:xs.findIdx qz=xs.length:=Nat.le_antisymm List.findIdx_le_length (by omega);rw[List.filter_eq_self];intro m hm;rw[Hf,List.findIdx_eq_length.1 h3 m hm];rfl
  simp only[vx,T,seval,cG];exact⟨N,_,rfl,rfl,Nat.le_refl _,by rw[hall,hN],fun i j _ _=>by rw[hall]⟩
 have h2:xs.findIdx qz<xs.length:=by
  unfold JD at h1
  split at h1
  ·assumption
  exact absurd rfl h1
 have e1:JD xs=(xs.findIdx qz:Int):=by unfold JD;rw[if_pos h2]
 obtain⟨k,hk⟩:∃k,k=xs.findIdx qz:=⟨_,rfl⟩;rw[←hk]at h2 e1
 have hp:=List.findIdx_eq (xs:=xs) (p:=qz) h2|>.1 hk.symm
 have htk:xs.take k=(xs.take (k+1)).filter qn:=by
  rw[mW h2,List.filter_append];have f1:(xs.take k).filter qn=xs.take k:=by
   rw[List.filter_eq_self];intro m hm;obtain⟨j,hj,rfl⟩:=List.mem_iff_getElem.1 hm;rw[X5]at hj;rw[List.getElem_take,Hf,hp.2 j (by omega)];rfl
  have f2:[xs.getD k default].filter qn=[]:=by
   rw[List.filter_cons_of_neg (by rw[Hf,getD_eq h2,hp.1];simp)];rfl
  rw[f1,f2,List.append_nil]
 have w1:IntKind.i64.wrap ((k:Int)+1)=((k+1:Nat):Int):=by rw[IntWalk.i64_in _ (by omega)];omega
 rw[e1];simp only[vx,T,seval,cG,w1];refine Lk (fun y:{y:Nat×Nat×List ao//y.2.1<y.1∧y.1≤N∧y.2.2.length=N∧y.2.2.take y.2.1=(xs.take y.1).filter qn∧∀c,y.1≤c→y.2.2.getD c default=xs.getD c default}=>⟨[(0,.one (.own 0 5 0 N)),(1,.one cG),(5,.one (.int .i64 y.1.2.1)),(6,.one (.int .i64 y.1.1))],[(0,⟨.rows 68 5 N (fR y.1.2.2),true⟩)],1,42⟩) (fun y=>N-y.1.1) ⟨(k+1,k,xs),by simp only;omega,by simp only;omega,hN,htk,fun _ _=>rfl⟩ ?_ (fun⟨⟨j,i,ys⟩,hij,hj,hyl,ht,hr⟩=>?_)
 ·refine Sa ?_;simp only[ry,seval,rz,cG]
 simp only at hij hj hyl ht hr;simp only[vx,T,seval,cG];refine⟨fun h3=>Lg ?_,fun h3=>Lg ?_⟩
 ·have hjN:j<N:=by omega
  have j1:IntKind.i64.wrap ((j:Int)+1)=((j+1:Nat):Int):=by rw[IntWalk.i64_in _ (by omega)];omega
  have i1:=wI i (by omega);obtain⟨a,ha⟩:∃a,a=ys.getD j default:=⟨_,rfl⟩;have hax:a=xs.getD j default:=by rw[ha];exact hr j (Nat.le_refl _)
  have hts:(xs.take (j+1)).filter qn=ys.take i++(if qn a then[a]else[]):=by
   rw[mW (by omega),List.filter_append,←ht,←hax]
   congr 1
   cases hq:qn a
   ·rw[List.filter_cons_of_neg (by simp[hq])];rfl
   rw[List.filter_cons_of_pos hq];rfl
  simp only[vx,T,seval,cG,AV,AT,AW,AU,AP,←ha];refine⟨by omega,Cg (zu a (by rw[hax];exact hx.get j)) ?_⟩;simp only[vx,T,seval,cG];refine⟨fun h4=>Lg ?_,fun h4=>Lg ?_⟩
  ·have h4:qn a=true:=by unfold qn;simpa using h4
   rw[if_pos h4]at hts;simp only[vx,T,seval,cG,←ha];simp only[i1,j1];refine⟨by omega,Lq ⟨(j+1,i+1,ys.set i a),by simp only;omega,by simp only;omega,by rw[List.length_set];exact hyl,by rw[hts];exact vv (by omega),fun c hc=>?_⟩ ?_ ?_⟩
   ·simp only at hc⊢;rw[eR (by omega)];exact hr c (by omega)
   ·refine Sa ?_;simp only[ry,seval,rz,cG];intro i' j' hi' hj';exact ux (by omega) a i' j' hj'
   simp only;omega
  have h4:qn a=false:=by unfold qn;simpa using h4
  rw[h4,if_neg (by simp),List.append_nil]at hts;simp only[vx,T,seval,cG];simp only[j1];refine Lq ⟨(j+1,i,ys),by simp only;omega,by simp only;omega,hyl,by rw[hts],fun c hc=>hr c (by simp only at hc;omega)⟩ ?_ ?_
  ·refine Sa ?_;simp only[ry,seval,rz,cG]
  simp only;omega
 have hjN:j=N:=by omega
 rw[hjN,←hN,List.take_length]at ht;have hlen:i=(xs.filter qn).length:=by rw[←ht,X5];omega
 simp only[vx,T,seval,cG];refine⟨by omega,by omega,?_⟩;refine⟨i,_,rfl,rfl,by omega,hlen,fun i' j' hi' hj'=>?_⟩;unfold AY;rw[if_neg (by omega)];exact JP ht hi'
open Go Go.Proofs Go.RowKit Go.Eng
set_option maxRecDepth 100000 in
theorem A6 (k:Nat)(h0:0<k)(hb:k*88≤140737488355328)(w:World)(i:TypeInfo)(z:Value)(hi:Tryz.prog.info? 68=some i)(hz:i.zero=some z)(hs:i.size=5)(hby:i.bytes=88):
  Calls Tryz.prog 85 #[.slice none 0 0,.int .i64 k] w fun e w'=>e= .returned (.slice (some ⟨w.heap.size,0,none⟩) 0 (grownCap w k 0 68))∧
   w'=w.drew.alloc (.cells (Builtin.zeroCells z.cells k++Builtin.zeroCells z.cells (grownCap w k 0 68-k)) 68):=by
 have h1:¬((k:Int)<0):=by omega
 have h3:wrap64 ((k:Int)-(((0:Nat):Int)-((0:Nat):Int)))=(k:Int):=by unfold wrap64;omega
 have h4:(k:Int)>0:=by omega
 have hrz:∀ty,(Builtin.append_ #[23,3] ty #[.slice none 0 0,.int .i64 (k:Int)]).run Tryz.prog w=
   .ok (.slice (some ⟨w.heap.size,0,none⟩) k (grownCap w k 0 68)) (w.drew.alloc (.cells (Builtin.zeroCells z.cells k++Builtin.zeroCells z.cells (grownCap w k 0 68-k)) 68)):=fun ty=>
  Lib.run_append_nil_zeros w 23 3 ty 68 i z .i64 .i64 (by rfl) (by rfl) hi hz k h0 (by omega) (by omega) (by rw[hby];omega)
 obtain⟨G,hG⟩:∃G,G=grownCap w k 0 68:=⟨_,rfl⟩;rw[←hG]at hrz⊢;have hGn:k≤G:=by rw[hG];exact grownCap_ge w _ _ _
 clear hG
 go_enter Tryz.func85,Tryz.ntmps85
 go_wp2_with (at_builtin;refine Lib.wpList_append_run _ rfl _ _ _ _ rfl _ _ rfl rfl _ _ (hrz _) ?_)
 all_goals(go_ret;exact⟨rfl,rfl⟩)
set_option maxRecDepth 100000 in
theorem BQ (w:World):Calls Tryz.prog 85 #[.slice none 0 0,.int .i64 0] w fun e w'=>e= .returned (.slice none 0 0)∧w'=w:=by
 go_enter Tryz.func85,Tryz.ntmps85
 go_wp2
 go_ret
 exact⟨rfl,rfl⟩
theorem Bv (k:Nat)(hb:k*88≤140737488355328):Fr Tryz.prog 85 [.one .nil,.one (.int .i64 k)] (.rows 68 5 0 (fun _ _=>.any)):=by
 obtain⟨i,d,z,hi,hu,hz,_,hs,hby,hzl,_⟩:=bI y6 (show T 68=some _ from rfl);have hs:i.size=5:=hs.symm;have hby:i.bytes=88:=hby.symm;refine⟨⟨_,Tryz.func85,by rfl,by rfl⟩,trivial,fun ok w vs hok hr=>?_⟩;obtain⟨vs⟩:=vs
 match vs,hr with
 |[v,u],hr=>
  obtain⟨hv,hu,_⟩:=hr;have hv:v= .slice none 0 0:=hv;have hu:u= .int .i64 k:=hu;subst hv hu
  by_cases h0:k=0
  ·subst h0
   refine(BQ w).mono ?_
   rintro e w' ⟨rfl,rfl⟩;exact⟨_,⟨none,0⟩,rfl,Go.RowKit.Below.refl _ _,rfl,(fun g o h=>by cases h),(fun j=>by simp[Bk.cell]),trivial,Nat.le_refl _,0,Nat.le_refl _,.inr ⟨rfl,rfl,rfl,rfl⟩⟩
  refine(A6 k (by omega) hb w i z hi hz hs hby).mono ?_
  rintro e w' ⟨rfl,rfl⟩;have hzc:z.cells.size=5:=by
   have:=congrArg List.length hzl
   simpa[T]using this.symm
  have hGn:k≤grownCap w k 0 68:=grownCap_ge w _ _ _;refine⟨_,⟨some (w.heap.size,0),0⟩,rfl,((Go.RowKit.Below.refl _ w).drew).alloc (Nat.le_refl _) _,rfl,fun g o h=>?_,?_,trivial,Nat.le_refl _,grownCap w k 0 68,Nat.zero_le _,.inl ⟨w.heap.size,0,0,rfl,rfl,.inr (by simp),?_⟩⟩
  ·have:w.heap.size=g:=by simpa using congrArg (Option.map Prod.fst) h
   subst this;exact⟨Nat.le_refl _,by simp⟩
  ·unfold aT;refine⟨_,68,heap_alloc_new w.drew _,fun j c hj=>?_⟩
   simp[Bk.cell]at hj
  have hrs:b6 (w.drew.alloc (.cells (Builtin.zeroCells z.cells k++Builtin.zeroCells z.cells (grownCap w k 0 68-k)) 68)) w.heap.size=(Builtin.zeroCells z.cells k++Builtin.zeroCells z.cells (grownCap w k 0 68-k)).size:=cL (heap_alloc_new w.drew _);rw[hrs];simp only[Array.size_append,size_zeroCells,hzc,Bk.wd];omega
set_option maxRecDepth 100000 in
theorem Cw (k:Nat)(h0:0<k)(hb:k*8≤140737488355328)(w:World)(i:TypeInfo)(z:Value)(hi:Tryz.prog.info? 3=some i)(hz:i.zero=some z)(hs:i.size=1)(hby:i.bytes=8):
  Calls Tryz.prog 86 #[.slice none 0 0,.int .i64 k] w fun e w'=>e= .returned (.slice (some ⟨w.heap.size,0,none⟩) 0 (grownCap w k 0 3))∧
   w'=w.drew.alloc (.cells (Builtin.zeroCells z.cells k++Builtin.zeroCells z.cells (grownCap w k 0 3-k)) 3):=by
 have h1:¬((k:Int)<0):=by omega
 have h3:wrap64 ((k:Int)-(((0:Nat):Int)-((0:Nat):Int)))=(k:Int):=by unfold wrap64;omega
 have h4:(k:Int)>0:=by omega
 have hrz:∀ty,(Builtin.append_ #[52,3] ty #[.slice none 0 0,.int .i64 (k:Int)]).run Tryz.prog w=
   .ok (.slice (some ⟨w.heap.size,0,none⟩) k (grownCap w k 0 3)) (w.drew.alloc (.cells (Builtin.zeroCells z.cells k++Builtin.zeroCells z.cells (grownCap w k 0 3-k)) 3)):=fun ty=>
  Lib.run_append_nil_zeros w 52 3 ty 3 i z .i64 .i64 (by rfl) (by rfl) hi hz k h0 (by omega) (by omega) (by rw[hby];omega)
 obtain⟨G,hG⟩:∃G,G=grownCap w k 0 3:=⟨_,rfl⟩;rw[←hG]at hrz⊢;have hGn:k≤G:=by rw[hG];exact grownCap_ge w _ _ _
 clear hG
 go_enter Tryz.func86,Tryz.ntmps86
 go_wp2_with (at_builtin;refine Lib.wpList_append_run _ rfl _ _ _ _ rfl _ _ rfl rfl _ _ (hrz _) ?_)
 all_goals(go_ret;exact⟨rfl,rfl⟩)
set_option maxRecDepth 100000 in
theorem BA (w:World):Calls Tryz.prog 86 #[.slice none 0 0,.int .i64 0] w fun e w'=>e= .returned (.slice none 0 0)∧w'=w:=by
 go_enter Tryz.func86,Tryz.ntmps86
 go_wp2
 go_ret
 exact⟨rfl,rfl⟩
theorem Bw (k:Nat)(hb:k*8≤140737488355328):Fr Tryz.prog 86 [.one .nil,.one (.int .i64 k)] (.ints 3 .i64 []):=by
 obtain⟨i,d,z,hi,hu,hz,_,hs,hby,hzl,_⟩:=bI y6 (show T 3=some _ from rfl);have hs:i.size=1:=hs.symm;have hby:i.bytes=8:=hby.symm;refine⟨⟨_,Tryz.func86,by rfl,by rfl⟩,trivial,fun ok w vs hok hr=>?_⟩;obtain⟨vs⟩:=vs
 match vs,hr with
 |[v,u],hr=>
  obtain⟨hv,hu,_⟩:=hr;have hv:v= .slice none 0 0:=hv;have hu:u= .int .i64 k:=hu;subst hv hu
  by_cases h0:k=0
  ·subst h0
   refine(BA w).mono ?_
   rintro e w' ⟨rfl,rfl⟩;exact⟨_,⟨none,0⟩,rfl,Go.RowKit.Below.refl _ _,rfl,(fun g o h=>by cases h),(fun j=>by simp[Bk.cell]),trivial,Nat.le_refl _,0,Nat.le_refl _,.inr ⟨rfl,rfl,rfl,rfl⟩⟩
  refine(Cw k (by omega) hb w i z hi hz hs hby).mono ?_
  rintro e w' ⟨rfl,rfl⟩;have hzc:z.cells.size=1:=by
   have:=congrArg List.length hzl
   simpa[T]using this.symm
  have hGn:k≤grownCap w k 0 3:=grownCap_ge w _ _ _;refine⟨_,⟨some (w.heap.size,0),0⟩,rfl,((Go.RowKit.Below.refl _ w).drew).alloc (Nat.le_refl _) _,rfl,fun g o h=>?_,?_,trivial,Nat.le_refl _,grownCap w k 0 3,Nat.zero_le _,.inl ⟨w.heap.size,0,0,rfl,rfl,.inr (by simp),?_⟩⟩
  ·have:w.heap.size=g:=by simpa using congrArg (Option.map Prod.fst) h
   subst this;exact⟨Nat.le_refl _,by simp⟩
  ·unfold aT;refine⟨_,3,heap_alloc_new w.drew _,fun j c hj=>?_⟩
   simp[Bk.cell]at hj
  have hrs:b6 (w.drew.alloc (.cells (Builtin.zeroCells z.cells k++Builtin.zeroCells z.cells (grownCap w k 0 3-k)) 3)) w.heap.size=(Builtin.zeroCells z.cells k++Builtin.zeroCells z.cells (grownCap w k 0 3-k)).size:=cL (heap_alloc_new w.drew _);rw[hrs];simp only[Array.size_append,size_zeroCells,hzc,Bk.wd];omega
open Go Go.Eng
theorem xz (ps:List (List Int))(hl:ps.flatten.length<2^38)(hk:ps.length<2^38):Fr Tryz.prog 42 [.one (.rows 1 ps.length (fun i _=>C.ints .i64 (ps.getD i default)))] (Bk.ints 3 .i64 (ps.flatten)):=by
 refine fw Tryz.func42 ⟨[0,2,3,5,6,8,9,10,11,12,20,25,26,27,28],[]⟩ ?_;simp only[Tryz.f42,Tryz.ntmps42,iz,seval];simp only[vx,T,seval];refine Lk (fun y:{i:Nat//i≤ps.length}=>⟨[(0,.one (.rows 1 ps.length (fun i _=>C.ints .i64 (ps.getD i default)))),(3,.one (.int .i64 (ps.take y.1).flatten.length)),(9,.one (.rows 1 ps.length (fun i _=>C.ints .i64 (ps.getD i default)))),(10,.one (.int .i64 ps.length)),(11,.one (.int .i64 y.1))],[],1,36⟩) (fun y=>ps.length-y.1) ⟨0,Nat.zero_le _⟩ ?_ (fun⟨i,hi⟩=>?_)
 ·refine Sa ?_;simp only[ry,seval,rz]
 have h0:=fF ps i;have i1:=wI i (by omega);simp only[vx,T,seval];refine⟨fun h1=>Lg ?_,fun h1=>Lg ?_⟩
 ·have hs:=jf (ps:=ps) (i:=i) (by omega);have h2:=fF ps (i+1);have hsl:(ps.take (i+1)).flatten.length=(ps.take i).flatten.length+(ps.getD i default).length:=by rw[hs,X6]
  obtain⟨a,ha⟩:∃a,a=ps.getD i default:=⟨_,rfl⟩;rw[←ha]at hsl;have w1:IntKind.i64.wrap (((ps.take i).flatten.length:Int)+a.length)=((ps.take (i+1)).flatten.length:Int):=by rw[IntWalk.i64_in _ (by omega)];omega
  simp only[vx,T,seval,PC,←ha];simp only[w1];refine⟨by omega,fun h=>absurd h (by omega),fun _=>Lg ?_⟩;simp only[vx,T,seval,PC,←ha];simp only[i1];refine Lq ⟨i+1,by omega⟩ ?_ ?_
  ·refine Sa ?_;simp only[ry,seval,rz]
  simp only;omega
 have hip:i=ps.length:=by omega
 subst hip;rw[List.take_length];simp only[vx,T,seval];refine cY.fresh (Bw ps.flatten.length (by omega)) ?_;simp only[vx,T,seval];refine Lk (fun y:{i:Nat//i≤ps.length}=>⟨[(0,.one (.rows 1 ps.length (fun i _=>C.ints .i64 (ps.getD i default)))),(6,.one (.own 1 1 0 (ps.take y.1).flatten.length)),(25,.one (.rows 1 ps.length (fun i _=>C.ints .i64 (ps.getD i default)))),(26,.one (.int .i64 ps.length)),(27,.one (.int .i64 y.1))],[(1,⟨(Bk.ints 3 .i64 ((ps.take y.1).flatten)),true⟩)],2,36⟩) (fun y=>ps.length-y.1) ⟨0,Nat.zero_le _⟩ ?_ (fun⟨i,hi⟩=>?_)
 ·refine Sa ?_;simp only[ry,seval,rz]
  skip
 have h0:=fF ps i;have i1:=wI i (by omega);simp only[vx,T,seval];refine⟨fun h1=>Lg ?_,fun h1=>Lg ?_⟩
 ·have hs:=jf (ps:=ps) (i:=i) (by omega);have h2:=fF ps (i+1);have hsl:(ps.take (i+1)).flatten.length=(ps.take i).flatten.length+(ps.getD i default).length:=by rw[hs,X6]
  obtain⟨a,ha⟩:∃a,a=ps.getD i default:=⟨_,rfl⟩;rw[←ha]at hsl hs;simp only[vx,T,seval,PC,←ha];simp only[i1];refine⟨by omega,by rw[←X6,←hs];omega,Lq ⟨i+1,by omega⟩ ?_ ?_⟩
  ·refine Sa ?_;simp only[ry,seval,rz,hs]
   skip
  simp only;omega
 have hip:i=ps.length:=by omega
 subst hip;rw[List.take_length];simp only[vx,T,seval];exact⟨rfl,rfl⟩
theorem xT (ps:List (List ao))(hl:ps.flatten.length<2^38)(hk:ps.length<2^38):Fr Tryz.prog 41 [.one (.rows 1 ps.length (fun i _=>PC (ps.getD i default)))] (.rows 68 5 (ps.flatten).length (fR (ps.flatten))):=by
 refine fw Tryz.func41 ⟨[0,2,3,5,6,8,9,10,11,12,20,25,26,27,28],[]⟩ ?_;simp only[Tryz.f41,Tryz.ntmps41,iz,seval];simp only[vx,T,seval];refine Lk (fun y:{i:Nat//i≤ps.length}=>⟨[(0,.one (.rows 1 ps.length (fun i _=>PC (ps.getD i default)))),(3,.one (.int .i64 (ps.take y.1).flatten.length)),(9,.one (.rows 1 ps.length (fun i _=>PC (ps.getD i default)))),(10,.one (.int .i64 ps.length)),(11,.one (.int .i64 y.1))],[],1,36⟩) (fun y=>ps.length-y.1) ⟨0,Nat.zero_le _⟩ ?_ (fun⟨i,hi⟩=>?_)
 ·refine Sa ?_;simp only[ry,seval,rz]
 have h0:=fF ps i;have i1:=wI i (by omega);simp only[vx,T,seval];refine⟨fun h1=>Lg ?_,fun h1=>Lg ?_⟩
 ·have hs:=jf (ps:=ps) (i:=i) (by omega);have h2:=fF ps (i+1);have hsl:(ps.take (i+1)).flatten.length=(ps.take i).flatten.length+(ps.getD i default).length:=by rw[hs,X6]
  obtain⟨a,ha⟩:∃a,a=ps.getD i default:=⟨_,rfl⟩;rw[←ha]at hsl;have w1:IntKind.i64.wrap (((ps.take i).flatten.length:Int)+a.length)=((ps.take (i+1)).flatten.length:Int):=by rw[IntWalk.i64_in _ (by omega)];omega
  simp only[vx,T,seval,PC,←ha];simp only[w1];refine⟨by omega,fun h=>absurd h (by omega),fun _=>Lg ?_⟩;simp only[vx,T,seval,PC,←ha];simp only[i1];refine Lq ⟨i+1,by omega⟩ ?_ ?_
  ·refine Sa ?_;simp only[ry,seval,rz]
  simp only;omega
 have hip:i=ps.length:=by omega
 subst hip;rw[List.take_length];simp only[vx,T,seval];refine cY.fresh (Bv ps.flatten.length (by omega)) ?_;simp only[vx,T,seval];refine Lk (fun y:{i:Nat//i≤ps.length}=>⟨[(0,.one (.rows 1 ps.length (fun i _=>PC (ps.getD i default)))),(6,.one (.own 1 5 0 (ps.take y.1).flatten.length)),(25,.one (.rows 1 ps.length (fun i _=>PC (ps.getD i default)))),(26,.one (.int .i64 ps.length)),(27,.one (.int .i64 y.1))],[(1,⟨(.rows 68 5 ((ps.take y.1).flatten).length (fR ((ps.take y.1).flatten))),true⟩)],2,36⟩) (fun y=>ps.length-y.1) ⟨0,Nat.zero_le _⟩ ?_ (fun⟨i,hi⟩=>?_)
 ·refine Sa ?_;simp only[ry,seval,rz];exact fun i j h=>absurd h (by omega)
 have h0:=fF ps i;have i1:=wI i (by omega);simp only[vx,T,seval];refine⟨fun h1=>Lg ?_,fun h1=>Lg ?_⟩
 ·have hs:=jf (ps:=ps) (i:=i) (by omega);have h2:=fF ps (i+1);have hsl:(ps.take (i+1)).flatten.length=(ps.take i).flatten.length+(ps.getD i default).length:=by rw[hs,X6]
  obtain⟨a,ha⟩:∃a,a=ps.getD i default:=⟨_,rfl⟩;rw[←ha]at hsl hs;simp only[vx,T,seval,PC,←ha];simp only[i1];refine⟨by omega,by rw[←X6,←hs];omega,Lq ⟨i+1,by omega⟩ ?_ ?_⟩
  ·refine Sa ?_;simp only[ry,seval,rz,hs];exact⟨by simp,by simp,GD _ _⟩
  simp only;omega
 have hip:i=ps.length:=by omega
 subst hip;rw[List.take_length];simp only[vx,T,seval];exact⟨rfl,rfl,fun _ _ _ _=>rfl⟩
open Go Go.Eng
theorem rY (xs:List Int)(hx:xs.length<2^40):Pr Tryz.prog 81 [.one (.ints .i64 xs)] (.one (.ints .i64 xs)):=by
 refine pw Tryz.func81 ⟨[0,2,4],[]⟩ ?_;simp only[Tryz.f81,Tryz.ntmps81,iz,seval];simp only[vx,T,seval];intro b hb;refine Lg ?_;simp only[vx,T,seval];refine⟨fun h=>Lg ?_,fun h=>Lg ?_⟩
 ·simp only[vx,T,seval];have h0:xs=[]:=by
   cases xs with
   |nil=>rfl
   |cons x xs=>simp at hb;rw[hb]at h;cases h
  refine Va ?_;simp only[cO,aV,ry,seval,h0]
 simp only[vx,T,seval];exact⟨⟨by omega,by omega⟩,jJ.refl _⟩
theorem yx {c:Rat}{v:List Int}:∀{os:List ao},(∀x∈os,cI x.2 v<0)→dO c v os=os++[(c,v)]
 |[],_=>rfl
 |m::r,h=>by
  simp only[dO];rw[if_pos (h m (by simp)),yx fun x hx=>h x (by simp[hx])];rfl
theorem rU {c:Rat}{v:List Int}{x:ao}(hx:x.2=v):∀{ps:List ao},(∀y∈ps,cI y.2 v<0)→dO c v (ps++[x])=ps++[(x.1+c,v)]
 |[],_=>by simp only[List.nil_append,dO];rw[if_neg (by rw[hx];exact rO v),if_pos hx]
 |m::r,h=>by
  simp only[List.cons_append,dO];rw[if_pos (h m (by simp)),rU hx fun y hy=>h y (by simp[hy])]
theorem Gy {os:List ao}(h:xG os){k:Nat}(hk:k+1=os.length):∀y∈os.take k,cI y.2 (os.getD k default).2<0:=by
 intro y hy;obtain⟨i,hi,rfl⟩:=List.mem_iff_getElem.1 hy;rw[X5]at hi;rw[List.getElem_take,getD_eq (by omega)];exact List.pairwise_iff_getElem.1 h i k (by omega) (by omega) (by omega)
theorem CO {os:List ao}{k:Nat}(hk:k+1=os.length):os=os.take k++[os.getD k default]:=by
 rw[←mW (by omega),List.take_of_length_le (by omega)]
theorem EA {c:Rat}{v:List Int}{os:List ao}(h:xG os){k:Nat}(hk:k+1=os.length)(hv:(os.getD k default).2=v):dO c v os=os.set k ((os.getD k default).1+c,v):=by
 have h1:=Gy h hk;rw[hv]at h1
 conv=>lhs;rw[CO hk]
 rw[rU hv h1,List.set_eq_take_append_cons_drop,if_pos (by omega),List.drop_eq_nil_of_le (by omega)]
theorem zX {c:Rat}{v:List Int}{os:List ao}(h:xG os)(hall:∀x∈os,cI x.2 v≤0)(hne:∀k,k+1=os.length→(os.getD k default).2≠v):dO c v os=os++[(c,v)]:=by
 refine yx fun x hx=>?_;have h1:=hall x hx;obtain⟨i,hi,rfl⟩:=List.mem_iff_getElem.1 hx;have h2:=hne (os.length-1) (by omega);have h3:=hall (os.getD (os.length-1) default) (by rw[getD_eq (by omega)];exact List.getElem_mem _);have h4:cI (os.getD (os.length-1) default).2 v<0:=by
  have:cI (os.getD (os.length-1) default).2 v≠0:=fun e=>h2 (fO.1 e)
  omega
 by_cases h5:i=os.length-1
 ·subst h5;rw[getD_eq (by omega)]at h4;exact h4
 have h6:=List.pairwise_iff_getElem.1 h i (os.length-1) (by omega) (by omega) (by omega);rw[getD_eq (by omega)]at h4;exact ft h6 h4
theorem EW {ys:List ao}{i:Nat}(hi:i<ys.length):kU (ys.take (i+1)) []=dO (ys.getD i default).1 (ys.getD i default).2 (kU (ys.take i) []):=by
 rw[mW hi];unfold kU;rw[List.foldl_append];rfl
def OJ (l:List ao)(r:V)(_:Bk):Prop:=∃k f,r= .one (.rows 5 k f)∧k=(dq l).length∧∀i j,i<k→j<5→f i j=fR (dq l) i j
theorem jR {l:List ao}{n d B:Nat}(h:PB l n d B)(hn:n*(B+1)<2^30)(hn1:n<2^30)(hB:B<2^30)(hd:d<2^30){N:Nat}(hN:l.length=N):
  Mc Tryz.prog 40 [.one (.own 0 5 0 N)] (.rows 68 5 N (fR l)) (OJ l):=by
 have hln:=h.n;have hlo:I2 l:=fun m hm=>Nat.lt_of_le_of_lt (h.m m hm).2.1 (by omega);refine mw Tryz.func40 ⟨[0,2,3,5,6,9,10,11,12,30],[]⟩ ?_;simp only[Tryz.f40,Tryz.ntmps40,iz,seval];simp only[vx,T,seval];refine Cm 0 rfl trivial (sd l hN (by omega) hlo) ?_;rintro _ _ ⟨ys,rfl,rfl,hp,hs⟩ _;have hyl:ys.length=N:=hp.length_eq.trans hN;have hys:PB ys n d B:=⟨by rw[hp.length_eq];exact hln,fun m hm=>h.m m (hp.mem_iff.1 hm)⟩;have hpre:∀i,i≤N→(kU (ys.take i) []).length≤i∧∀m∈kU (ys.take i) [],qm m.1≤n*(B+1)∧m.2.length≤d∧fS m.2:=by
  intro i hi;have h1:=PB.yS (l:=ys.take i) (d:=d) (B:=B) (fun m hm=>hys.m m (List.mem_of_mem_take hm)) 0 [] ⟨by simp,fun m hm=>by cases hm⟩;rw[Nat.zero_add,X5,Nat.min_eq_left (by omega)]at h1;refine⟨h1.1,fun m hm=>?_⟩;have h2:=h1.2 m hm;exact⟨Nat.le_trans h2.1 (Nat.mul_le_mul_right _ (by omega)),h2.2⟩
 simp only[vx,T,seval];refine Lk (fun y:{y:Nat×List ao//y.1≤N∧y.2=kU (ys.take y.1) []}=>⟨[(2,.one .nil),(3,.one (.own 1 5 0 y.1.2.length)),(9,.one (.own 0 5 0 N)),(10,.one (.int .i64 N)),(11,.one (.int .i64 y.1.1))],[(0,⟨.rows 68 5 N (fR ys),true⟩),(1,⟨.rows 68 5 y.1.2.length (fR y.1.2),true⟩)],2,57⟩) (fun y=>N-y.1.1) ⟨(0,[]),Nat.zero_le _,rfl⟩ ?_ (fun⟨⟨i,os⟩,hi,hos⟩=>?_)
 ·refine Sa ?_;simp only[ry,seval,rz]
 simp only at hi hos;have hol:=(hpre i hi).1;have hom:=(hpre i hi).2;have hoa:xG os:=by rw[hos];exact zK _ List.Pairwise.nil
 rw[←hos]at hol hom;simp only[vx,T,seval];refine⟨fun h1=>Lg ?_,fun h1=>Lg ?_⟩
 ·have hil:i<N:=by omega
  have i1:=wI i (by omega);have hstep:=EW (ys:=ys) (i:=i) (by omega);obtain⟨a,ha⟩:∃a,a=ys.getD i default:=⟨_,rfl⟩;have hai:=hys.get (i:=i) (by omega);rw[←hos,←ha]at hstep;rw[←ha]at hai;have hall:∀x∈os,cI x.2 a.2≤0:=by
   intro x hx;rw[hos]at hx
   rcases AK hx with⟨m,hm,e⟩|⟨m,hm,_⟩
   ·obtain⟨j,hj,rfl⟩:=List.mem_iff_getElem.1 hm;rw[X5]at hj;rw[List.getElem_take,←getD_eq (by omega)]at e;rw[e,ha];exact hs j i (Nat.zero_le _) (by omega) hil
   cases hm
  simp only[vx,T,seval,AV,AT,AW,AU,AP,←ha];refine⟨by omega,fun h2=>Lg ?_,fun h2=>Lg ?_⟩
  ·obtain⟨k,hk⟩:∃k,k+1=os.length:=⟨os.length-1,by omega⟩;have k1:IntKind.i64.wrap ((os.length:Int)-1)=(k:Int):=by rw[IntWalk.i64_in _ (by omega)];omega
   obtain⟨b,hb⟩:∃b,b=os.getD k default:=⟨_,rfl⟩;have hbm:=hom b (by rw[hb,getD_eq];exact List.getElem_mem (by omega));simp only[vx,T,seval,AV,AT,AW,AU,AP,k1,←ha,←hb];refine⟨by omega,Cg (nZ b.2 a.2 (by omega) (by omega)) ?_⟩;simp only[vx,T,seval];refine⟨fun h3=>Lg ?_,fun h3=>Lg ?_⟩
   ·have h3:b.2=a.2:=fO.1 (by omega);have hset:=EA (c:=a.1) (v:=a.2) hoa hk (by rw[←hb];exact h3);have hlen:(dO a.1 a.2 os).length=os.length:=by rw[hset,List.length_set]
    simp only[vx,T,seval,AV,AT,AW,AU,AP,k1,←ha,←hb];refine⟨by omega,Cg (tX b.1 a.1 (by omega) (by omega)) ?_⟩;simp only[vx,T,seval,QV,QC,xH];simp only[i1];refine⟨by omega,Lq ⟨(i+1,dO a.1 a.2 os),by simp only;omega,hstep.symm⟩ ?_ ?_⟩
    ·refine Sa ?_;simp only[ry,seval,rz,hlen];intro i' j' hi' hj';rw[Gs (by omega) i' j' hi' hj',hset,←hb,h3]
    simp only;omega
   have hins:=zX (c:=a.1) (v:=a.2) hoa hall (fun k' hk' e=>h3 (by rw[show k'=k by omega,←hb]at e;rw[fO.2 e]));have hlen:(dO a.1 a.2 os).length=os.length+1:=by rw[hins,X6];rfl
   simp only[vx,T,seval,AV,AT,AW,AU,AP,←ha];refine Cg (rY a.2 (by omega)) ?_;simp only[vx,T,seval,QV,QC];simp only[i1];refine⟨by omega,Lq ⟨(i+1,dO a.1 a.2 os),by simp only;omega,hstep.symm⟩ ?_ ?_⟩
   ·refine Sa ?_;simp only[ry,seval,rz,hlen];rw[hins];exact nK os (a.1,a.2)
   simp only;omega
  have hins:=zX (c:=a.1) (v:=a.2) hoa hall (fun k' hk'=>absurd h2 (by omega));have hlen:(dO a.1 a.2 os).length=os.length+1:=by rw[hins,X6];rfl
  simp only[vx,T,seval,AV,AT,AW,AU,AP,←ha];refine Cg (rY a.2 (by omega)) ?_;simp only[vx,T,seval,QV,QC];simp only[i1];refine⟨by omega,Lq ⟨(i+1,dO a.1 a.2 os),by simp only;omega,hstep.symm⟩ ?_ ?_⟩
  ·refine Sa ?_;simp only[ry,seval,rz,hlen];rw[hins];exact nK os (a.1,a.2)
  simp only;omega
 have hiN:i=N:=by omega
 have hfin:os=kU ys []:=by rw[hos,hiN,←hyl,List.take_length]
 have hq:LN os:=fun m hm=>by have:=(hom m hm).1;omega
 have hres:os.filter qn=dq l:=by
  rw[hfin,←E7 hp];rfl
 simp only[vx,T,seval];refine Cm 1 rfl trivial (se os rfl (by omega) hq) ?_;rintro _ _ ⟨k,f,rfl,rfl,hk1,hk2,hf⟩ _;simp only[vx,T,seval];rw[hres]at hk2 hf;refine⟨k,_,rfl,hk2,fun i' j' hi' hj'=>?_⟩;exact hf i' j' hi' hj'
open Go Go.Eng
theorem Gm (p q:List ao)(hl:p.length+q.length<2^38):Fr Tryz.prog 41 [.one (.rows 1 2 (fun i j=>[PC p,PC q].getD (i*1+j) .any))] (.rows 68 5 (p++q).length (fR (p++q))):=by
 have h:=xT [p,q] (by simpa using hl) (by simp);rw[show [p,q].flatten=p++q by simp]at h;refine dY h ⟨.cell (dg.rows rfl fun i j hi hj=>dg.of_eq ?_),trivial⟩
 have:j=0:=by omega
 subst this
 match i,hi with
 |0,_=>rfl
 |1,_=>rfl
theorem AF (p q:List Int)(hl:p.length+q.length<2^38):Fr Tryz.prog 42 [.one (.rows 1 2 (fun i j=>[C.ints .i64 p,C.ints .i64 q].getD (i*1+j) .any))] (.ints 3 .i64 (p++q)):=by
 have h:=xz [p,q] (by simpa using hl) (by simp);rw[show [p,q].flatten=p++q by simp]at h;refine dY h ⟨.cell (dg.rows rfl fun i j hi hj=>dg.of_eq ?_),trivial⟩
 have:j=0:=by omega
 subst this
 match i,hi with
 |0,_=>rfl
 |1,_=>rfl
theorem oz {p q:List ao}{n d B n' d' B':Nat}(hp:PB p n d B)(hq:PB q n' d' B')(hd:max d d'<2^30)(hn:(n+n')*(max B B'+1)<2^30)(hB:max B B'<2^30):Pr Tryz.prog 12 [PV p,PV q] (PV (dq (p++q))):=by
 have hl:n+n'<2^30:=Nat.lt_of_le_of_lt (Nat.le_mul_of_pos_right _ (by omega)) hn;have hpl:=hp.n;have hql:=hq.n;refine pw Tryz.func12 ⟨[0,1,4],[]⟩ ?_;simp only[Tryz.f12,Tryz.ntmps12,iz,seval];simp only[vx,T,seval,PV,PC];refine cY.fresh (Gm p q (by omega)) ?_;simp only[vx,T,seval];refine Cm 5 rfl trivial (jR (hp.append hq) hn hl hB hd rfl) ?_;rintro _ _ ⟨k,f,rfl,hk,hf⟩ _;simp only[vx,T,seval];exact Va ⟨rfl,hk,hf⟩
theorem CQ (xs:List Int)(v:Int)(hl:xs.length<2^38)(hv:v∈xs):Pr Tryz.prog 69 [.one (.ints .i64 xs),.one (.int .i64 v)] (.one (.int .i64 (xs.idxOf v:Nat))):=by
 refine pw Tryz.func69 ⟨[0,1,4,5,7,8,9,16],[]⟩ ?_;simp only[Tryz.f69,Tryz.ntmps69,iz,seval];simp only[vx,T,seval];refine Lk (fun y:{i:Nat//i≤xs.length∧∀k,k<i→xs.getD k 0≠v}=>⟨[(0,.one (.ints .i64 xs)),(1,.one (.int .i64 v)),(7,.one (.int .i64 xs.length)),(8,.one (.int .i64 y.1))],[],1,19⟩) (fun y=>xs.length-y.1) ⟨0,Nat.zero_le _,fun k h=>absurd h (Nat.not_lt_zero _)⟩ ?_ (fun⟨i,hi,hz⟩=>?_)
 ·refine Sa ?_;simp only[ry,seval,rz]
 have i1:=wI i (by omega);simp only[vx,T,seval];refine⟨fun h1=>Lg ?_,fun h1=>Lg ?_⟩
 ·simp only[vx,T,seval];refine⟨by omega,?_⟩;refine⟨fun h2=>Lg ?_,fun h2=>Lg ?_⟩
  ·have e1:xs.idxOf v=i:=by
    unfold List.idxOf;rw[List.findIdx_eq (by omega)];refine⟨by have e:=h2;rw[X7,X8 (by omega)]at e;simpa using e.symm,fun j hj=>?_⟩
    have:=hz j hj
    rw[X7,X8 (by omega)]at this
    simpa using this
   simp only[vx,T,seval,e1];exact Ve rfl
  simp only[vx,T,seval];simp only[i1];refine Lq ⟨i+1,by omega,fun k hk=>?_⟩ ?_ ?_
  ·by_cases h3:k<i
   ·exact hz k h3
   rw[show k=i by omega];exact fun e=>h2 e.symm
  ·refine Sa ?_;simp only[ry,seval,rz]
  simp only;omega
 exfalso
 obtain⟨k,hk,rfl⟩:=List.mem_iff_getElem.1 hv;refine hz k (by omega) ?_;rw[X7,X8 hk];rfl
theorem Jp {p:List ao}{n d B:Nat}(h:PB p n d B)(hd:d<2^30)(v:Int):PB (vz p v) n d (B+2):=by
 refine⟨?_,fun m hm=>?_⟩
 ·have:∀l:List ao,(vz l v).length≤l.length:=by
   intro l
   induction l with
   |nil=>exact Nat.le_refl _
   |cons m r ih=>
    have e:vz (m::r) v=(if m.2.count v=0 then[]else[(m.1*(m.2.count v:Nat),m.2.erase v)])++vz r v:=by unfold vz;rw[List.flatMap_cons]
    rw[e,X6,List.length_cons]
    split<;>simp only[List.length_nil,List.length_cons]<;>omega
  exact Nat.le_trans (this p) h.n
 obtain⟨x,hx,he⟩:=List.mem_flatMap.1 hm
 split at he
 ·cases he
 obtain rfl:=List.mem_singleton.1 he;have h1:=h.m x hx;have h2:=Bp x.1 ((x.2.count v:Nat):Rat);have h3:qm ((x.2.count v:Nat):Rat)≤2:=gW (z:=(x.2.count v:Nat)) (by have:=List.count_le_length (a:=v) (l:=x.2);omega);exact⟨by simp only;omega,Nat.le_trans List.length_erase_le h1.2.1,fun y hy=>h1.2.2 y (List.mem_of_mem_erase hy)⟩
theorem sh {l:List Int}{v:Int}:l.take (l.idxOf v)++l.drop (l.idxOf v+1)=l.erase v:=by
 rw[←List.eraseIdx_eq_take_drop_succ];exact(List.erase_eq_eraseIdx_of_idxOf rfl).symm
theorem Bb {l:List Int}{v:Int}{j:Nat}(h:j<l.length):(l.take (j+1)).count v=(l.take j).count v+(if l.getD j 0=v then 1 else 0):=by
 rw[List.take_add_one,List.count_append,X8 h,X7,X8 h]
 simp[List.count_singleton]
theorem Ff {p:List ao}{n d B:Nat}(v:Int)(hp:PB p n d B)(hd:d<2^30)(hn:n*(B+3)<2^30)(hB:B<2^29):Pr Tryz.prog 29 [PV p,.one (.int .i64 v)] (PV (OL p v)):=by
 have hpl:=hp.n;have hn1:n<2^30:=Nat.lt_of_le_of_lt (Nat.le_mul_of_pos_right _ (by omega)) hn;refine pw Tryz.func29 ⟨[0,1,4,5,7,8,10,11,12,13,14,15,16,20,21,22,23,28,33],[]⟩ ?_;simp only[Tryz.f29,Tryz.ntmps29,iz,seval];simp only[vx,T,seval,PV,PC];refine Lk (fun y:{y:Nat×List ao//y.1≤p.length∧y.2=vz (p.take y.1) v∧y.2.length≤y.1}=>⟨[(1,.one (.int .i64 v)),(4,.one .nil),(5,.one (.own 1 5 0 y.1.2.length)),(13,PV p),(14,.one (.int .i64 p.length)),(15,.one (.int .i64 y.1.1))],[(1,⟨.rows 68 5 y.1.2.length (fR y.1.2),true⟩)],5,62⟩) (fun y=>p.length-y.1.1) ⟨(0,[]),by omega,rfl,by simp⟩ ?_ (fun⟨⟨i,ls⟩,hi,hls,hll⟩=>?_)
 ·refine Sa ?_;simp only[ry,seval,rz,PV,PC]
 simp only at hi hls hll;simp only[vx,T,seval,PV,PC];refine⟨fun h1=>Lg ?_,fun h1=>Lg ?_⟩
 ·have hil:i<p.length:=by omega
  have i1:=wI i (by omega);obtain⟨a,ha⟩:∃a,a=p.getD i default:=⟨_,rfl⟩;have hpi:=hp.get hil;have hstep:vz (p.take (i+1)) v=vz (p.take i) v++(if(p.getD i default).2.count v=0 then[]else[((p.getD i default).1*((p.getD i default).2.count v:Nat),(p.getD i default).2.erase v)]):=jS (fun m:ao=>if m.2.count v=0 then[]else[(m.1*(m.2.count v:Nat),m.2.erase v)]) hil;rw[←ha]at hstep hpi;rw[←hls]at hstep;simp only[vx,T,seval,PV,PC,←ha,mC];refine⟨by omega,Lk (fun y:{j:Nat//j≤a.2.length}=>⟨[(1,.one (.int .i64 v)),(4,.one .nil),(5,.one (.own 1 5 0 ls.length)),(7,.one (.ptr 2 0)),(8,.one (.int .i64 ((a.2.take y.1).count v:Nat))),(13,PV p),(14,.one (.int .i64 p.length)),(15,.one (.int .i64 i)),(20,.one (.ints .i64 a.2)),(21,.one (.int .i64 a.2.length)),(22,.one (.int .i64 y.1))],[(1,⟨.rows 68 5 ls.length (fR ls),true⟩),(2,⟨.var (mL a),true⟩)],5,62⟩) (fun y=>a.2.length-y.1) ⟨0,Nat.zero_le _⟩ ?_ (fun⟨j,hj⟩=>?_)⟩
  ·refine Sa ?_;simp only[ry,seval,rz,PV,PC,mL];rfl
  have hcj:(a.2.take j).count v≤j:=Nat.le_trans List.count_le_length (by rw[X5];omega);simp only[vx,T,seval,PV,PC,mL];refine⟨fun h2=>Lg ?_,fun h2=>Lg ?_⟩
  ·have j1:IntKind.i64.wrap ((j:Int)+1)=((j+1:Nat):Int):=by rw[IntWalk.i64_in _ (by omega)];omega
   have c1:IntKind.i64.wrap (((a.2.take j).count v:Int)+1)=(((a.2.take j).count v+1:Nat):Int):=by rw[IntWalk.i64_in _ (by omega)];omega
   have hcs:=Bb (l:=a.2) (v:=v) (j:=j) (by omega);simp only[vx,T,seval,PV,PC,mL];refine⟨by omega,?_⟩;refine⟨fun h3=>Lg ?_,fun h3=>Lg ?_⟩
   ·rw[if_pos h3]at hcs;simp only[vx,T,seval,PV,PC,mL];simp only[j1,c1];rw[←hcs];refine Lq ⟨j+1,by omega⟩ ?_ ?_
    ·refine Sa ?_;simp only[ry,seval,rz,PV,PC,mL]
    simp only;omega
   have hcs:(a.2.take (j+1)).count v=(a.2.take j).count v:=by rw[hcs,if_neg h3];rfl
   simp only[vx,T,seval,PV,PC,mL];simp only[j1];rw[←hcs];refine Lq ⟨j+1,by omega⟩ ?_ ?_
   ·refine Sa ?_;simp only[ry,seval,rz,PV,PC,mL]
   simp only;omega
  have hja:a.2.take j=a.2:=List.take_of_length_le (by omega);rw[hja]at hcj⊢;simp only[vx,T,seval,PV,PC,mL];refine⟨fun h3=>Lg ?_,fun h3=>Lg ?_⟩
  ·rw[if_pos (by omega),List.append_nil]at hstep;simp only[vx,T,seval,PV,PC,mL];simp only[i1];refine Lq ⟨(i+1,ls),by simp only;omega,hstep.symm,by simp only;omega⟩ ?_ ?_
   ·refine Sa ?_;simp only[ry,seval,rz,PV,PC,mL]
   simp only;omega
  have hcv:a.2.count v≠0:=by omega
  have hva:v∈a.2:=by
   rcases Nat.eq_zero_or_pos (a.2.count v)with h|h
   ·exact absurd h hcv
   exact List.count_pos_iff.1 h
  rw[if_neg hcv]at hstep;have hix:a.2.idxOf v<a.2.length:=List.idxOf_lt_length_of_mem hva;have hte:=sh (l:=a.2) (v:=v);obtain⟨x,hx⟩:∃x,x=a.2.idxOf v:=⟨_,rfl⟩;have hidx:=CQ a.2 v (by omega) hva;rw[←hx]at hix hte hidx;have x1:IntKind.i64.wrap ((x:Int)+1)=((x+1:Nat):Int):=by rw[IntWalk.i64_in _ (by omega)];omega
  have e7:(a.2.drop (x+1)).take ((a.2.length:Int)-((x+1:Nat):Int)).toNat=a.2.drop (x+1):=by
   rw[List.take_of_length_le];rw[List.length_drop];omega
  simp only[vx,T,seval,PV,PC,mL];refine Cg hidx ?_;simp only[vx,T,seval,PV,PC,mL,x1];simp only[e7];refine⟨by omega,by omega,cY.fresh (AF _ _ (by rw[X5,List.length_drop];omega)) ?_⟩;rw[hte];simp only[vx,T,seval,PV,PC,mL];refine Cg (bA (a.2.count v:Nat) (by omega) (by omega)) ?_;simp only[vx,T,seval,QV,QC];refine Cg (ov a.1 (Rat.ofInt (a.2.count v:Nat)) (by omega) (Nat.lt_of_le_of_lt (gW (by omega)) (by decide))) ?_;have hcast:Rat.ofInt ((a.2.count v:Nat):Int)=((a.2.count v:Nat):Rat):=rfl;rw[hcast];obtain⟨c,hc⟩:∃c,c=a.1*((a.2.count v:Nat):Rat):=⟨_,rfl⟩;rw[←hc]at hstep⊢;have hlen:(ls++[(c,a.2.erase v)]).length=ls.length+1:=by simp
  simp only[vx,T,seval,QV,QC];simp only[i1];refine⟨by omega,Lq ⟨(i+1,ls++[(c,a.2.erase v)]),by simp only;omega,hstep.symm,by simp only;omega⟩ ?_ ?_⟩
  ·refine Sa ?_;simp only[ry,seval,rz,PV,PC,mL,hlen];exact nK ls (c,a.2.erase v)
  simp only;omega
 have hil:i=p.length:=by omega
 have e1:ls=vz p v:=by rw[hls,hil,List.take_length]
 subst e1;simp only[vx,T,seval];refine Cm 1 rfl trivial (jR (Jp hp hd v) (by omega) hn1 (by omega) hd rfl) ?_;rintro _ _ ⟨k,f,rfl,hk,hf⟩ _;simp only[vx,T,seval,PV,PC];exact Va ⟨rfl,hk,hf⟩
end Go.Proofs.YtgalhjhdgkoemaaGreat
/-
  slices.Sort of integers, as a function that turns a block.
-/
namespace Go.Proofs.YtgalhjhdgkoemaaGreat
open Go Go.Proofs Go.Eng Go.Sort
theorem tE (xs:List Int):(xs.mergeSort fun x y=>decide (x≤y))=gz xs:=rfl
def Oz (e:TypeId)(xs:List Int)(r:V)(B':Bk):Prop:=r= .aJ []∧B'= .ints e .i64 (gz xs)
theorem iG (w:World)(oB k:Nat)(f:Array Value→Array Value)(h:k≠oB):(mapBlock w oB f).heap[k]? =w.heap[k]? :=by
 simp only[mapBlock,Array.getElem?_modify];rw[if_neg (fun e=>h e.symm)]
theorem oL (w:World)(oB:Nat)(f:Array Value→Array Value){c:Array Value}{e:TypeId}{fr:Nat×Nat}(h:w.heap[oB]? =some (.cells c e fr)):(mapBlock w oB f).heap[oB]? =some (.cells (f c) e fr):=by
 simp[mapBlock,Array.getElem?_modify,h,onCells]
theorem B8 (e:TypeId)(xs:List Int)(hl:xs.length<2^38):Mc Tryz.prog 43 [.one (.own 0 1 0 xs.length)] (.ints e .i64 xs) (Oz e xs):=by
 refine⟨⟨_,Tryz.func43,by rfl,by rfl⟩,fun ok w vs l hok hll hla hb hr=>?_⟩;obtain⟨vs⟩:=vs
 match vs,hr with
 |[v],hr=>
  obtain⟨⟨_,_,cap,hcap,hv⟩,_⟩:=hr;have hsl:(gz xs).length=xs.length:=mG xs
  by_cases h0:xs.length=0
  ·have hx:xs=[]:=List.eq_nil_of_length_eq_zero h0;subst hx;have hv2:∃p c,v= .slice p 0 c:=by
    rcases hv with⟨g,o,o',_,rfl,_⟩|⟨_,rfl,_⟩
    ·exact⟨_,_,rfl⟩
    exact⟨_,_,rfl⟩
   obtain⟨p,c,rfl⟩:=hv2
   refine(Tryz.slices_Sort_int_none p c w).mono ?_
   rintro e1 w' ⟨rfl,rfl⟩;have hs0:gz []=[]:=List.eq_nil_of_length_eq_zero hsl;refine⟨_,.aJ [],.ints e .i64 [],rfl,⟨rfl,by rw[hs0]⟩,trivial,rfl,⟨rfl,rfl,rfl,Nat.le_refl _,fun _ _ _=>rfl,fun _=>Nat.le_refl _⟩,?_,⟨#[],rfl,trivial⟩⟩;refine aT.ext (Ext.dG fun g hg=>.inl hg) ⟨fun _ h=>h,fun _ _=>rfl⟩ l _ (fun _ _ _=>rfl) hb
  rcases hv with⟨g,o,o',ha,rfl,ho,hroom⟩|⟨_,_,h1,_⟩
  ·have ho':o'=o:=by rcases ho with ho|ho<;>omega
   subst ho';unfold aT at hb;rw[ha]at hb;obtain⟨cur,e',hg,hcell⟩:=hb;have hgl:=(hla g o' ha).1;have hx:∀j,j<xs.length→cur[o'+j]? =some (.int .i64 (xs.getD j 0)):=by
    intro j hj;obtain⟨u,hu,hru⟩:=hcell j (.int .i64 (xs.getD j 0)) (by simp[Bk.cell,X8 hj]);have hru:u= .int .i64 (xs.getD j 0):=hru;rw[hu,hru]
   have hH:Holds (Value.int .i64) w g o' xs.toArray:=by
    intro j hj;have hj:j<xs.length:=by simpa using hj
    refine⟨?_,?_⟩
    ·rw[World.cell?,hg];simp only[Option.isSome_none,Bool.false_eq_true,if_false];rw[hx j hj]
     congr 2
     simp[X7,hj]
    simp only[World.frozen?,hg]
    simp
   refine(Tryz.slices_Sort_int g o' cap xs w hH hgl (by omega)).mono ?_
   rintro e1 w' ⟨rfl,n,os,rfl⟩;rw[tE];have hgl':g<(putRow (Value.int .i64) (Sort.ahead w n) g o' (gz xs).toArray).heap.size:=by simpa using hgl
   have hgs:(putRow (Value.int .i64) (Sort.ahead w n) g o' (gz xs).toArray).heap[g]? =some (.cells (putCells (Value.int .i64) o' (gz xs).toArray cur) e' (0,0)):=oL (Sort.ahead w n) g _ hg;refine⟨_,.aJ [],.ints e .i64 (gz xs),rfl,⟨rfl,rfl⟩,trivial,hsl,⟨rfl,rfl,rfl,by simp,fun k hk hne=>?_,fun g'=>?_⟩,?_,⟨#[],rfl,trivial⟩⟩
   ·rw[heap_grow_old _ _ (by simpa using hk)];exact iG (Sort.ahead w n) g k _ (fun e=>hne o' (by rw[e];exact ha))
   ·by_cases hg':g'<w.heap.size
    ·by_cases hgg:g'=g
     ·subst hgg;simp only[b6,heap_grow_old _ _ hgl',hgs,hg,putCells]
      simp
     rw[bT (w':=grow _ os) (w:=w) (by rw[heap_grow_old _ _ (by simpa using hg')];exact iG (Sort.ahead w n) g g' _ hgg)];exact Nat.le_refl _
    rw[gy hg'];exact Nat.zero_le _
   unfold aT;rw[ha];refine⟨_,e',by rw[heap_grow_old _ _ hgl'];exact hgs,fun j c hj=>?_⟩;simp only[Bk.cell]at hj;have hjl:j<(gz xs).length:=by
    rcases Nat.lt_or_ge j (gz xs).length with h|h
    ·exact h
    rw[List.getElem?_eq_none h]at hj;cases hj
   rw[X8 hjl]at hj;simp only[Option.map_some,Option.some.injEq]at hj;subst hj;refine⟨.int .i64 ((gz xs)[j]),?_,rfl⟩;have hc:=hx j (by omega);simp only[putCells,Array.getElem?_mapIdx,hc,Option.map_some];rw[if_pos ⟨by omega,by simp;omega⟩]
   congr 2
   simp[hjl]
  exact absurd h1 h0
open Go Go.Eng
theorem jD {p q:List ao}{n d B n' d' B':Nat}(hp:PB p n d B)(hq:PB q n' d' B')(hd:d+d'<2^30)(hn:n*n'*(B+B'+1)<2^30)(hn1:n<2^30)(hn2:n'<2^30)(hB:B+B'<2^30):Pr Tryz.prog 13 [PV p,PV q] (PV (mulM p q)):=by
 have hpl:=hp.n;have hql:=hq.n;obtain⟨g,hg⟩:∃g:ao→ao→ao,g=fun a b=>(a.1*b.1,gz (a.2++b.2)):=⟨_,rfl⟩;have hnn:n*n'<2^30:=Nat.lt_of_le_of_lt (Nat.le_mul_of_pos_right _ (by omega)) hn;have hL:p.length*q.length≤n*n':=Nat.mul_le_mul hpl hql;have hlen:∀x,x≤p.length→((p.take x).flatMap fun a=>q.map (g a)).length=x*q.length:=by
  intro x hx
  have:∀l:List ao,(l.flatMap fun a=>q.map (g a)).length=l.length*q.length:=by
   intro l
   induction l with
   |nil=>simp
   |cons a l ih=>rw[List.flatMap_cons,X6,ih,List.length_map,List.length_cons,Nat.add_mul];omega
  rw[this,X5,Nat.min_eq_left hx]
 refine pw Tryz.func13 ⟨[0,1,4,5,7,9,10,11,12,13,14,17,18,19,20],[]⟩ ?_;simp only[Tryz.f13,Tryz.ntmps13,iz,seval];simp only[vx,T,seval,PV,PC];refine Lk (fun y:{y:Nat×List ao//y.1≤p.length∧y.2=(p.take y.1).flatMap fun a=>q.map (g a)}=>⟨[(1,PV q),(4,.one .nil),(5,.one (.own 1 5 0 y.1.2.length)),(11,PV p),(12,.one (.int .i64 p.length)),(13,.one (.int .i64 y.1.1))],[(1,⟨.rows 68 5 y.1.2.length (fR y.1.2),true⟩)],5,45⟩) (fun y=>p.length-y.1.1) ⟨(0,[]),by omega,rfl⟩ ?_ (fun⟨⟨i,ls⟩,hi,hls⟩=>?_)
 ·refine Sa ?_;simp only[ry,seval,rz,PV,PC]
 simp only at hi hls;simp only[vx,T,seval,PV,PC];refine⟨fun h1=>Lg ?_,fun h1=>Lg ?_⟩
 ·have hil:i<p.length:=by omega
  have i1:=wI i (by omega);obtain⟨a,ha⟩:∃a,a=p.getD i default:=⟨_,rfl⟩;have hpi:=hp.get hil;have hstep:=jS (fun a=>q.map (g a)) hil;rw[←ha]at hstep hpi;rw[←hls]at hstep;simp only[vx,T,seval,PV,PC,←ha,mC];refine⟨by omega,Lk (fun y:{y:Nat×List ao//y.1≤q.length∧y.2=ls++(q.take y.1).map (g a)}=>⟨[(1,PV q),(4,.one .nil),(5,.one (.own 1 5 0 y.1.2.length)),(7,.one (.ptr 2 0)),(11,PV p),(12,.one (.int .i64 p.length)),(13,.one (.int .i64 i)),(17,PV q),(18,.one (.int .i64 q.length)),(19,.one (.int .i64 y.1.1))],[(1,⟨.rows 68 5 y.1.2.length (fR y.1.2),true⟩),(2,⟨.var (mL a),true⟩)],5,45⟩) (fun y=>q.length-y.1.1) ⟨(0,ls),by omega,by simp⟩ ?_ (fun⟨⟨k,ks⟩,hk,hks⟩=>?_)⟩
  ·refine Sa ?_;simp only[ry,seval,rz,PV,PC,mL]
  simp only at hk hks;simp only[vx,T,seval,PV,PC,mL];refine⟨fun h2=>Lg ?_,fun h2=>Lg ?_⟩
  ·have hkl:k<q.length:=by omega
   have k1:IntKind.i64.wrap ((k:Int)+1)=((k+1:Nat):Int):=by rw[IntWalk.i64_in _ (by omega)];omega
   obtain⟨b,hb⟩:∃b,b=q.getD k default:=⟨_,rfl⟩;have hqk:=hq.get hkl;have hstep2:=u7 (g a) hkl;rw[←hb]at hstep2 hqk;have hll:=hlen i hi;rw[←hls]at hll;have hks2:ks.length=ls.length+k:=by rw[hks,X6,List.length_map,X5];omega
   have hil2:(i+1)*q.length≤p.length*q.length:=Nat.mul_le_mul_right _ hil;rw[Nat.add_mul]at hil2;have e9:(ks++[g a b]).length=ks.length+1:=by simp
   have hab:(a.2++b.2).length<2^38:=by rw[X6];omega
   simp only[vx,T,seval,PV,PC,←hb,mC];refine⟨by omega,cY.fresh (AF a.2 b.2 (by omega)) ?_⟩;simp only[vx,T,seval,PV,PC,mL];refine Cm 14 rfl trivial (B8 3 (a.2++b.2) hab) ?_;rintro _ _ ⟨rfl,rfl⟩ _;obtain⟨v,hv⟩:∃v,v=gz (a.2++b.2):=⟨_,rfl⟩;have hvl:v.length=(a.2++b.2).length:=by rw[hv,mG]
   have hgab:g a b=(a.1*b.1,v):=by rw[hg,hv]
   rw[←hv,←hvl];simp only[vx,T,seval,PV,PC,mL];refine Cg (ov a.1 b.1 (by omega) (by omega)) ?_;simp only[vx,T,seval,PV,PC,QV,QC];simp only[k1];refine⟨by omega,Lq ⟨(k+1,ks++[g a b]),by simp only;omega,by rw[hks,List.append_assoc,←hstep2]⟩ ?_ ?_⟩
   ·refine Sa ?_;simp only[ry,seval,rz,PV,PC,mL,e9];rw[hgab];exact N3 rfl (a.1*b.1,v)
   simp only;omega
  have hkl:k=q.length:=by omega
  simp only[vx,T,seval,PV,PC];simp only[i1];refine Lq ⟨(i+1,ks),by simp only;omega,by rw[hstep,hks,hkl,List.take_length]⟩ ?_ ?_
  ·refine Sa ?_;simp only[ry,seval,rz,PV,PC]
  simp only;omega
 have hil:i=p.length:=by omega
 have e1:ls=jI (mulL p q):=by
  rw[hls,hil,List.take_length,hg];unfold mulL;rw[xn];refine uR fun a _=>?_;unfold jI;rw[List.map_map];rfl
 subst e1;simp only[vx,T,seval];refine Cm 1 rfl trivial (jR (hp.mulL hq).jI hn hnn hB hd rfl) ?_;rintro _ _ ⟨k,f,rfl,hk,hf⟩ _;rw[←ss]at hk hf;simp only[vx,T,seval,PV,PC];exact Va ⟨rfl,hk,hf⟩
theorem PB.one {c:Rat}{v:List Int}{d B:Nat}(hc:qm c≤B)(hd:v.length≤d)(hv:fS v):PB [(c,v)] 1 d B:=
 ⟨Nat.le_refl _,fun m hm=>by obtain rfl:=List.mem_singleton.1 hm;exact⟨hc,hd,hv⟩⟩
theorem py:fS []:=fun x hx=>by cases hx
theorem Fp {P:Program}{f:FuncId}{g:Nat→Nat→C}{R:V→Bk→Prop}(h:Mc P f [.one (.own 0 5 0 1)] (.rows 68 5 1 g) R){ok:Nat→Prop}{w:World}(hok:∀g,ok g→g<w.heap.size)(o1:Obj)(cells:Array Value)
  (hs:cells.size=5) (hrep:∀j,j<5→∃u,cells[j]? =some u∧aM ok w (g 0 j) u):
  Calls P f #[.slice (some ⟨w.heap.size+1,0,none⟩) 1 1] ((w.alloc o1).alloc (.cells cells 68)) fun e w'=>∃v r B',e= .returned v∧R r B'∧Go.RowKit.Below w.heap.size w w'∧
   ∀k f,r= .one (.rows 5 k f)→aM (fun g=>ok g∨(w.heap.size≤g∧g<w'.heap.size)) w' (.rows 5 k f) v:=by
 obtain⟨W,hW⟩:∃W,W=(w.alloc o1).alloc (.cells cells 68):=⟨_,rfl⟩;have hb1:=eD w o1;have hb2:=eD (w.alloc o1) (.cells cells 68);have hWs:W.heap.size=w.heap.size+2:=by rw[hW];simp
 have hWg:W.heap[w.heap.size+1]? =some (.cells cells 68 (0,0)):=by
  rw[hW]
  have:=heap_alloc_new (w.alloc o1) (.cells cells 68)
  simpa using this
 have hWk:∀k,k<w.heap.size→W.heap[k]? =w.heap[k]? :=fun k hk=>by
  rw[hW,hb2.block k (by simp;omega),hb1.block k hk]
 have hx:Ext ok ok w W:=⟨fun g hg=>⟨hg,hWk g (hok g hg)⟩,fun g=>by
  by_cases hg:g<w.heap.size
  ·rw[bT (hWk g hg)];exact Nat.le_refl _
  rw[gy hg];exact Nat.zero_le _⟩
 rw[←hW]
 refine(h.2 ok W #[.slice (some ⟨w.heap.size+1,0,none⟩) 1 1] ⟨some (w.heap.size+1,0),1⟩ (fun g hg=>by have:=hok g hg;omega) rfl (fun g o he=>?_) ?_ ⟨⟨rfl,Nat.le_refl _,1,Nat.le_refl _,.inl ⟨w.heap.size+1,0,0,rfl,rfl,.inr (by simp),?_⟩⟩,trivial⟩).mono ?_
 ·have:w.heap.size+1=g:=by simpa using congrArg (Option.map Prod.fst) he
  subst this;exact⟨by omega,fun hg=>by have:=hok _ hg;omega⟩
 ·unfold aT;refine⟨cells,68,hWg,fun j c hj=>?_⟩;simp only[Bk.cell]at hj
  split at hj
  ·rename_i hj5
   obtain rfl:=Option.some.inj hj;obtain⟨u,hu,hr⟩:=hrep j (by omega);rw[Nat.zero_add,show j/5=0 by omega,show j%5=j by omega];exact⟨u,hu,aM.ext hx _ _ hr⟩
  cases hj
 ·rw[cL hWg,hs];exact Nat.le_refl _
 rintro e w' ⟨v,r,B',he,hR,_,_,hM,_,hv⟩;refine⟨v,r,B',he,hR,?_,?_⟩
 ·have hsz:=hM.size;have ho:W.os=w.os∧W.tape=w.tape∧W.output=w.output:=by rw[hW];exact⟨rfl,rfl,rfl⟩
  exact⟨hM.os.trans ho.1,hM.tape.trans ho.2.1,hM.output.trans ho.2.2,by omega,fun k hk=>(hM.block k (by omega) (fun o e=>by
   have:w.heap.size+1=k:=by simpa using congrArg (Option.map Prod.fst) e
   omega)).trans (hWk k hk)⟩
 rintro k f rfl;have h1:aM (Eng.so ok W w') w' (.rows 5 k f) v:=hv
 exact aM.ext (Ext.dG fun g hg=>by rcases hg with hg|⟨h1,h2⟩;exact .inl hg;exact .inr ⟨by omega,h2⟩) _ _ h1
set_option maxRecDepth 100000 in
theorem uN (c:Rat){B:Nat}(hc:qm c≤B)(hB:B<2^29):Pr Tryz.prog 57 [QV c] (PV (dq [(c,[])])):=by
 have hm:=jR (PB.one (d:=0) hc (Nat.le_refl _) py) (by omega) (by decide) (by omega) (by decide) (rfl:[(c,([]:List Int))].length=1);refine⟨⟨_,Tryz.func57,by rfl,by rfl⟩,fun ok w vs hok hr=>?_⟩;obtain⟨vs⟩:=vs
 match vs,hr with
 |[v],hr=>
  obtain⟨⟨us,rfl,hl⟩,_⟩:=hr;obtain⟨us⟩:=us;have hlen:us.length=4:=(b5.length hl).symm
  match us,hlen,hl with
  |[u0,u1,u2,u3],_,hl=>
   obtain⟨h0,h1,h2,h3,_⟩:=hl;have h0:u0= .bool (zs c.num):=h0;have h2:u2= .bool (zs (c.den:Int)):=h2;have h1:aM ok w (.ints .u32 (zm c.num)) u1:=aM.dI h1;have h3:aM ok w (.ints .u32 (zm (c.den:Int))) u3:=aM.dI h3;subst h0 h2;have h1':=h1;have h3':=h3;obtain⟨a1,c1,rfl,_,_⟩:=h1;obtain⟨a3,c3,rfl,_,_⟩:=h3;have hm1:Mc Tryz.prog 40 [.one (.own 0 5 0 1)] (.rows 68 5 1 (fR [(c,[])])) (OJ [(c,[])]):=hm;have hcells:∀j,j<5→∃u,#[Value.bool (zs c.num),Value.slice a1 (zm c.num).length c1,Value.bool (zs ↑c.den),Value.slice a3 (zm ↑c.den).length c3,Value.slice none 0 0][j]? =some u∧aM ok w (fR [(c,[])] 0 j) u:=by
    intro j hj
    match j,hj with
    |0,_=>exact⟨_,rfl,rfl⟩
    |1,_=>exact⟨_,rfl,h1'⟩
    |2,_=>exact⟨_,rfl,rfl⟩
    |3,_=>exact⟨_,rfl,h3'⟩
    |4,_=>exact⟨_,rfl,dg.qp .i64 ok w _ rfl⟩
   clear hr hl hm
   go_enter Tryz.func57,Tryz.ntmps57
   go_wp2_with (go_at_call 40;refine(Fp hm1 hok _ _ rfl hcells).mono ?_;rintro e w' ⟨v,r,B',rfl,⟨k,f,rfl,hk,hf⟩,hB,hv⟩)
   go_ret
   refine⟨v,rfl,hB,?_⟩;have h5:=hv k f rfl;exact aW.bw (ρ:=bz) (dom:=bH) (dg.rows hk (fun i j hi hj=>dg.of_eq (hf i j hi hj)) _ _ _ h5)
theorem An (v:Int):Pr Tryz.prog 59 [.one (.int .i64 v)] (PV [(Rat.ofInt 1,[v])]):=by
 refine pw Tryz.func59 ⟨[0,2],[]⟩ ?_;simp only[Tryz.f59,Tryz.ntmps59,iz,seval];simp only[vx,T,seval];refine Cg (bA 1 (by decide) (by decide)) ?_;simp only[vx,T,seval,QV,QC];refine Va ⟨rfl,rfl,fun i j hi hj=>?_⟩;obtain rfl:i=0:=by omega
 show[C.bool _,C.ints .u32 _,C.bool _,C.ints .u32 _,C.ints .i64 [v]].getD (0*5+j) C.any=mC (Rat.ofInt 1,[v]) j
 rw[Nat.zero_mul,Nat.zero_add];exact sR (Rat.ofInt 1,[v]) hj
def Jk (q:List ao):List ao:=mulM (dq [(Rat.ofInt (-1),[])]) q
def Cz (p q:List ao):List ao:=dq (p++Jk q)
theorem NI:qm (Rat.ofInt 1)≤2:=gW (by decide)
theorem oX:qm (Rat.ofInt (-1))≤2:=gW (by decide)
theorem Ho {q:List ao}{n d B:Nat}(hq:PB q n d B):PB (Jk q) n d (n*(B+4)):=by
 have h:=((PB.one (d:=0) oX (Nat.le_refl _) py).dq).mulM hq;rw[Nat.one_mul,Nat.one_mul,Nat.zero_add]at h;exact h.mono (Nat.le_refl _) (Nat.le_refl _) (Nat.mul_le_mul_left _ (by omega))
theorem Ix {p q:List ao}{n d B n' d' B':Nat}(hp:PB p n d B)(hq:PB q n' d' B'):PB (Cz p q) (n+n') (max d d') ((n+n')*(max B (n'*(B'+4))+1)):=(hp.append (Ho hq)).dq
theorem oF {p q:List ao}{n d B n' d' B':Nat}(hp:PB p n d B)(hq:PB q n' d' B')(hd:max d d'<2^30)(hn:(n+n')*(max B (n'*(B'+4))+1)<2^30)(hB:max B (n'*(B'+4))<2^30)(hB':B'<2^28)(hn':n'*(B'+4)<2^30)(hn2:n'<2^30):
  Pr Tryz.prog 62 [PV p,PV q] (PV (Cz p q)):=by
 have h1:=(PB.one (d:=0) oX (Nat.le_refl _) py).dq;have h2:=jD h1 hq (by omega) (by rw[Nat.one_mul];exact Nat.lt_of_le_of_lt (Nat.mul_le_mul_left _ (by omega)) hn') (by decide) hn2 (by omega);have h3:=oz hp (Ho hq) hd hn hB;refine pw Tryz.func62 ⟨[0,1,4],[]⟩ ?_;simp only[Tryz.f62,Tryz.ntmps62,iz,seval];simp only[vx,T,seval,PV,PC,QV,QC];refine Cg (bA (-1) (by decide) (by decide)) ?_;simp only[vx,T,seval,PV,PC,QV,QC];refine Cg (uN (Rat.ofInt (-1)) oX (by decide)) ?_;simp only[vx,T,seval,PV,PC,QV,QC];refine Cg h2 ?_;simp only[vx,T,seval,PV,PC,QV,QC];refine Cg h3 ?_;simp only[vx,T,seval,PV,PC,QV,QC];exact Ve rfl
theorem ym {p:List ao}{n d B:Nat}(hp:PB p n d B)(hd:d+d<2^30)(hn:n*n*(B+B+1)<2^30)(hn1:n<2^30)(hB:B+B<2^30):Pr Tryz.prog 65 [PV p] (PV (mulM p p)):=by
 refine pw Tryz.func65 ⟨[0,2],[]⟩ ?_;simp only[Tryz.f65,Tryz.ntmps65,iz,seval];simp only[vx,T,seval,PV,PC,QV,QC];refine Cg (jD hp hp hd hn hn1 hn1 hB) ?_;simp only[vx,T,seval,PV,PC,QV,QC];exact Ve rfl
def VV (a:List ao×List ao):V:=.agg [PC a.1,PC a.2]
theorem Iq (a b:List ao×List ao){r:List ao}(h1:Pr Tryz.prog 13 [PV a.1,PV b.1] (PV (mulM a.1 b.1)))(h2:Pr Tryz.prog 13 [PV a.2,PV b.2] (PV (mulM a.2 b.2)))
  (h3:Pr Tryz.prog 12 [PV (mulM a.1 b.1),PV (mulM a.2 b.2)] (PV r)):Pr Tryz.prog 64 [VV a,VV b] (PV r):=by
 refine pw Tryz.func64 ⟨[0,1,2,3,4],[]⟩ ?_;simp only[Tryz.f64,Tryz.ntmps64,iz,seval];simp only[vx,T,seval,VV,PV,PC];refine Cg h1 ?_;simp only[vx,T,seval,VV,PV,PC];refine Cg h2 ?_;simp only[vx,T,seval,VV,PV,PC];refine Cg h3 ?_;simp only[vx,T,seval,VV,PV,PC];exact Ve rfl
def GL (v:Int):List ao:=[(Rat.ofInt 1,[v])]
def JY (i:Nat):List ao×List ao:=(GL (2*i),GL (2*i+1))
theorem s9 (i:Nat)(hi:i<2^40):Pr Tryz.prog 61 [.one (.int .i64 i)] (VV (JY i)):=by
 have w1:IntKind.i64.wrap (2*(i:Int))=2*(i:Int):=IntWalk.i64_in _ (by omega);have w2:IntKind.i64.wrap (2*(i:Int)+1)=2*(i:Int)+1:=IntWalk.i64_in _ (by omega);refine pw Tryz.func61 ⟨[0,2],[]⟩ ?_;simp only[Tryz.f61,Tryz.ntmps61,iz,seval];simp only[vx,T,seval,w1];refine Cg (An _) ?_;simp only[vx,T,seval,PV,PC,w1,w2];refine Cg (An _) ?_;simp only[vx,T,seval,PV,PC,VV,JY,GL];exact Ve rfl
theorem mR {v:Int}(h0:0≤v)(h1:v<9223372036854775808):PB (GL v) 1 1 2:=PB.one NI (Nat.le_refl _) (fun x hx=>by
 obtain rfl:=List.mem_singleton.1 hx;exact⟨h0,h1⟩)
def tn (i k:Nat):List ao×List ao:=(Cz (JY k).1 (JY i).1,Cz (JY k).2 (JY i).2)
theorem Kz (i k:Nat)(hi:i<2^40)(hk:k<2^40):PB (tn i k).1 2 1 14:=(Ix (mR (by omega) (by omega)) (mR (by omega) (by omega))).mono (by decide) (by decide) (by decide)
theorem JU (i k:Nat)(hi:i<2^40)(hk:k<2^40):PB (tn i k).2 2 1 14:=(Ix (mR (by omega) (by omega)) (mR (by omega) (by omega))).mono (by decide) (by decide) (by decide)
theorem Ih (i k:Nat)(hi:i<2^40)(hk:k<2^40):Pr Tryz.prog 63 [.one (.int .i64 i),.one (.int .i64 k)] (VV (tn i k)):=by
 have h1:=oF (mR (v:=2*(k:Int)) (by omega) (by omega)) (mR (v:=2*(i:Int)) (by omega) (by omega)) (by decide) (by decide) (by decide) (by decide) (by decide) (by decide);have h2:=oF (mR (v:=2*(k:Int)+1) (by omega) (by omega)) (mR (v:=2*(i:Int)+1) (by omega) (by omega)) (by decide) (by decide) (by decide) (by decide) (by decide) (by decide);refine pw Tryz.func63 ⟨[0,1,4,5,6],[]⟩ ?_;simp only[Tryz.f63,Tryz.ntmps63,iz,seval];simp only[vx,T,seval];refine Cg (s9 i hi) ?_;simp only[vx,T,seval,VV,PC,JY];refine Cg (s9 k hk) ?_;simp only[vx,T,seval,VV,PC,JY];refine Cg h1 ?_;simp only[vx,T,seval,PV,PC];refine Cg h2 ?_;simp only[vx,T,seval,PV,PC,VV,tn];exact Ve rfl
end Go.Proofs.YtgalhjhdgkoemaaGreat
/-
  The example of the chapter, reckoned.
-/
namespace Go.Eng
def Ck (x:Int):List Int→List Int
 |[]=>[x]
 |y::ys=>if x≤y then x::y::ys else y::Ck x ys
def FU:List Int→List Int
 |[]=>[]
 |x::xs=>Ck x (FU xs)
theorem qO (x:Int):∀l,(Ck x l).Perm (x::l)
 |[]=>.refl _
 |y::ys=>by
  simp only[Ck]
  split
  ·exact .refl _
  exact((qO x ys).cons y).trans (List.Perm.swap x y ys)
theorem IS {x z:Int}{l:List Int}(h:z∈Ck x l):z=x∨z∈l:=by simpa using(qO x l).mem_iff.1 h
theorem vY (x:Int):∀{l:List Int},l.Pairwise (· ≤ ·)→(Ck x l).Pairwise (· ≤ ·)
 |[],_=>List.pairwise_cons.2 ⟨(fun _ h=>by cases h),List.Pairwise.nil⟩
 |y::ys,h=>by
  simp only[Ck];have h1:=List.pairwise_cons.1 h
  split
  ·rename_i hxy
   refine List.pairwise_cons.2 ⟨fun z hz=>?_,h⟩
   rcases List.mem_cons.1 hz with rfl|hz
   ·exact hxy
   exact Int.le_trans hxy (h1.1 z hz)
  rename_i hxy
  refine List.pairwise_cons.2 ⟨fun z hz=>?_,vY x h1.2⟩
  rcases IS hz with rfl|hz
  ·omega
  exact h1.1 z hz
theorem wG:∀l,(FU l).Perm l
 |[]=>.refl _
 |x::xs=>(qO x _).trans ((wG xs).cons x)
theorem wF:∀l,(FU l).Pairwise (· ≤ ·)
 |[]=>List.Pairwise.nil
 |x::xs=>vY x (wF xs)
theorem KH (l:List Int):gz l=FU l:=by rw[←BK (wG l),Ez (wF l)]
def aj (p q:List ao):List ao:=dq ((mulL p q).map fun m=>(m.1,FU m.2))
theorem Nn (p q:List ao):mulM p q=aj p q:=by
 rw[ss];unfold aj jI
 congr 1
 exact List.map_congr_left fun m _=>by rw[KH]
def aG (q:List ao):List ao:=aj (dq [(Rat.ofInt (-1),[])]) q
def Ee (p q:List ao):List ao:=dq (p++aG q)
def zd (v:Int):List ao:=[(Rat.ofInt 1,[v])]
def Pu:List ao:=Ee (dq (aj (Ee (zd 2) (zd 0)) (Ee (zd 2) (zd 0))++aj (Ee (zd 3) (zd 1)) (Ee (zd 3) (zd 1)))) (aj (dq [(Rat.ofInt 5,[])]) (dq [(Rat.ofInt 5,[])]))
def I0:List ao:=[(Rat.ofInt (-25),[]),(Rat.ofInt 1,[0,0]),(Rat.ofInt (-2),[0,2]),(Rat.ofInt 1,[1,1]),(Rat.ofInt (-2),[1,3]),(Rat.ofInt 1,[2,2]),(Rat.ofInt 1,[3,3])]
theorem Na:Pu=I0:=by decide+kernel
theorem NK:OL I0 0=[(Rat.ofInt 2,[0]),(Rat.ofInt (-2),[2])]:=by decide+kernel
end Go.Eng
namespace Go.Proofs.YtgalhjhdgkoemaaGreat
open Go Go.Eng
theorem eW (n:Int)(vs:List Int)(h1: -9223372036854775808≤n)(h2:n≤9223372036854775807):Pr Tryz.prog 28 [.one (.int .i64 n),.one (.ints .i64 vs)] (MV (Rat.ofInt n,vs)):=by
 refine pw Tryz.func28 ⟨[0,1,4],[]⟩ ?_;simp only[Tryz.f28,Tryz.ntmps28,iz,seval];simp only[vx,T,seval];refine Cg (aS n h1 h2) ?_;simp only[vx,T,seval,QV,QC,MV,mC];exact Ve rfl
theorem A8 (n:Int)(h1: -9223372036854775808≤n)(h2:n≤9223372036854775807):Pr Tryz.prog 28 [.one (.int .i64 n),.one .nil] (MV (Rat.ofInt n,[])):=
 (eW n [] h1 h2).args ⟨.refl _,.cell (dg.qp _),trivial⟩
def LC (ps:List (List ao)):C:=.rows 1 ps.length (fun i _=>PC (ps.getD i default))
def LV (ps:List (List ao)):V:=.one (LC ps)
theorem Iv (l:List Rat)(i:Nat)(hi:i<l.length)(hl:l.length<2^40){B:Nat}(hq:qm (l.getD i default)≤B)(hB:B<2^29)(g:Nat→Nat→C)(hg:g 0 0=ag l):Pr Tryz.prog 56 [.one (.int .i64 i),.one (.elt (.rows 1 1 g) 1 0 0)] (PV (dq [(l.getD i default,[])])):=by
 refine pw Tryz.func56 ⟨[0,1,3],[]⟩ ?_;simp only[Tryz.f56,Tryz.ntmps56,iz,seval];simp only[vx,T,seval,hg,ag,qC];refine⟨by omega,Cg (uN _ hq hB) ?_⟩;simp only[vx,T,seval,PV,PC];exact Ve rfl
def HH (i k:Nat)(q:Rat):List ao:=Cz (dq (mulM (tn i k).1 (tn i k).1++mulM (tn i k).2 (tn i k).2)) (mulM (dq [(q,[])]) (dq [(q,[])]))
theorem zf (i k:Nat)(q:Rat)(hi:i<2^40)(hk:k<2^40)(hq:qm q≤2)(c3:C)(s:Int)(n:Int):Pr Tryz.prog 26 [.agg [.int .i64 2,.ints .i64 [(i:Int),(k:Int)],.nil,c3,.int .i64 s],.one (ag [q]),.one .nil,.one (.int .i64 n)] (LV [HH i k q]):=by
 refine pw Tryz.func26 ⟨[0,1,2,3,4,5,6,7,8,9,10,11,12,13,14,15,16,17,18,19,20,21,22,23,24,25,26,27,28,35,36,53,70,88,116,143,161,179,203,230,276,287,298,314,322,330,369],[]⟩ ?_;simp only[Tryz.f26,Tryz.ntmps26,iz,seval];have hw:=Ih i k hi hk;have bx:=Kz i k hi hk;have by_:=JU i k hi hk;have m1:=jD bx bx (by decide) (by decide) (by decide) (by decide) (by decide);have m2:=jD by_ by_ (by decide) (by decide) (by decide) (by decide) (by decide);have a1:=oz (bx.mulM bx) (by_.mulM by_) (by decide) (by decide) (by decide);have bv:=(PB.one (d:=0) hq (Nat.le_refl _) py).dq;have s1:=ym bv (by decide) (by decide) (by decide) (by decide);have d1:=oF ((bx.mulM bx).append (by_.mulM by_)).dq (bv.mulM bv) (by decide) (by decide) (by decide) (by decide) (by decide) (by decide);simp only[vx,T,seval,ag];refine Cg hw ?_;simp only[vx,T,seval,VV,PC];refine Cg (Iq (tn i k) (tn i k) m1 m2 a1) ?_;simp only[vx,T,seval,PV,PC];refine Cg (Iv [q] 0 (by simp) (by simp) (B:=2) hq (by decide) _ rfl) ?_;simp only[vx,T,seval,PV,PC,X0];refine Cg s1 ?_;simp only[vx,T,seval,PV,PC];refine Cg d1 ?_;simp only[vx,T,seval,PV,PC];refine Va ⟨rfl,rfl,fun i' j' hi' hj'=>?_⟩;obtain rfl:i'=0:=by omega
 obtain rfl:j'=0:=by omega
 rfl
theorem KA {l:List ao}{i j:Nat}(hi:i<l.length)(hj:j<5):mC (l.getD i default) j=(l.flatMap mL).getD (i*5+j) .any:=by
 induction l generalizing i with
 |nil=>exact absurd hi (by simp)
 |cons m r ih=>
  rw[List.flatMap_cons,X7 (l:=mL m++_)];have hlen:(mL m).length=5:=rfl
  match i with
  |0=>
   rw[Nat.zero_mul,Nat.zero_add,List.getElem?_append_left (by omega),←X7];exact(sR m hj).symm
  |i+1=>
   rw[List.getElem?_append_right (by omega),←X7,show (i+1)*5+j-(mL m).length=i*5+j by omega,←ih (by simpa using hi)];rfl
theorem OH {l:List ao}{n:Nat}{L:List C}(hn:n=l.length)(hL:L=l.flatMap mL):dg (.rows 5 n (fun i j=>L.getD (i*5+j) .any)) (PC l):=by
 subst hn hL;exact dg.rows rfl fun i j hi hj=>dg.of_eq (KA hi hj).symm
def NL:List ao:=[(Rat.ofInt 2,[0]),(Rat.ofInt (-2),[2])]
theorem Pz (n:Int)(v:List Int)(h:n.natAbs<18446744073709551616)(hl:v.length≤2)(hi:fS v):qm (Rat.ofInt n)≤2∧v.length≤2∧fS v:=⟨gW h,hl,hi⟩
theorem Gw:PB I0 7 2 2:=by
 refine⟨by decide,fun m hm=>?_⟩;simp only[I0,List.mem_cons,List.not_mem_nil,or_false]at hm
 rcases hm with rfl|rfl|rfl|rfl|rfl|rfl|rfl<;>exact Pz _ _ (by decide) (by decide) (by unfold fS;decide)
theorem NP:PB NL 2 2 2:=by
 refine⟨by decide,fun m hm=>?_⟩;simp only[NL,List.mem_cons,List.not_mem_nil,or_false]at hm
 rcases hm with rfl|rfl<;>exact Pz _ _ (by decide) (by decide) (by unfold fS;decide)
theorem DF:MS I0:=Gw.Px (by decide) (by decide) (by decide)
theorem DL:MS NL:=NP.Px (by decide) (by decide) (by decide)
theorem KK:HH 0 1 (Rat.ofInt 5)=I0:=by
 rw[←Na];unfold HH Pu Cz Jk Ee aG tn JY GL Cz Jk;simp only[Nn];rfl
theorem ll:Pr Tryz.prog 5 [] (.one (.bool true)):=by
 have hd:=zf 0 1 (Rat.ofInt 5) (by decide) (by decide) (gW (by decide));rw[KK]at hd;refine pw Tryz.func5 ⟨[0,1,2,35],[]⟩ ?_;simp only[Tryz.f5,Tryz.ntmps5,iz,seval];simp only[vx,T,seval];refine Cg (aS 5 (by decide) (by decide)) ?_;simp only[vx,T,seval,QV,QC];refine Cg (aS 5 (by decide) (by decide)) ?_;simp only[vx,T,seval,QV,QC];have hq:dg (.rows 4 1 fun i j=>[C.bool (zs (Rat.ofInt 5).num),C.ints IntKind.u32 (zm (Rat.ofInt 5).num),C.bool (zs ((Rat.ofInt 5).den:Int)),C.ints IntKind.u32 (zm ((Rat.ofInt 5).den:Int))].getD (i*4+j) C.any) (ag [Rat.ofInt 5]):=by
  refine dg.rows rfl fun i j hi hj=>dg.of_eq ?_;obtain rfl:i=0:=by omega
  match j,hj with
  |0,_=>rfl
  |1,_=>rfl
  |2,_=>rfl
  |3,_=>rfl
 refine Cg ((hd _ 0 2).args ⟨.refl _,.cell hq,.refl _,.refl _,trivial⟩) ?_;simp only[vx,T,seval,LV,LC,PC];refine Cg (A8 (-25) (by decide) (by decide)) ?_;simp only[vx,T,seval,MV,mC];refine Cg (eW (1) [0,0] (by decide) (by decide)) ?_;simp only[vx,T,seval,MV,mC];refine Cg (eW (-2) [0,2] (by decide) (by decide)) ?_;simp only[vx,T,seval,MV,mC];refine Cg (eW (1) [1,1] (by decide) (by decide)) ?_;simp only[vx,T,seval,MV,mC];refine Cg (eW (-2) [1,3] (by decide) (by decide)) ?_;simp only[vx,T,seval,MV,mC];refine Cg (eW (1) [2,2] (by decide) (by decide)) ?_;simp only[vx,T,seval,MV,mC];refine Cg (eW (1) [3,3] (by decide) (by decide)) ?_;simp only[vx,T,seval,MV,mC];refine Cg ((wB I0 I0 DF DF).args ⟨.refl _,.cell (OH rfl rfl),trivial⟩) ?_;rw[decide_eq_true (rfl:I0=I0)];simp only[vx,T,seval,LV,LC,PC];refine Cg (Ff 0 Gw (by decide) (by decide) (by decide)) ?_;rw[NK];simp only[vx,T,seval,PV,PC];refine Cg (eW 2 [0] (by decide) (by decide)) ?_;simp only[vx,T,seval,MV,mC];refine Cg (eW (-2) [2] (by decide) (by decide)) ?_;simp only[vx,T,seval,MV,mC];refine Cg ((wB NL NL DL DL).args ⟨.refl _,.cell (OH rfl rfl),trivial⟩) ?_;rw[decide_eq_true (rfl:NL=NL)];simp only[vx,T,seval];exact Ve rfl
end Go.Proofs.YtgalhjhdgkoemaaGreat
/-
  THE ENGINE, PART OP: what comes in, read as data, as the engine's cells.
-/
namespace Go.Eng
open Go Go.ChangeShapes Go.WideShapes Go.Deep
def pL (P:Program):Nat→List Field→Nat→Bool
 |off,[],tot=>off==tot
 |off,f::r,tot=>f.offset==off&&pL P (off+P.cellsOf f.type) r tot
def p7 (P:Program)(S:List TypeId):Bool:=S.all fun t=>
 match P.underlying t with
 |some .bool=>true
 |some (.int _)=>true
 |some .string=>true
 |some (.slice e)=>decide (0<P.cellsOf e)&&S.contains e&&(match P.underlying e with|some (.int _)=>P.cellsOf e==1|_=>true)
 |some (.struct fs)=>pL P 0 fs.toList (P.cellsOf t)&&fs.toList.all fun f=>S.contains f.type
 |some (.array n e)=>S.contains e&&P.cellsOf t==n*P.cellsOf e
 |_=>false
def NV (R:TypeId→List C→Prop):List Field→List C→Prop
 |[],cs=>cs=[]
 |f::r,cs=>∃c1 c2,cs=c1++c2∧R f.type c1∧NV R r c2
def kO (P:Program)(B:Nat):Nat→TypeId→List C→Prop
 |0,_,_=>False
 |n+1,t,cs=>
  match P.underlying t with
  |some .bool=>∃b,cs=[.bool b]
  |some (.int k)=>∃x,cs=[.int k x]∧k.min≤x∧x≤k.max
  |some .string=>∃s:ByteArray,cs=[.str s]∧s.size≤B
  |some (.slice e)=>
   match P.underlying e with
   |some (.int k)=>∃xs:List Int,cs=[.ints k xs]∧xs.length≤B∧∀x∈xs,k.min≤x∧x≤k.max
   |_=>∃m f,cs=[.rows (P.cellsOf e) m f]∧m≤B∧∀i,i<m→kO P B n e ((List.range (P.cellsOf e)).map (f i))
  |some (.struct fs)=>NV (kO P B n) fs.toList cs
  |some (.array m e)=>∃l:List (List C),cs=l.flatten∧l.length=m∧∀c∈l,kO P B n e c
  |_=>False
theorem kO.mono {P:Program}{B B':Nat}(hB:B≤B'):∀{n:Nat} {t:TypeId} {cs:List C},kO P B n t cs→kO P B' n t cs:=by
 intro n
 induction n with
 |zero=>intro t cs h;exact h
 |succ n ih=>
  intro t cs h;have hf:∀(fs:List Field) (cs:List C),NV (kO P B n) fs cs→NV (kO P B' n) fs cs:=by
   intro fs
   induction fs with
   |nil=>intro cs h;exact h
   |cons f r ihf=>
    rintro cs ⟨c1,c2,rfl,h1,h2⟩;exact⟨c1,c2,rfl,ih h1,ihf c2 h2⟩
  simp only[kO]at h⊢
  split at h
  ·exact h
  ·exact h
  ·obtain⟨s,h1,h2⟩:=h;exact⟨s,h1,Nat.le_trans h2 hB⟩
  ·split at h
   ·obtain⟨xs,h1,h2,h3⟩:=h;exact⟨xs,h1,Nat.le_trans h2 hB,h3⟩
   obtain⟨m,f,h1,h2,h3⟩:=h;exact⟨m,f,h1,Nat.le_trans h2 hB,fun i hi=>ih (h3 i hi)⟩
  ·exact hf _ _ h
  ·obtain⟨l,h1,h2,h3⟩:=h;exact⟨l,h1,h2,fun c hc=>ih (h3 c hc)⟩
  exact h
structure MG {H:Type} (bulk:DataW H→Nat):Prop where
 str:∀s:List UInt8,s.length≤bulk (.lit (.string s))
 sl:∀el sp,el.length≤bulk (.slice el sp)∧∀d∈el,bulk d≤bulk (.slice el sp)
 agg:∀ps d,d∈ps→bulk d≤bulk (.agg ps)
def OK {H:Type}(bulk:DataW H→Nat)(B:Nat)(d:DataW H):Prop:=maxLen≤B∨(MG bulk∧bulk d≤B)
def jy (ok:Nat→Prop)(w:World):List C→List Value→Prop
 |[],[]=>True
 |c::cs,v::vs=>aM ok w c v∧jy ok w cs vs
 |_,_=>False
theorem jy.append {ok:Nat→Prop}{w:World}:∀{a b:List C} {x y:List Value},jy ok w a x→jy ok w b y→jy ok w (a++b) (x++y)
 |[],_,[],_,_,h=>h
 |_::_,_,_::_,_,h1,h2=>⟨h1.1,jy.append h1.2 h2⟩
 |[],_,_::_,_,h,_=>h.elim
 |_::_,_,[],_,h,_=>h.elim
theorem jy.length {ok:Nat→Prop}{w:World}:∀{a:List C} {x:List Value},jy ok w a x→a.length=x.length
 |[],[],_=>rfl
 |_::_,_::_,h=>by simp[jy.length h.2]
 |[],_::_,h=>h.elim
 |_::_,[],h=>h.elim
theorem jy.get {ok:Nat→Prop}{w:World}:∀{a:List C} {x:List Value},jy ok w a x→∀j,j<a.length→∃u,x[j]? =some u∧aM ok w (a.getD j .any) u
 |_::_,u::_,h,0,_=>⟨u,rfl,h.1⟩
 |_::_,_::_,h,j+1,hj=>by simpa using jy.get h.2 j (by simpa using hj)
 |[],[],_,j,hj=>absurd hj (by simp)
 |[],_::_,h,_,_=>h.elim
 |_::_,[],h,_,_=>h.elim
theorem KB {w:World}{a:Addr}{v:Value}(h:w.cell? a=some v):a.block<w.heap.size∧a.spot=none:=by
 unfold World.cell? at h
 split at h
 ·rename_i c _ _ hb
  refine⟨(Array.getElem?_eq_some_iff.1 hb).1,?_⟩
  split at h
  ·cases h
  rename_i hs
  cases hsp:a.spot with
  |none=>rfl
  |some x=>rw[hsp]at hs;simp at hs
 cases h
section
variable {H:Type}{bulk:DataW H→Nat}{B:Nat}{enc:TypeId×Value→H}{P:Program}{w:World}{base:Nat}{spare:Nat→Bool}{held:Bool}
theorem EY {S:List TypeId}(hS:p7 P S=true):∀(fuel:Nat) (t:TypeId) (vs:List Value) (x:DataW H×List MemPlace),t∈S→DataW.trod enc P w base spare held fuel t vs=some x→OK bulk B x.1→
  ∃cs,kO P B fuel t cs∧jy (fun g=>g<w.heap.size) w cs vs:=by
 intro fuel
 induction fuel with
 |zero=>intro t vs x _ h _;simp[DataW.trod]at h
 |succ fuel ih=>
  intro t vs x ht h hb;have hc:=List.all_eq_true.1 hS t ht;simp only[kO]
  cases hu:P.underlying t with
  |none=>rw[hu]at hc;simp at hc
  |some d=>
   rw[hu]at hc
   cases d with
   |bool=>
    obtain⟨b,rfl,_⟩:=DataW.trod_bool hu h;exact⟨[.bool b],⟨b,rfl⟩,rfl,trivial⟩
   |int k=>
    obtain⟨n,rfl,_,hw⟩:=DataW.trod_int hu h;simp only[Lit.wf,Bool.and_eq_true,decide_eq_true_eq]at hw;exact⟨[.int k n],⟨n,rfl,hw⟩,rfl,trivial⟩
   |string=>
    obtain⟨s,rfl,hx,hs⟩:=DataW.trod_string hu h;refine⟨[.str s],⟨s,rfl,?_⟩,rfl,trivial⟩
    rcases hb with hb|⟨hb,hb2⟩
    ·omega
    have h1:=hb.str s.data.toList;rw[hx]at hb2;have hb2:bulk (.lit (.string s.data.toList))≤B:=hb2;have h2:s.data.toList.length=s.size:=Array.length_toList;omega
   |slice e=>
    simp only[Bool.and_eq_true,decide_eq_true_eq]at hc;obtain⟨⟨hpos,he⟩,hk⟩:=hc;have he:e∈S:=by simpa using he
    have hfit:(vs=[.slice none 0 0])∨∃(a:Addr) (len cap:Nat),vs=[.slice (some a) len cap]∧len≤cap∧len≤B∧
      ∀i,i<len→∃cs',w.cells? base (a.add (i*P.cellsOf e)) (P.cellsOf e)=some cs'∧∃y,DataW.trod enc P w base spare held fuel e cs'=some y∧OK bulk B y.1:=by
     rcases DataW.trod_slice hu h with⟨rfl,_⟩|⟨a,len,cap,elems,rest,n,hn,rfl,hx,_,hl,hm,hlen,hel,_,_⟩
     ·exact .inl rfl
     have hlB:len≤B:=by
      rcases hb with hb|⟨hb,hb2⟩
      ·omega
      have h1:=(hb.sl (elems.map (·.1)) (rest.map (·.1))).1;rw[hx]at hb2;rw[List.length_map]at h1;have hb2:bulk (.slice (elems.map (·.1)) (rest.map (·.1)))≤B:=hb2;omega
     refine .inr ⟨a,len,cap,rfl,hl,hlB,fun i hi=>?_⟩;obtain rfl:fuel=n:=by omega
     have h1:=hel i hi;rw[X8 (by omega)]at h1
     cases hcs:w.cells? base (a.add (i*P.cellsOf e)) (P.cellsOf e)with
     |none=>rw[hcs]at h1;simp at h1
     |some cs'=>
      rw[hcs]at h1;refine⟨cs',rfl,_,h1,?_⟩
      rcases hb with hb|⟨hb,hb2⟩
      ·exact .inl hb
      refine .inr ⟨hb,?_⟩;have h2:=(hb.sl (elems.map (·.1)) (rest.map (·.1))).2 elems[i].1 (List.mem_map.2 ⟨elems[i],List.getElem_mem _,rfl⟩);rw[hx]at hb2;exact Nat.le_trans h2 hb2
    -- by rows
    have hrows:∃m f,m≤B∧(∀i,i<m→kO P B fuel e ((List.range (P.cellsOf e)).map (f i)))∧∃v,vs=[v]∧aM (fun g=>g<w.heap.size) w (.rows (P.cellsOf e) m f) v:=by
     rcases hfit with rfl|⟨a,len,cap,rfl,hl,hm,hel⟩
     ·exact⟨0,fun _ _=>.any,Nat.zero_le _,fun i hi=>absurd hi (Nat.not_lt_zero _),_,rfl,none,0,rfl,Nat.le_refl _,.inl rfl⟩
     have hex:∀i,i<len→∃cs,kO P B fuel e cs∧cs.length=P.cellsOf e∧∀j,j<P.cellsOf e→∃u,w.cell? ((a.add (i*P.cellsOf e)).add j)=some u∧aM (fun g=>g<w.heap.size) w (cs.getD j .any) u:=by
      intro i hi;obtain⟨cs',hcs',y,hy,hyb⟩:=hel i hi;obtain⟨_,hcl,hcell⟩:=World.cells?_some hcs';obtain⟨cs,hok,hrep⟩:=ih e cs' y he hy hyb;have hlen:cs.length=P.cellsOf e:=by rw[hrep.length,hcl]
      refine⟨cs,hok,hlen,fun j hj=>?_⟩;obtain⟨u,hu,hr⟩:=hrep.get j (by omega);exact⟨u,by rw[hcell j hj,hu],hr⟩
     obtain⟨g,hg⟩:=Classical.axiomOfChoice (r:=fun(i:Nat) (cs:List C)=>i<len→kO P B fuel e cs∧cs.length=P.cellsOf e∧∀j,j<P.cellsOf e→∃u,w.cell? ((a.add (i*P.cellsOf e)).add j)=some u∧aM (fun g=>g<w.heap.size) w (cs.getD j .any) u) (fun i=>by
      by_cases hi:i<len
      ·obtain⟨cs,h⟩:=hex i hi;exact⟨cs,fun _=>h⟩
      exact⟨[],fun h=>absurd h hi⟩)
     refine⟨len,fun i j=>(g i).getD j .any,hm,fun i hi=>?_,_,rfl,some a,cap,rfl,hl,?_⟩
     ·obtain⟨h1,h2,_⟩:=hg i hi;have e:(List.range (P.cellsOf e)).map (fun j=>(g i).getD j .any)=g i:=by
       refine List.ext_getElem (by simp[h2]) fun j hj1 hj2=>?_
       simp[X7,X8 hj2]
      rw[e];exact h1
     by_cases h0:len=0
     ·exact .inl h0
     right
     obtain⟨u,hu,_⟩:=(hg 0 (by omega)).2.2 0 hpos;rw[Nat.zero_mul]at hu;have ha0:(a.add 0).add 0=a:=by simp[Addr.add]
     rw[ha0]at hu;obtain⟨hlt,hsp⟩:=KB hu;refine⟨a.block,a.off,?_,hlt,fun i j hi hj=>?_⟩
     ·obtain⟨b,o,s⟩:=a;simp only at hsp;subst hsp;rfl
     obtain⟨u,hu,hr⟩:=(hg i hi).2.2 j hj;refine⟨u,?_,hr⟩;rw[←hu]
     congr 1
     obtain⟨b,o,s⟩:=a;simp only at hsp;subst hsp;unfold Addr.add
     split<;>split<;>simp_all<;>omega
    simp only
    cases hue:P.underlying e with
    |none=>
     obtain⟨m,f,h1,h2,v,rfl,h3⟩:=hrows;exact⟨[.rows (P.cellsOf e) m f],⟨m,f,rfl,h1,h2⟩,h3,trivial⟩
    |some de=>
     cases de with
     |int k=>
      rw[hue]at hk;have hk:P.cellsOf e=1:=by simpa using hk
      obtain⟨m,f,h1,h2,v,rfl,a,cap,rfl,h4,h5⟩:=hrows;have h2':∀i,i<m→∃x,f i 0= .int k x∧k.min≤x∧x≤k.max:=by
       intro i hi
       have:=h2 i hi
       rw[hk]at this
       cases fuel with
       |zero=>exact this.elim
       |succ fuel=>
        simp only[kO,hue]at this;obtain⟨x,hx,hr⟩:=this;simp only[List.range_succ,List.range_zero,List.nil_append,List.map_cons,List.map_nil,List.cons.injEq,and_true]at hx;exact⟨x,hx,hr⟩
      obtain⟨g,hg⟩:=Classical.axiomOfChoice (r:=fun(i:Nat) (x:Int)=>i<m→f i 0= .int k x∧k.min≤x∧x≤k.max) (fun i=>by
       by_cases hi:i<m
       ·obtain⟨x,h⟩:=h2' i hi;exact⟨x,fun _=>h⟩
       exact⟨0,fun h=>absurd h hi⟩)
      have hlen:((List.range m).map g).length=m:=by simp
      refine⟨[.ints k ((List.range m).map g)],⟨_,rfl,by rw[hlen];exact h1,fun x hx=>?_⟩,⟨a,cap,by rw[hlen],by rw[hlen];exact h4,?_⟩,trivial⟩
      ·obtain⟨i,hi,rfl⟩:=List.mem_map.1 hx;exact(hg i (List.mem_range.1 hi)).2
      rw[hlen]
      rcases h5 with h5|⟨b,o,ha,hb,hcell⟩
      ·exact .inl h5
      refine .inr ⟨b,o,ha,hb,fun i hi=>?_⟩;obtain⟨u,hu,hr⟩:=hcell i 0 hi (by omega);rw[(hg i hi).1]at hr;have hr:u= .int k (g i):=hr;rw[hk,Nat.mul_one,Nat.add_zero]at hu;rw[hu,hr]
      simp[X7,hi]
     |_=>
      obtain⟨m,f,h1,h2,v,rfl,h3⟩:=hrows;exact⟨[.rows (P.cellsOf e) m f],⟨m,f,rfl,h1,h2⟩,h3,trivial⟩
   |struct fs=>
    simp only[Bool.and_eq_true]at hc;obtain⟨hcon,hmem⟩:=hc;obtain⟨xs,n,hn,hx,hcl,hxl,hf⟩:=DataW.trod_struct hu h;obtain rfl:fuel=n:=by omega
    have hall:∀f∈fs.toList,∃y,DataW.trod enc P w base spare held fuel f.type ((vs.drop f.offset).take (P.cellsOf f.type))=some y∧OK bulk B y.1:=by
     intro f hfm;obtain⟨i,hi,rfl⟩:=List.mem_iff_getElem.1 hfm;have hi':i<fs.size:=by simpa using hi
     have h1:=hf i fs[i] (Array.getElem?_eq_getElem hi');rw[X8 (by omega)]at h1;refine⟨xs[i],by simpa using h1,?_⟩
     rcases hb with hb|⟨hb,hb2⟩
     ·exact .inl hb
     refine .inr ⟨hb,?_⟩;have h2:=hb.agg (xs.map (·.1)) xs[i].1 (List.mem_map.2 ⟨xs[i],List.getElem_mem _,rfl⟩);rw[hx]at hb2;exact Nat.le_trans h2 hb2
    have hmem:∀f∈fs.toList,f.type∈S:=fun f hf=>by simpa using List.all_eq_true.1 hmem f hf
    simp only
    -- field by field
    have key:∀(l:List Field) (off:Nat),(∀f∈l,∃y,DataW.trod enc P w base spare held fuel f.type ((vs.drop f.offset).take (P.cellsOf f.type))=some y∧OK bulk B y.1)→(∀f∈l,f.type∈S)→pL P off l vs.length=true→
      ∃cs,NV (kO P B fuel) l cs∧jy (fun g=>g<w.heap.size) w cs (vs.drop off):=by
     intro l
     induction l with
     |nil=>
      intro off _ _ hcf;simp only[pL,beq_iff_eq]at hcf;exact⟨[],rfl,by rw[List.drop_eq_nil_of_le (by omega)];trivial⟩
     |cons f r ihl=>
      intro off hy hm hcf;simp only[pL,Bool.and_eq_true,beq_iff_eq]at hcf;obtain⟨ho,hcf⟩:=hcf;obtain⟨y,hy1,hy2⟩:=hy f (by simp);obtain⟨c1,h1,h2⟩:=ih f.type _ y (hm f (by simp)) hy1 hy2;obtain⟨c2,h3,h4⟩:=ihl (off+P.cellsOf f.type) (fun g hg=>hy g (by simp[hg])) (fun g hg=>hm g (by simp[hg])) hcf;refine⟨c1++c2,⟨c1,c2,rfl,h1,h3⟩,?_⟩;have e:vs.drop off=(vs.drop f.offset).take (P.cellsOf f.type)++vs.drop (off+P.cellsOf f.type):=by
       rw[ho,←List.drop_drop,List.take_append_drop]
      rw[e];exact h2.append h4
    have:=key fs.toList 0 hall hmem (by rw[hcl];exact hcon)
    rwa [List.drop_zero]at this
   |array m e=>
    simp only[Bool.and_eq_true,beq_iff_eq]at hc;obtain⟨he,hsz⟩:=hc;have he:e∈S:=by simpa using he
    obtain⟨xs,n,hn,hx,hcl,hxl,hf⟩:=DataW.trod_array hu h;obtain rfl:fuel=n:=by omega
    simp only;have key:∀j,j≤m→∃l:List (List C),l.length=j∧(∀c∈l,kO P B fuel e c)∧jy (fun g=>g<w.heap.size) w l.flatten (vs.take (j*P.cellsOf e)):=by
     intro j
     induction j with
     |zero=>intro _;exact⟨[],rfl,fun c hc=>(by cases hc),by rw[Nat.zero_mul];trivial⟩
     |succ j ihj=>
      intro hj;obtain⟨l,h1,h2,h3⟩:=ihj (by omega);have h4:=hf j (by omega);rw[X8 (by omega)]at h4;obtain⟨c,h5,h6⟩:=ih e _ xs[j] he h4 (by
       rcases hb with hb|⟨hb,hb2⟩
       ·exact .inl hb
       refine .inr ⟨hb,?_⟩;have h2:=hb.agg (xs.map (·.1)) xs[j].1 (List.mem_map.2 ⟨xs[j],List.getElem_mem _,rfl⟩);rw[hx]at hb2;exact Nat.le_trans h2 hb2)
      refine⟨l++[c],by rw[X6,h1];rfl,fun x hx=>?_,?_⟩
      ·rcases List.mem_append.1 hx with hx|hx
       ·exact h2 x hx
       obtain rfl:=List.mem_singleton.1 hx;exact h5
      rw[List.flatten_append,Nat.add_mul,Nat.one_mul,List.take_add];refine h3.append ?_
      simpa using h6
    obtain⟨l,h1,h2,h3⟩:=key m (Nat.le_refl _);rw[←hsz,←hcl,List.take_length]at h3;exact⟨l.flatten,⟨l,rfl,h1,h2⟩,h3⟩
   |_=>simp at hc
theorem E6 {S:List TypeId}(hS:p7 P S=true){t:TypeId}(ht:t∈S){v:Value}{d:DataW H}{p:List MemPlace}(hv:v.oneCell'=true)(h:DataW.Trod enc P w base spare held t v d p)(hb:OK bulk B d):
  ∃n c,kO P B n t [c]∧aM (fun g=>g<w.heap.size) w c v:=by
 obtain⟨fuel,hf⟩:=h;have hvc:v.cells.toList=[v]:=by
  cases v<;>first|rfl|(simp[Value.oneCell']at hv)
 rw[hvc]at hf;obtain⟨cs,h1,h2⟩:=EY hS fuel t _ _ ht hf hb
 match cs,h2 with
 |[c],h2=>exact⟨fuel,c,h1,h2.1⟩
theorem tZ {S:List TypeId}(hS:p7 P S=true){t:TypeId}(ht:t∈S){v:Value}{d:DataW H}{p:List MemPlace}(hv:v.oneCell'=true)(h:DataW.Trod enc P w base spare held t v d p):
  ∃n c,kO P maxLen n t [c]∧aM (fun g=>g<w.heap.size) w c v:=E6 (bulk:=fun _=>0) hS ht hv h (.inl (Nat.le_refl _))
end
end Go.Eng
/-
  THE ENGINE, PART LW: a law: a function that answers true, and leaves its arguments as they were.
-/
namespace Go.Eng
open Go Go.ChangeShapes Go.WideShapes Go.RowKit
section
variable {H:Type}{enc:TypeId×Value→H}{P:Program}
theorem rh (hl:laidOutB P=true){t:TypeId}(hr:P.readableRec t=true)(hrow:t<P.types.size){W W':World}{v:Value}{d:DataW H}{ps:List MemPlace}(h:DataW.Trod enc P W 0 (fun _=>true) true t v d ps)
  (hb:Below W.heap.size W W') (hlt:∀x∈ps,x.block<W.heap.size):DataW.Trod enc P W' 0 (fun b=>decide (b<W.heap.size)) true t v d ps:=
 Below.trod hl hr hrow h hb hlt
theorem Ic {f:Func}{s:ChangeSpec}{W W':World}{args:Array Value}{ds:List (DataW H)}{before:List MemPlace}{tb:TypeId}
  (hW:DataW.Whole enc P f.params.toList s.vars false W args.toList ds [] before) (hv:s.vars=[]) (hrt:f.resultTypes= #[tb]) (htb:P.underlying tb=some .bool)
  (hres:(s.fn H (ds++[])).results=[.lit (.bool true)]) (hargs:DataW.TrodAll enc P W' 0 (fun b=>decide (b<W.heap.size)) true f.params.toList args.toList (s.fn H (ds++[])).args before)
  (hvs:(s.fn H (ds++[])).vars=[]) (hb:Below W.heap.size W W'):s.post enc P f false true false false W args (.bool true) W':=by
 refine⟨ds,[],before,[],before,[],hW,?_,hargs,?_,World.keptBut_mono (fun p hp=>⟨hp,.inr (.inl hp)⟩) (hb.frame (· ∈before)),fun h=>by cases h⟩
 ·rw[hres,hrt];exact trodAll_mk1 (shut_bool htb true)
 rw[hv,hvs];rfl
theorem rA {w:World}{r:Reach}{base:Nat}{t e:TypeId}{v:Value}(ht:P.underlying t=some (.slice e))(h:Value.okWide P w r base t v):v.oneCell'=true:=by
 obtain⟨a,len,cap,rfl⟩:=okWide_slice ht h;rfl
end
end Go.Eng
namespace Go.Proofs.YtgalhjhdgkoemaaGreat
open Go Go.Proofs Go.Eng Go.ChangeShapes Go.WideShapes Go.ChangeAt Go.RowKit
theorem mP (p:List Raw)(n d:Nat)(hn:n<2^30)(hd:d<2^30):Pr Tryz.prog 6 [RV p,.one (.int .i64 n),.one (.int .i64 d)] (.one (.bool (gu n d p))):=by
 refine pw Tryz.func6 ⟨[0,1,2,6,7,11,15,47],[]⟩ ?_;simp only[Tryz.f6,Tryz.ntmps6,iz,seval];simp only[vx,T,seval,RV,RC];refine⟨fun h1=>Lg ?_,fun h1=>Lg ?_⟩
 ·simp only[vx,T,seval];refine vb ?_;unfold gu;rw[decide_eq_false (by omega)];rfl
 obtain⟨f,hf⟩:∃f:Nat→Bool,f=fun i=>decide ((p.getD i default).vs.length≤d)&&(decide ((p.getD i default).xs.length≤4)&&decide ((p.getD i default).ys.length≤4)):=⟨_,rfl⟩;have hs:gu n d p=(List.range p.length).all f:=by
  unfold gu;rw[decide_eq_true (by omega),←hf];rfl
 rw[hs];simp only[vx,T,seval,RV,RC];refine Lk (fun y:{i:Nat//i≤p.length∧∀j,j<i→f j=true}=>⟨[(0,RV p),(1,.one (.int .i64 n)),(2,.one (.int .i64 d)),(6,.one (.bool false)),(7,.one (.int .i64 y.1))],[],1,48⟩) (fun y=>p.length-y.1) ⟨0,by omega,fun j hj=>by omega⟩ ?_ (fun⟨i,hi,he⟩=>?_)
 ·refine Sa ?_;simp only[ry,seval,rz,RV,RC]
 simp only[vx,T,seval,RV,RC];refine⟨fun h2=>Lg ?_,fun h2=>Lg ?_⟩
 ·have hip:i<p.length:=by omega
  have i1:=wI i (by omega);have hfi:f i=(decide ((p.getD i default).vs.length≤d)&&(decide ((p.getD i default).xs.length≤4)&&decide ((p.getD i default).ys.length≤4))):=by rw[hf]
  obtain⟨a,ha⟩:∃a,a=p.getD i default:=⟨_,rfl⟩;rw[←ha]at hfi;have xl:(a.xs.length:Int)≤4↔a.xs.length≤4:=by omega
  simp only[vx,T,seval,RV,RC,←ha,rC];refine⟨by omega,fun h3=>Lg ?_,fun h3=>Lg ?_⟩
  ·simp only[vx,T,seval,RV,RC,←ha,rC];exact vb (bo hip (by rw[hfi,decide_eq_false (by omega)];rfl)).symm
  simp only[vx,T,seval,RV,RC,←ha,rC];refine⟨by omega,fun h4=>Lg ?_,fun h4=>Lg ?_⟩
  ·simp only[vx,T,seval,RV,RC,←ha,rC];exact vb (bo hip (by rw[hfi,decide_eq_false (p:=a.xs.length≤4) (by omega),Bool.false_and,Bool.and_false])).symm
  simp only[vx,T,seval,RV,RC,←ha,rC];refine⟨by omega,?_⟩;refine⟨fun h5=>Lg ?_,fun h5=>Lg ?_⟩
  ·simp only[vx,T,seval,RV,RC,←ha,rC];exact vb (bo hip (by rw[hfi,decide_eq_false (p:=a.ys.length≤4) (by omega),Bool.and_false,Bool.and_false])).symm
  simp only[vx,T,seval,RV,RC,←ha,rC];simp only[i1];refine Lq ⟨i+1,by omega,fun j hj=>?_⟩ ?_ ?_
  ·by_cases hji:j=i
   ·subst hji;rw[hfi,decide_eq_true (by omega),decide_eq_true (by omega),decide_eq_true (by omega)];rfl
   exact he j (by omega)
  ·refine Sa ?_;simp only[ry,seval,rz,RV,RC]
  simp only;omega
 simp only[vx,T,seval];refine vb ?_;exact(cK.2 fun j hj=>he j (by omega)).symm
set_option maxRecDepth 100000 in
theorem DX:p7 Tryz.prog [23,68,57,55,4,53,137,52,3]=true:=by kernel_rfl
structure M8 (m:Raw):Prop where
 x:bF m.xs
 y:bF m.ys
 v:N8 m.vs
def om (p:List Raw):Prop:=∀m∈p,M8 m
theorem Jz {n:Nat}{cs:List C}(h:kO Tryz.prog maxLen n 4 cs):∃b,cs=[.bool b]:=by
 cases n with
 |zero=>exact h.elim
 |succ n=>
  simp only[kO,Tryz.underlying4]at h;exact h
theorem JZ {n:Nat}{cs:List C}(h:kO Tryz.prog maxLen n 53 cs):∃xs,cs=[.ints .u32 xs]∧bF xs:=by
 cases n with
 |zero=>exact h.elim
 |succ n=>
  simp only[kO,Tryz.underlying53,Tryz.underlying137]at h;obtain⟨xs,h1,_,h2⟩:=h;refine⟨xs,h1,fun x hx=>?_⟩
  have:=h2 x hx
  have e1:IntKind.u32.min=0:=rfl;have e2:IntKind.u32.max=4294967295:=rfl;rw[e1,e2]at this;omega
theorem Jc {n:Nat}{cs:List C}(h:kO Tryz.prog maxLen n 52 cs):∃xs,cs=[.ints .i64 xs]∧N8 xs:=by
 cases n with
 |zero=>exact h.elim
 |succ n=>
  simp only[kO,Tryz.underlying52,Tryz.underlying3]at h;obtain⟨xs,h1,_,h2⟩:=h;refine⟨xs,h1,fun x hx=>?_⟩
  have:=h2 x hx
  have e1:IntKind.i64.min= -9223372036854775808:=rfl;have e2:IntKind.i64.max=9223372036854775807:=rfl;rw[e1,e2]at this;omega
theorem ok_two {R:TypeId→List C→Prop}{f g:Field}{cs:List C}(h:NV R [f,g] cs):∃c1 c2,cs=c1++c2∧R f.type c1∧R g.type c2:=by
 obtain⟨c1,c2,rfl,h1,c3,c4,rfl,h2,h3⟩:=h;have h3:c4=[]:=h3;subst h3;exact⟨c1,c3,by simp,h1,h2⟩
theorem ok_int {n:Nat}{cs:List C}(h:kO Tryz.prog maxLen n 55 cs):∃s xs,cs=[.bool s,.ints .u32 xs]∧bF xs:=by
 cases n with
 |zero=>exact h.elim
 |succ n=>
  simp only[kO,Tryz.underlying55]at h;obtain⟨c1,c2,rfl,h1,h2⟩:=ok_two h;obtain⟨s,rfl⟩:=Jz h1;obtain⟨xs,rfl,h3⟩:=JZ h2;exact⟨s,xs,rfl,h3⟩
theorem Mz {n:Nat}{cs:List C}(h:kO Tryz.prog maxLen n 57 cs):∃s xs t ys,cs=[.bool s,.ints .u32 xs,.bool t,.ints .u32 ys]∧bF xs∧bF ys:=by
 cases n with
 |zero=>exact h.elim
 |succ n=>
  simp only[kO,Tryz.underlying57]at h;obtain⟨c1,c2,rfl,h1,h2⟩:=ok_two h;obtain⟨s,xs,rfl,h3⟩:=ok_int h1;obtain⟨t,ys,rfl,h4⟩:=ok_int h2;exact⟨s,xs,t,ys,rfl,h3,h4⟩
theorem Jb {n:Nat}{cs:List C}(h:kO Tryz.prog maxLen n 68 cs):∃m:Raw,cs=(List.range 5).map (rC m)∧M8 m:=by
 cases n with
 |zero=>exact h.elim
 |succ n=>
  simp only[kO,Tryz.underlying68]at h;obtain⟨c1,c2,rfl,h1,h2⟩:=ok_two h;obtain⟨s,xs,t,ys,rfl,h3,h4⟩:=Mz h1;obtain⟨vs,rfl,h5⟩:=Jc h2;exact⟨⟨s,xs,t,ys,vs⟩,rfl,h3,h4,h5⟩
set_option maxRecDepth 100000 in
theorem DM {n:Nat}{c:C}(h:kO Tryz.prog maxLen n 23 [c]):∃p:List Raw,om p∧dg c (RC p):=by
 cases n with
 |zero=>exact h.elim
 |succ n=>
  simp only[kO,Tryz.underlying23,Tryz.underlying68]at h;obtain⟨m,f,hc,_,hm⟩:=h;have h5:Tryz.prog.cellsOf 68=5:=by kernel_rfl
  rw[h5]at hc hm;obtain rfl:c= .rows 5 m f:=by simpa using hc
  obtain⟨g,hg⟩:=Classical.axiomOfChoice (r:=fun(i:Nat) (a:Raw)=>i<m→(List.range 5).map (f i)=(List.range 5).map (rC a)∧M8 a) (fun i=>by
   by_cases hi:i<m
   ·obtain⟨a,h1,h2⟩:=Jb (hm i hi);exact⟨a,fun _=>⟨h1,h2⟩⟩
   exact⟨default,fun h=>absurd h hi⟩)
  refine⟨(List.range m).map g,fun a ha=>?_,dg.rows (by simp) fun i j hi hj=>dg.of_eq ?_⟩
  ·obtain⟨i,hi,rfl⟩:=List.mem_map.1 ha;exact(hg i (List.mem_range.1 hi)).2
  have h1:=congrArg (fun l:List C=>l[j]?) (hg i hi).1;simp only[List.getElem?_map,List.getElem?_range hj,Option.map_some,Option.some.injEq]at h1;rw[h1]
  congr 1
  rw[X7,List.getElem?_map,List.getElem?_range hi];rfl
theorem tv {p:List Raw}{n d:Nat}(hn:n<2^30)(hd:d<2^30)(hp:om p)(h:gu n d p=true):La p∧p.length≤n∧∀m∈p,m.vs.length≤d∧m.xs.length≤4∧m.ys.length≤4:=by
 unfold gu at h;simp only[Bool.and_eq_true,decide_eq_true_eq]at h;obtain⟨h1,h2⟩:=h;have h3:∀m∈p,m.vs.length≤d∧m.xs.length≤4∧m.ys.length≤4:=by
  intro m hm;obtain⟨i,hi,rfl⟩:=List.mem_iff_getElem.1 hm
  have:=cK.1 h2 i hi
  rw[getD_eq hi]at this
  simpa using this
 refine⟨⟨by omega,fun m hm=>?_⟩,h1,h3⟩;have h4:=hp m hm;have h5:=h3 m hm;exact⟨h4.x,h4.y,by omega,by omega,h4.v,by omega⟩
open Go Go.Eng
theorem FN {m:Raw}(h:so m=true)(ha:vB m.vs=true)(hi:N8 m.vs)(hx:m.xs.length≤4)(hy:m.ys.length≤4)(hv:m.vs.length≤4):
  ∃a:ao,(∀j,j<5→rC m j=mC a j)∧a.2=m.vs∧a.1≠0∧(qm a.1≤4∧a.2.length≤4∧fS a.2)∧a.2.Pairwise (· ≤ ·):=by
 unfold so at h;simp only[Bool.and_eq_true,decide_eq_true_eq]at h;obtain⟨q,h1,h2,h3,h4⟩:=Hg h.1;have hl1:(zm q.num).length≤4:=by rw[←h2];exact hx
 have hl2:(zm (q.den:Int)).length≤4:=by rw[←h4];exact hy
 rw[aN]at hl1 hl2;refine⟨(q,m.vs),fun j hj=>?_,rfl,fun e=>?_,⟨?_,hv,nC hi ha⟩,?_⟩
 ·match j,hj with
  |0,_=>show C.bool m.s=_;rw[h1];rfl
  |1,_=>show C.ints .u32 m.xs=_;rw[h2];rfl
  |2,_=>show C.bool m.t=_;rw[h3];rfl
  |3,_=>show C.ints .u32 m.ys=_;rw[h4];rfl
  |4,_=>rfl
 ·have e:q=0:=e;refine h.2 ?_;rw[h2,e]
  decide+kernel
 ·show qm q≤4;unfold qm
  have:zn (q.den:Int)=nl q.den:=rfl
  omega
 rw[List.pairwise_iff_getElem];intro i j hi' hj hij;have hi':i<m.vs.length:=hi';have hj:j<m.vs.length:=hj
 -- ascending, step by step
 have step:∀k,k+1<m.vs.length→m.vs.getD k 0≤m.vs.getD (k+1) 0:=by
  intro k hk
  have:=cK.1 ha (k+1) hk
  simpa using(Bool.and_eq_true _ _|>.mp this).2
 have all:∀n k,k+n<m.vs.length→m.vs.getD k 0≤m.vs.getD (k+n) 0:=by
  intro n
  induction n with
  |zero=>intro k _;exact Int.le_refl _
  |succ n ih=>
   intro k hk;exact Int.le_trans (ih k (by omega)) (step (k+n) (by omega))
 have:=all (j-i) i (by omega)
 rw[show i+(j-i)=j by omega,X7,X7,X8 hi',X8 hj]at this;exact this
structure HX (l:List ao):Prop where
 pb:PB l 8 4 4
 can:Go.Eng.Can l
 asc:q8 l
theorem GG {p:List Raw}(hp:om p)(hs:gu 8 4 p=true)(hv:vR p=true):∃l:List ao,HX l∧dg (RC p) (PC l)∧l.length=p.length∧∀i,i<p.length→(l.getD i default).2=(p.getD i default).vs:=by
 obtain⟨hok,hlen,hsm⟩:=tv (by decide) (by decide) hp hs;have hg:∀i,i<p.length→so (p.getD i default)=true∧vB (p.getD i default).vs=true∧(i=0∨cI (p.getD (i-1) default).vs (p.getD i default).vs<0):=by
  intro i hi
  have:=cK.1 hv i hi
  unfold gB at this
  simpa using this
 have hmem:∀i,i<p.length→p.getD i default∈p:=fun i hi=>by rw[getD_eq hi];exact List.getElem_mem hi
 obtain⟨g,hgm⟩:=Classical.axiomOfChoice (r:=fun(i:Nat) (a:ao)=>i<p.length→(∀j,j<5→rC (p.getD i default) j=mC a j)∧a.2=(p.getD i default).vs∧a.1≠0∧(qm a.1≤4∧a.2.length≤4∧fS a.2)∧a.2.Pairwise (· ≤ ·)) (fun i=>by
  by_cases hi:i<p.length
  ·have h1:=hsm _ (hmem i hi);obtain⟨a,h⟩:=FN (hg i hi).1 (hg i hi).2.1 (hp _ (hmem i hi)).v h1.2.1 h1.2.2 h1.1;exact⟨a,fun _=>h⟩
  exact⟨default,fun h=>absurd h hi⟩)
 have hget:∀i,i<p.length→((List.range p.length).map g).getD i default=g i:=by
  intro i hi;rw[X7,List.getElem?_map,List.getElem?_range hi];rfl
 have hin:∀m∈(List.range p.length).map g,∃i,i<p.length∧g i=m:=by
  intro m hm;obtain⟨i,hi,e⟩:=List.mem_map.1 hm;exact⟨i,List.mem_range.1 hi,e⟩
 refine⟨(List.range p.length).map g,⟨⟨by simpa using hlen,fun m hm=>?_⟩,⟨?_,fun m hm=>?_⟩,fun m hm=>?_⟩,dg.rows (by simp) fun i j hi hj=>dg.of_eq ?_,by simp,fun i hi=>by rw[hget i hi];exact(hgm i hi).2.1⟩
 ·obtain⟨i,hi,rfl⟩:=hin m hm;exact(hgm i hi).2.2.2.1
 ·have step:∀k,k+1<p.length→cI (g k).2 (g (k+1)).2<0:=by
   intro k hk
   rcases(hg (k+1) hk).2.2 with h|h
   ·omega
   rw[(hgm k (by omega)).2.1,(hgm (k+1) hk).2.1];exact h
  have all:∀n k,k+n+1<p.length→cI (g k).2 (g (k+n+1)).2<0:=by
   intro n
   induction n with
   |zero=>intro k hk;exact step k hk
   |succ n ih=>
    intro k hk;exact ft (ih k (by omega)) (step (k+n+1) (by omega))
  unfold xG;rw[List.pairwise_iff_getElem];intro i j hi hj hij;simp only[List.length_map,List.length_range]at hi hj;simp only[List.getElem_map,List.getElem_range]
  have:=all (j-i-1) i (by omega)
  rwa [show i+(j-i-1)+1=j by omega]at this
 ·obtain⟨i,hi,rfl⟩:=hin m hm;exact(hgm i hi).2.2.1
 ·obtain⟨i,hi,rfl⟩:=hin m hm;exact(hgm i hi).2.2.2.2
 rw[hget i hi];exact(hgm i hi).1 j hj
def LQ (p:List Raw):Bool:=gu 8 4 p&&vR p
def uX (ps:List (List Raw)):Bool:=(List.range ps.length).all fun i=>LQ (ps.getD i default)
theorem CJ (ps:List (List Raw))(hl:ps.length<2^30)(hp:∀p∈ps,om p):Pr Tryz.prog 7 [.one (.rows 1 ps.length (fun i _=>RC (ps.getD i default)))] (.one (.bool (uX ps))):=by
 have hr:uX ps=(List.range ps.length).all fun i=>LQ (ps.getD i default):=rfl;refine pw Tryz.func7 ⟨[0,2,4,5,6,7,8,18],[]⟩ ?_;simp only[Tryz.f7,Tryz.ntmps7,iz,seval];simp only[vx,T,seval];refine Lk (fun y:{i:Nat//i≤ps.length∧∀j,j<i→LQ (ps.getD j default)=true}=>⟨[(5,.one (.rows 1 ps.length (fun i _=>RC (ps.getD i default)))),(6,.one (.int .i64 ps.length)),(7,.one (.int .i64 y.1))],[],1,20⟩) (fun y=>ps.length-y.1) ⟨0,Nat.zero_le _,fun j h=>absurd h (Nat.not_lt_zero _)⟩ ?_ (fun⟨i,hi,he⟩=>?_)
 ·refine Sa ?_;simp only[ry,seval,rz]
 simp only[vx,T,seval];refine⟨fun h1=>Lg ?_,fun h1=>Lg ?_⟩
 ·have hip:i<ps.length:=by omega
  have i1:=wI i (by omega);obtain⟨p,hpi⟩:∃p,p=ps.getD i default:=⟨_,rfl⟩;have hpo:om p:=hp p (by rw[hpi,getD_eq hip];exact List.getElem_mem hip);have hbad:LQ p=false→uX ps=false:=fun h=>by rw[hr];exact bo hip (by rw[←hpi];exact h)
  simp only[vx,T,seval,RC,←hpi];refine⟨by omega,Cg (mP p 8 4 (by decide) (by decide)) ?_⟩;simp only[vx,T,seval];refine⟨fun h2=>Lg ?_,fun h2=>Lg ?_⟩
  ·have h2:gu 8 4 p=false:=by simpa using h2
   simp only[vx,T,seval];exact vb (hbad (by unfold LQ;rw[h2];rfl)).symm
  have h2:gu 8 4 p=true:=by simpa using h2
  obtain⟨hok,_,_⟩:=tv (by decide) (by decide) hpo h2;simp only[vx,T,seval];refine Cg (xy p hok) ?_;simp only[vx,T,seval];refine⟨fun h3=>Lg ?_,fun h3=>Lg ?_⟩
  ·have h3:vR p=false:=by simpa using h3
   simp only[vx,T,seval];exact vb (hbad (by unfold LQ;rw[h3,Bool.and_false])).symm
  have h3:vR p=true:=by simpa using h3
  simp only[vx,T,seval];simp only[i1];refine Lq ⟨i+1,by omega,fun j hj=>?_⟩ ?_ ?_
  ·by_cases hji:j<i
   ·exact he j hji
   rw[show j=i by omega,←hpi];unfold LQ;rw[h2,h3];rfl
  ·refine Sa ?_;simp only[ry,seval,rz]
  simp only;omega
 simp only[vx,T,seval];exact vb (cK.2 fun j hj=>he j (by omega)).symm
theorem uq {ps:List (List Raw)}(h:uX ps=true)(hp:∀p∈ps,om p){i:Nat}(hi:i<ps.length):∃l,HX l∧dg (RC (ps.getD i default)) (PC l)∧l.length=(ps.getD i default).length∧∀j,j<(ps.getD i default).length→(l.getD j default).2=((ps.getD i default).getD j default).vs:=by
 have h1:=cK.1 h i hi;unfold LQ at h1;simp only[Bool.and_eq_true]at h1;exact GG (hp _ (by rw[getD_eq hi];exact List.getElem_mem hi)) h1.1 h1.2
theorem O0 (p q:List Raw):dg (.rows 1 2 (fun i j=>[RC p,RC q].getD (i*1+j) .any)) (.rows 1 [p,q].length (fun i _=>RC ([p,q].getD i default))):=by
 refine dg.rows rfl fun i j hi hj=>dg.of_eq ?_;obtain rfl:j=0:=by omega
 match i,hi with
 |0,_=>rfl
 |1,_=>rfl
open Go Go.Eng
open Go.Tw (El ax bY TG qN mS tB jβ jμ lR iH lP zE)
theorem OF {p:List Raw}(hp:om p)(h:gu 4 3 p=true){l:List ao}(g:HX l)(hl:l.length=p.length)(hv:∀i,i<p.length→(l.getD i default).2=(p.getD i default).vs):PB l 4 3 4:=by
 obtain⟨_,h1,h2⟩:=tv (by decide) (by decide) hp h;refine⟨by omega,fun m hm=>?_⟩;obtain⟨g1,_,g3⟩:=g.pb.m m hm;obtain⟨i,hi,rfl⟩:=List.mem_iff_getElem.1 hm;have e:=hv i (by omega);rw[X7,X8 hi,Option.getD_some]at e;refine⟨g1,?_,g3⟩;rw[e];exact(h2 _ (by rw[getD_eq (by omega)];exact List.getElem_mem _)).1
section
variable {A:List R}(S:Go.Tw.Src 64 A)(hA:A.length≤3)
include S hA
theorem O7 {t:List El}{e:El}(T:TG A t)(he:e.length=2^t.length)(hv:Go.Tw.val t.length t e=R.q 0):iH lP t.length t e:=by
 obtain⟨z,w,d,E,_,_⟩:=T.ev S hA;have hx:Go.Tw.Ht t.length z w (Go.Tw.val t.length t e) 0:=by rw[hv];exact Go.Tw.Ht.rat (by decide) (by decide)
 exact(iH.of E he hx).mono (Go.Tw.BR _ (T.lS S hA)).2
theorem lL {x y:List El×El}{v:R}{βx μx βy μy:Nat}(hx:ax A x.1 x.2 v βx μx)(hy:ax A y.1 y.2 v βy μy)(sx:Sm βx μx)(sy:Sm βy μy)(h1:βy≤jβ)(h2:μy≤jμ):
  Pr Tryz.prog 11 [nX x,nX y] (.one (.bool true)):=by
 obtain⟨z,nz,c⟩:=tA S hA hx hy sx sy h1 h2;have hz:Go.Tw.val z.1.length z.1 z.2=R.q 0:=by rw[nz.val,R.add_neg]
 have g:=H2 (by decide) (by decide) (pD S hA nz.tg) nz.len (O7 S hA nz.tg nz.len hz);rw[Go.Tw.cP nz.tg.rd.rl nz.len,hz,R.dV]at g;exact BF x y 0 (GP x y z 0 c g)
variable {p:List ao}{n d B:Nat}(hp:PB p n d B)(hn:n≤16)(hd:d≤6)(hB:B≤144){l:List (List El×El)}(hl:∀x∈l,∃v,bY A 64 x.1 x.2 v)(hll:l.length≤24)
include hp hn hd hB hl hll
theorem Ox (hV:oV l.length p):∃z:List El×El,ax A z.1 z.2 (ja (xv l) p) (n*(32*B+520*d+1)+32) (n*(8*d))∧Pr Tryz.prog 9 [PV p,.one (aZ l)] (.aJ [nX z,.one (.int .i64 0)]):=by
 obtain⟨X,E,H,nE⟩:=L2 S hA (O1 S hA) hp hn hd hB hl hV;have hpn:=hp.n;exact⟨_,nE,ub p l (d:=d) (by omega) (by omega) (fun m hm=>(hp.m m hm).2.1) (by omega) _ (fun _=>⟨X,E,H,rfl⟩) (fun h=>absurd hV h)⟩
theorem PS (hV:oV l.length p):∃z:List El×El,ax A z.1 z.2 (ja (xv l) p) (n*(32*B+520*d+1)+32) (n*(8*d))∧Pr Tryz.prog 10 [PV p,.one (aZ l)] (.aJ [nX z,.one (.int .i64 0)]):=by
 obtain⟨X,E,H,nE⟩:=L2 S hA (OU S hA) hp hn hd hB hl hV;have hpn:=hp.n;exact⟨_,nE,tG p l (d:=d) (by omega) (by omega) (fun m hm=>(hp.m m hm).2.1) (by omega) _ (fun _=>⟨X,E,H,rfl⟩) (fun h=>absurd hV h)⟩
omit S hA hl hB
theorem ya (hV:¬oV l.length p):Pr Tryz.prog 9 [PV p,.one (aZ l)] (.aJ [.agg [.nil,.nil],.one (.int .i64 1)]):=by
 have hpn:=hp.n;exact ub p l (d:=d) (by omega) (by omega) (fun m hm=>(hp.m m hm).2.1) (by omega) _ (fun h=>absurd h hV) (fun _=>rfl)
theorem K8 (hV:¬oV l.length p):Pr Tryz.prog 10 [PV p,.one (aZ l)] (.aJ [.agg [.nil,.nil],.one (.int .i64 1)]):=by
 have hpn:=hp.n;exact tG p l (d:=d) (by omega) (by omega) (fun m hm=>(hp.m m hm).2.1) (by omega) _ (fun h=>absurd h hV) (fun _=>rfl)
end
open Go Go.Eng
open Go.Tw (El ax bY TG qN mS tB jβ jμ lR)
theorem yY {A:List R}(S:Go.Tw.Src 64 A)(hA:A.length≤3){x:List El×El}{v:R}(h:bY A 64 x.1 x.2 v):Pr Tryz.prog 31 [nX x] (.one (.bool true)):=by
 have h3:=h.tg.lS S hA;have key:∀{a:El},Go.Tw.iD 64 a→∀i,i<a.length→¬nf 6 (a.getD i default):=fun{a} hb i hi hq=>by
  have hm:=hb (a.getD i default) (by rw[X7,X8 hi];exact List.getElem_mem _)
  have:=Go.Tw.pX hm.1 hm.2
  unfold nf at hq;unfold qm at this;omega
 refine KC x (by rw[h.len];exact aO (by omega)) (by omega) (fun j hj=>by rw[(h.tg.rd.rl j hj).1];exact aO (by omega)) ⟨fun e=>(by cases e),fun hl=>?_⟩
 rcases hl with⟨i,h1,h2⟩|⟨j,h1,i,h2,h3⟩
 ·exact absurd h2 (key h.bits i h1)
 exact absurd h3 (key (h.tb j h1) i h2)
theorem Pb:∀h,h≤3→mS h (qN h 6788 96+qN h 6788 96) tB<2^34:=by
 intro h hh
 match h,hh with
 |0,_=>decide+kernel
 |1,_=>decide+kernel
 |2,_=>decide+kernel
 |3,_=>decide+kernel
theorem Co (p q:List Raw)(r:List EH)(hp:om p)(hq:om q)(hr:∀o∈r,o.Ok)(hrl:r.length<2^63):Pr Tryz.prog 3 [RV p,RV q,mv r] (.one (.bool true)):=by
 obtain⟨A,l,S,hA,hl24,hls,cb⟩:=KG r hr hrl;have call:=ON l (by omega) fun i hi=>by
  obtain⟨v,hv⟩:=hls (l.getD i default) (by rw[X7,X8 hi];exact List.getElem_mem _);exact yY S hA hv
 have hps:∀x∈[p,q],om x:=fun x hx=>by
  rcases List.mem_cons.1 hx with rfl|hx
  ·exact hp
  obtain rfl:=List.mem_singleton.1 hx;exact hq
 refine pw Tryz.func3 ⟨[0,1,2,6,7,8,9,10,11,12,13,14,15,16,17,18,19,20,21,47,79,85],[]⟩ ?_;simp only[Tryz.f3,Tryz.ntmps3,iz,seval];simp only[vx,T,seval,mv];refine Cg cb ?_;simp only[vx,T,seval,mv,aZ];refine Cg ll ?_;simp only[vx,T,seval,RV,RC];refine Cg (mP p 4 3 (by decide) (by decide)) ?_;simp only[vx,T,seval,RV,RC];refine⟨fun _=>Lg ?_,fun h1=>Lg ?_⟩
 ·simp only[vx,T,seval,RV,RC];refine Cg ll ?_;simp only[vx,T,seval];exact Ve rfl
 have h1:gu 4 3 p=true:=by simpa using h1
 simp only[vx,T,seval,RV,RC];refine Cg (mP q 4 3 (by decide) (by decide)) ?_;simp only[vx,T,seval,RV,RC];refine⟨fun _=>Lg ?_,fun h2=>Lg ?_⟩
 ·simp only[vx,T,seval,RV,RC];refine Cg ll ?_;simp only[vx,T,seval];exact Ve rfl
 have h2:gu 4 3 q=true:=by simpa using h2
 simp only[vx,T,seval,RV,RC];refine Cg ((CJ [p,q] (by simp) hps).HG (O0 p q)) ?_;simp only[vx,T,seval,RV,RC];refine⟨fun _=>Lg ?_,fun h3=>Lg ?_⟩
 ·simp only[vx,T,seval,RV,RC];refine Cg ll ?_;simp only[vx,T,seval];exact Ve rfl
 have h3:uX [p,q]=true:=by simpa using h3
 simp only[vx,T,seval,RV,RC];refine Cg call ?_;obtain⟨a,ga,la,na1,na2⟩:=uq h3 hps (i:=0) (by simp);obtain⟨b,gb,lb,nb1,nb2⟩:=uq h3 hps (i:=1) (by simp);have la:dg (RC p) (PC a):=la;have lb:dg (RC q) (PC b):=lb;have pa:=OF hp h1 ga na1 na2;have pb:=OF hq h2 gb nb1 nb2;clear na1 na2 nb1 nb2 ga gb h1 h2 h3 hps call;have two:∀{x y:C} {x' y':C} f r,dg x x'→dg y y'→Pr Tryz.prog f [.one x',.one y'] r→Pr Tryz.prog f [.one x,.one y] r:=fun f r hx hy h=>h.Md hx hy
 by_cases VaL:oV l.length a
 ·obtain⟨za,nza,ca⟩:=Ox S hA pa (by decide) (by decide) (by decide) hls hl24 VaL;obtain⟨zr,nzr,cr⟩:=PS S hA pa (by decide) (by decide) (by decide) hls hl24 VaL;have ca:=two _ _ la (dg.refl _) ca;have cr:=two _ _ la (dg.refl _) cr;have sm:Sm (4*(32*4+520*3+1)+32) (4*(8*3)):=.of (by decide) (by decide);have ce:=lL S hA nza nzr sm sm (by decide) (by decide)
  by_cases Vb:oV l.length b
  ·obtain⟨zb,nzb,cb2⟩:=Ox S hA pb (by decide) (by decide) (by decide) hls hl24 Vb;have cb2:=two _ _ lb (dg.refl _) cb2;have ps:=(pa.append pb).dq;have pm:=pa.mulM pb;obtain⟨zs,nzs,cs⟩:=Ox S hA ps (by decide) (by decide) (by decide) hls hl24 (VaL.append Vb).dq;obtain⟨zm,nzm,cm⟩:=Ox S hA pm (by decide) (by decide) (by decide) hls hl24 (VaL.mulM Vb);rw[yA,oP]at nzs;rw[Gd]at nzm;have c1:=two _ _ la lb (oz pa pb (by decide) (by decide) (by decide));have c2:=two _ _ la lb (jD pa pb (by decide) (by decide) (by decide) (by decide) (by decide));obtain⟨u,nu,cu⟩:=lI S hA nza nzb sm sm (by decide) (by decide);obtain⟨w,nw,cw⟩:=kT S hA nza nzb sm sm (by decide) (by decide) Pb;have e1:=lL S hA nzs nu (.of (by decide) (by decide)) (.of (by decide) (by decide)) (by decide) (by decide);have e2:=lL S hA nzm nw (.of (by decide) (by decide)) (.of (by decide) (by decide)) (by decide) (by decide);clear nzs nzm nu nw nza nzb nzr sm ps pm pa pb hls S;simp only[vx,T,seval,RV,RC,aZ];refine Cg ca ?_;simp only[vx,T,seval,nX,nV,tC,ag,RV,RC,aZ];refine Cg cb2 ?_;simp only[vx,T,seval,nX,nV,tC,ag,RV,RC,aZ];refine Cg cr ?_;simp only[vx,T,seval,nX,nV,tC,ag,RV,RC,aZ];refine Cg ce ?_;simp only[vx,T,seval,nX,nV,tC,ag,RV,RC,aZ];refine Cg c1 ?_;simp only[vx,T,seval,nX,nV,tC,ag,RV,RC,aZ,PV,PC];refine Cg cs ?_;simp only[vx,T,seval,nX,nV,tC,ag,RV,RC,aZ];refine Cg c2 ?_;simp only[vx,T,seval,nX,nV,tC,ag,RV,RC,aZ,PV,PC];refine Cg cm ?_;simp only[vx,T,seval,nX,nV,tC,ag,RV,RC,aZ];refine Cg cu ?_;simp only[vx,T,seval,nX,nV,tC,ag,RV,RC,aZ];refine Cg cw ?_;simp only[vx,T,seval,nX,nV,tC,ag,RV,RC,aZ];refine Cg e1 ?_;simp only[vx,T,seval,nX,nV,tC,ag,RV,RC,aZ];refine Cg e2 ?_;simp only[vx,T,seval,nX,nV,tC,ag,RV,RC,aZ];exact Ve rfl
  have cb2:=two _ _ lb (dg.refl _) (ya pb (by decide) (by decide) hl24 Vb);simp only[vx,T,seval,RV,RC,aZ];refine Cg ca ?_;simp only[vx,T,seval,nX,nV,tC,ag,RV,RC,aZ];refine Cg cb2 ?_;simp only[vx,T,seval,nX,nV,tC,ag,RV,RC,aZ];refine Cg cr ?_;simp only[vx,T,seval,nX,nV,tC,ag,RV,RC,aZ];refine Cg ce ?_;simp only[vx,T,seval,nX,nV,tC,ag,RV,RC,aZ];exact Ve rfl
 have ca:=two _ _ la (dg.refl _) (ya pa (by decide) (by decide) hl24 VaL);have cr:=two _ _ la (dg.refl _) (K8 pa (by decide) (by decide) hl24 VaL)
 by_cases Vb:oV l.length b
 ·obtain⟨zb,nzb,cb2⟩:=Ox S hA pb (by decide) (by decide) (by decide) hls hl24 Vb;have cb2:=two _ _ lb (dg.refl _) cb2;simp only[vx,T,seval,RV,RC,aZ];refine Cg ca ?_;simp only[vx,T,seval,RV,RC,aZ];refine Cg cb2 ?_;simp only[vx,T,seval,nX,nV,tC,ag,RV,RC,aZ];refine Cg cr ?_;simp only[vx,T,seval,nX,nV,tC,ag,RV,RC,aZ];exact Ve rfl
 have cb2:=two _ _ lb (dg.refl _) (ya pb (by decide) (by decide) hl24 Vb);simp only[vx,T,seval,RV,RC,aZ];refine Cg ca ?_;simp only[vx,T,seval,RV,RC,aZ];refine Cg cb2 ?_;simp only[vx,T,seval,RV,RC,aZ];refine Cg cr ?_;simp only[vx,T,seval,RV,RC,aZ];exact Ve rfl
open Go Go.Eng
set_option maxRecDepth 100000 in
theorem KQ:p7 Tryz.prog [25,45,5,43]=true:=by kernel_rfl
theorem Dj {n:Nat}{cs:List C}(h:kO Tryz.prog maxLen n 5 cs):∃x:Nat,cs=[.int .u8 x]∧x<256:=by
 cases n with
 |zero=>exact h.elim
 |succ n=>
  simp only[kO,Tryz.underlying5]at h;obtain⟨x,rfl,h1,h2⟩:=h;have e1:IntKind.u8.min=0:=rfl;have e2:IntKind.u8.max=255:=rfl;rw[e1]at h1;rw[e2]at h2;exact⟨x.toNat,by rw[Int.toNat_of_nonneg h1],by omega⟩
theorem Oh {n:Nat}{cs:List C}(h:kO Tryz.prog maxLen n 45 cs):∃o:EH,cs=(List.range 5).map (oC o)∧o.Ok:=by
 cases n with
 |zero=>exact h.elim
 |succ n=>
  simp only[kO,Tryz.underlying45]at h;obtain⟨c1,c2,rfl,h1,c3,c4,rfl,h2,c5,c6,rfl,h3,c7,c8,rfl,h4,c9,c10,rfl,h5,h6⟩:=h;have h6:c10=[]:=h6;subst h6;obtain⟨k,rfl,k1⟩:=Dj h1;obtain⟨a,rfl,k2⟩:=Dj h2;obtain⟨b,rfl,k3⟩:=Dj h3;obtain⟨d,rfl,k5⟩:=Dj h5
  cases n with
  |zero=>exact h4.elim
  |succ n=>
   simp only[kO,Tryz.underlying43]at h4;obtain⟨x,rfl,k4⟩:=h4;have e1:IntKind.i8.min= -128:=rfl;have e2:IntKind.i8.max=127:=rfl;rw[e1,e2]at k4;exact⟨⟨k,a,b,x,d⟩,rfl,k1,k2,k3,k4,k5⟩
set_option maxRecDepth 100000 in
theorem ER {n:Nat}{c:C}(h:kO Tryz.prog maxLen n 25 [c]):∃r:List EH,(∀o∈r,o.Ok)∧r.length<2^63∧dg c (.rows 5 r.length (fun i=>oC (r.getD i default))):=by
 cases n with
 |zero=>exact h.elim
 |succ n=>
  simp only[kO,Tryz.underlying25,Tryz.underlying45]at h;obtain⟨m,f,hc,hm0,hm⟩:=h;have h5:Tryz.prog.cellsOf 45=5:=by kernel_rfl
  rw[h5]at hc hm;obtain rfl:c= .rows 5 m f:=by simpa using hc
  obtain⟨g,hg⟩:=Classical.axiomOfChoice (r:=fun(i:Nat) (a:EH)=>i<m→(List.range 5).map (f i)=(List.range 5).map (oC a)∧a.Ok) (fun i=>by
   by_cases hi:i<m
   ·obtain⟨a,h1,h2⟩:=Oh (hm i hi);exact⟨a,fun _=>⟨h1,h2⟩⟩
   exact⟨default,fun h=>absurd h hi⟩)
  refine⟨(List.range m).map g,fun a ha=>?_,?_,dg.rows (by simp) fun i j hi hj=>dg.of_eq ?_⟩
  ·obtain⟨i,hi,rfl⟩:=List.mem_map.1 ha;exact(hg i (List.mem_range.1 hi)).2
  ·have:maxLen<2^63:=by decide
   simp only[List.length_map,List.length_range];omega
  have h1:=congrArg (fun l:List C=>l[j]?) (hg i hi).1;simp only[List.getElem?_map,List.getElem?_range hj,Option.map_some,Option.some.injEq]at h1;rw[h1]
  congr 1
  rw[X7,List.getElem?_map,List.getElem?_range hi];rfl
end Go.Proofs.YtgalhjhdgkoemaaGreat
/-
  EquationEval: for every input the law returns true, and each argument reads afterwards as it read before. No condition beyond the given row's own cells.
-/
namespace Go.Proofs.YtgalhjhdgkoemaaGreat
open Go Go.Proofs Go.Eng Go.ChangeShapes Go.WideShapes Go.ChangeAt Go.RowKit
theorem Tryz.own:ownKnob Tryz.prog.godebug=none:=by kernel_rfl
theorem Tryz.laidOut:laidOutB Tryz.prog=true:=by kernel_rfl
set_option maxRecDepth 100000 in
theorem nO (os:Os)(started:os.Started)(H:Type)(enc:TypeId×Value→H):
  ReturnsInHanded {} Tryz.checked os 3 .any (Rows.equationEvalSpec.pre6 enc Tryz.prog Tryz.f3 Rows.equationEvalRow.domain false) (Rows.equationEvalSpec.post enc Tryz.prog Tryz.f3 false true false false):=by
 refine returnsInHanded_of_change (C:=Tryz.checked) Tryz.own started (by kernel_rfl) Tryz.func3
  (ChangeSpec.witness6 (enc:=enc) (C:=Tryz.checked) false ⟨#[],#[.slice none 0 0,.slice none 0 0,.slice none 0 0],[]⟩ 8 (by kernel_rfl) (by kernel_rfl) (by kernel_rfl) (by kernel_rfl)) ?_
 intro W base args ds gs before hval0 hW hcnd _;have hval:∀(j:Nat) t v,Tryz.f3.params[j]? =some t→args[j]? =some v→Value.okWide Tryz.prog W .any base t v:=hval0;have hW':=hW;obtain⟨p,q,hA0,hV,rfl,hfz,hnd⟩:=hW;have hA:DataW.TrodAll enc Tryz.prog W 0 (fun _=>true) true Tryz.f3.params.toList args.toList ds p:=hA0;rw[Tryz.params3]at hA hval;obtain⟨v0,v1,v2,d0,d1,d2,p0,p1,p2,rfl,rfl,rfl,h0,h1,h2⟩:=trodAll_three hA;obtain⟨rfl,rfl⟩:=trodVars_none hV;clear hA0 hval0;simp only[List.append_nil]at hW';have hlt:=fun x hx=>hW'.lt x hx;have o0:v0.oneCell'=true:=rA Tryz.underlying23 (hval 0 23 v0 rfl rfl);have o1:v1.oneCell'=true:=rA Tryz.underlying23 (hval 1 23 v1 rfl rfl);have o2:v2.oneCell'=true:=rA Tryz.underlying25 (hval 2 25 v2 rfl rfl);have s0:=fun W' hb=>rh (W':=W') Tryz.laidOut (by kernel_rfl) (of_decide_eq_true (by kernel_rfl)) h0 hb (fun x hx=>hlt x (List.mem_append_left _ (List.mem_append_left _ hx)));have s1:=fun W' hb=>rh (W':=W') Tryz.laidOut (by kernel_rfl) (of_decide_eq_true (by kernel_rfl)) h1 hb (fun x hx=>hlt x (List.mem_append_left _ (List.mem_append_right _ hx)));have s2:=fun W' hb=>rh (W':=W') Tryz.laidOut (by kernel_rfl) (of_decide_eq_true (by kernel_rfl)) h2 hb (fun x hx=>hlt x (List.mem_append_right _ hx));obtain⟨n0,c0,hc0,hr0⟩:=tZ DX (by decide) o0 h0;obtain⟨q0,hq0,hle0⟩:=DM hc0;obtain⟨n1,c1,hc1,hr1⟩:=tZ DX (by decide) o1 h1;obtain⟨q1,hq1,hle1⟩:=DM hc1;obtain⟨n2,c2,hc2,hr2⟩:=tZ KQ (by decide) o2 h2;obtain⟨r,hro,hrl,hle2⟩:=ER hc2;have hcon:=Co q0 q1 r hq0 hq1 hro hrl;have hargs:a8 bz bH (fun g=>g<W.heap.size) W [RV q0,RV q1,mv r] [v0,v1,v2]:=⟨aW.bw (ρ:=bz) (dom:=bH) (hle0 _ _ _ hr0),aW.bw (ρ:=bz) (dom:=bH) (hle1 _ _ _ hr1),aW.bw (ρ:=bz) (dom:=bH) (hle2 _ _ _ hr2),trivial⟩
 refine((hcon.2 (fun g=>g<W.heap.size) W #[v0,v1,v2] (fun _ h=>h) hargs).mono ?_)
 rintro e W' ⟨v,rfl,hB,hv⟩;have hv:v= .bool true:=hv;subst hv;exact⟨_,rfl,Ic hW' rfl rfl Tryz.underlying4 rfl (by rw[List.append_assoc p0 p1 p2];exact trodAll_mk3 (s0 W' hB) (s1 W' hB) (s2 W' hB)) rfl hB⟩
theorem equationEval_holds:Rows.EquationEvalSaid:=
 OpenClaim.holds_of_wide 3 Tryz.f3 rfl rfl rfl rfl rfl rfl rfl ⟨rfl,rfl,rfl,rfl,rfl⟩ rfl rfl rfl rfl rfl (by kernel_rfl) Tryz.func3 (by kernel_rfl)
  (of_decide_eq_true (by kernel_rfl)) (by unfold Func.isWrapper;first|(rw[if_pos (by decide+kernel)];kernel_rfl)|(rw[if_neg (by decide+kernel)];exact⟨rfl,rfl⟩))
  (fun os started H enc _=>nO os started H enc)
end Go.Proofs.YtgalhjhdgkoemaaGreat
