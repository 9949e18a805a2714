/-
  CurveMiddle: for every input the law returns true, and each argument reads afterwards as it read before. No condition.
  (Text 8 of 11; made by a program out of smaller texts.)
-/
import Derived.Test.YtaihcpdpmijifaaGreatP7
set_option linter.unusedSimpArgs false
set_option linter.unusedVariables false
set_option maxHeartbeats 16000000
set_option maxRecDepth 10000
open Nat renaming reduceAdd→J1,reduceMul→J2,reduceSub→J3,reduceEqDiff→J4,reduceLT→J5,reduceLeDiff→J6,reduceBEq→J7,reduceDiv→J8,reduceMod→J9,reducePow→J0
open Int renaming reduceToNat→K1,reduceLE→K2,reduceLT→K3,reduceEq→K4,reducePow→K5,reduceSub→K6,reduceNeg→K7,natCast_add→X2,natCast_one→X3,natCast_zero→X4
open List renaming getD_cons_zero→X0,getD_cons_succ→X1,length_take→X5,length_append→X6,getD_eq_getElem?_getD→X7,getElem?_eq_getElem→X8
open Int renaming natCast_mul→Q2
open And renaming intro→Q3
open Go.IntWalk renaming i64_in→Q4
set_option maxHeartbeats 2000000
namespace Go.Proofs.YtaihcpdpmijifaaGreat
open Go Go.Eng Go.Geo
theorem zn_1000 {n:Int}(h: -1000≤n∧n≤1000):zn n≤1:=nl_le_of_lt (show n.natAbs<BB^1 by have:BB^1=4294967296:=rfl;omega)
theorem nl_1000 {n:Nat}(h:n≤1000):nl n≤1:=nl_le_of_lt (show n<BB^1 by have:BB^1=4294967296:=rfl;omega)
theorem rFracI (n d:Int)(hn: -1000≤n∧n≤1000)(hd:0<d∧d≤1000):Pr Tryz.prog 19 [.one (.int .i64 n),.one (.int .i64 d)] (QV (mkRat n d.toNat)):=by
 have h1:=zn_1000 hn;have h2:=nl_1000 (n:=d.toNat) (by omega);have h:=rFrac_spec n d.toNat ⟨by omega,by omega⟩ (by omega) (by omega) (by omega) (by omega);rw[show ((d.toNat:Nat):Int)=d by omega]at h;exact h
theorem Sm.mk {n:Int}{d:Nat}(hn: -1000≤n∧n≤1000)(hd:0<d∧d≤1000):Sm 1 (mkRat n d):=by
 have h:=qm_mk (n:=n) hd.1;have h1:=zn_1000 hn;have h2:=nl_1000 hd.2;unfold Sm;omega
theorem r47at (a b u:Int)(ha:I8 a)(hb:I8 b)(hu:0≤u∧u<256):Pr Tryz.prog 41 [.agg [.int .i8 a,.int .i8 b],.one (.int .u8 u)] (WV (atQ a u) (atQ b u)):=by
 unfold I8 at ha hb;have e1:IntKind.i64.wrap a=a:=Q4 _ (by omega);have e2:IntKind.i64.wrap b=b:=Q4 _ (by omega);have e3:u.tmod 4=u%4:=Int.tmod_eq_emod_of_nonneg hu.1;have e4:IntKind.i64.wrap (u%4)=u%4:=Q4 _ (by omega);have e5:IntKind.i64.wrap (u%4+1)=u%4+1:=Q4 _ (by omega);have c1:=rFracI a (u%4+1) (by omega) (by omega);have c2:=rFracI b (u%4+1) (by omega) (by omega);rw[show (u%4+1).toNat=(u%4).toNat+1 by omega]at c1 c2;have c3:=r13Make (atQ a u) (atQ b u);unfold atQ at c3⊢;refine pw Tryz.func41 ⟨[0,1,2,4,5],[]⟩ ?_;simp only[Tryz.f41,Tryz.ntmps41,iz,seval];simp only[vx,T,seval,e1,e2,e3,e4,e5];refine Cg c1 ?_;simp only[vx,T,seval,QV,QC,e1,e2,e3,e4,e5];refine Cg c2 ?_;simp only[vx,T,seval,QV,QC];refine Cg c3 ?_;simp only[vx,T,seval,WV,QsC];exact Ve rfl
theorem atQ_sm {p u:Int}(hp:I8 p)(hu:0≤u∧u<256):Sm 1 (atQ p u):=Sm.mk (by unfold I8 at hp;omega) (by omega)
theorem r47unit (s:Int)(hs:0≤s∧s<256):Pr Tryz.prog 44 [.one (.int .u8 s)] (WV (uX (s%16).toNat) (uY (s%16).toNat)):=by
 have e:s.tmod 16=s%16:=Int.tmod_eq_emod_of_nonneg hs.1;rw[←e];have hk:s.tmod 16=0∨s.tmod 16=1∨s.tmod 16=2∨s.tmod 16=3∨s.tmod 16=4∨s.tmod 16=5∨s.tmod 16=6∨s.tmod 16=7∨s.tmod 16=8∨s.tmod 16=9∨s.tmod 16=10∨s.tmod 16=11∨s.tmod 16=12∨s.tmod 16=13∨s.tmod 16=14∨s.tmod 16=15:=by omega
 clear e;refine pw Tryz.func44 ⟨[0,2,3,4],[]⟩ ?_;simp only[Tryz.f44,Tryz.ntmps44,iz,seval];simp only[vx,T,seval]
 rcases hk with h|h|h|h|h|h|h|h|h|h|h|h|h|h|h|h
 all_goals
  simp only[vx,T,seval,h];refine Cg (rFracI _ _ (by decide) (by decide)) ?_;simp only[vx,T,seval,QV,QC,h];refine Cg (rFracI _ _ (by decide) (by decide)) ?_;simp only[vx,T,seval,QV,QC,h];refine Cg (r13Make _ _) ?_;simp only[vx,T,seval,WV,QsC];exact Ve rfl
theorem unE_ok:∀s,s<16→(-1000≤(unE s).1∧(unE s).1≤1000)∧(-1000≤(unE s).2.1∧(unE s).2.1≤1000)∧0<(unE s).2.2∧(unE s).2.2≤1000:=by decide
theorem uX_sm {s:Nat}(h:s<16):Sm 1 (uX s):=Sm.mk (unE_ok s h).1 (unE_ok s h).2.2
theorem uY_sm {s:Nat}(h:s<16):Sm 1 (uY s):=Sm.mk (unE_ok s h).2.1 (unE_ok s h).2.2
theorem r13Whole0:Pr Tryz.prog 42 [.one (.int .i64 0),.one (.int .i64 0)] (WV 0 0):=by
 have c:=rQFromInt_spec 0 (by decide) (by decide);have d:=r13Make (Rat.ofInt 0) (Rat.ofInt 0);refine pw Tryz.func42 ⟨[0,1,4],[]⟩ ?_;simp only[Tryz.f42,Tryz.ntmps42,iz,seval];simp only[vx,T,seval];refine Cg c ?_;simp only[vx,T,seval,QV,QC];refine Cg c ?_;simp only[vx,T,seval,QV,QC];refine Cg d ?_;simp only[vx,T,seval,WV,QsC];exact Ve rfl
end Go.Proofs.YtaihcpdpmijifaaGreat
set_option maxHeartbeats 2000000
namespace Go.Proofs.YtaihcpdpmijifaaGreat
open Go Go.Eng Go.Geo
open Go.Tw (El addE negE zE mulE QB MlB)
def CuC (arc cw:Bool)(ax ay bx by' zx zy:Rat):List C:=[.bool arc,.nil,QsC [ax],.nil,QsC [ay],.nil,QsC [bx],.nil,QsC [by'],.nil,QsC [zx],.nil,QsC [zy],.bool cw]
def cuL (c:Cu):List C:=CuC c.arc c.cw c.ax c.ay c.bx c.by' c.zx c.zy
def cuC (n:Nat)(f:Nat→Cu):C:=.rows 14 n (fun i j=>(cuL (f i)).getD j .any)
def CuSm (c:Cu)(B:Nat):Prop:=(Sm B c.ax∧Sm B c.ay)∧(Sm B c.bx∧Sm B c.by')∧Sm B c.zx∧Sm B c.zy
theorem Sm.zero:Sm 1 (0:Rat):=show qm 0≤1 by decide+kernel
theorem drSm {d:Dr}(h:d.ok):CuSm d.cu 16:=by
 obtain⟨⟨h1,h2,h3,h4⟩,h5,h6⟩:=h;have k1:=(atQ_sm h1 h6);have k2:=(atQ_sm h2 h6);have k3:=(atQ_sm h3 h6);have k4:=(atQ_sm h4 h6);have hs:(d.st%16).toNat<16:=by omega
 have e1:=uX_sm hs;have e2:=uY_sm hs;unfold Dr.cu
 cases d.arc with
 |false=>exact⟨⟨k1.mono (by omega),k2.mono (by omega)⟩,⟨k3.mono (by omega),k4.mono (by omega)⟩,Sm.zero.mono (by omega),Sm.zero.mono (by omega)⟩
 |true=>exact⟨⟨k3.mono (by omega),k4.mono (by omega)⟩,⟨(k1.add (((k3.sub k1).mul e1).add ((k4.sub k2).neg.mul e2))).mono (by omega),(k2.add (((k4.sub k2).mul e1).add ((k3.sub k1).mul e2))).mono (by omega)⟩,k1.mono (by omega),k2.mono (by omega)⟩
theorem r47Valid (c:Cu){B:Nat}(hB:B<2^20)(h:CuSm c B):Pr Tryz.prog 48 [.agg (cuL c)] (.one (.bool c.vld)):=by
 obtain⟨arc,cw,ax,ay,bx,by',zx,zy⟩:=c;obtain⟨⟨h1,h2⟩,⟨h3,h4⟩,h5,h6⟩:=h;simp only at h1 h2 h3 h4 h5 h6;unfold Cu.vld cuL;simp only
 cases arc
 ·have c1:=r13Equal ax ay bx by' (B:=B) (by omega) h1 h2 h3 h4;refine pw Tryz.func48 ⟨[0,1,2,3,4,5,8],[(4,(.cons 5 [6,7,8,9,10] (.cons 11 [] (.cons 12 [] (.cons 13 [] (.cons 14 [] (.cons 15 [] .nil .nil) .nil) .nil) (.cons 13 [] (.cons 12 [] (.cons 14 [] (.cons 15 [] .nil .nil) .nil) .nil) .nil)) (.cons 12 [6,7,8,9,10] (.cons 11 [] (.cons 13 [] (.cons 14 [] (.cons 15 [] .nil .nil) .nil) .nil) (.cons 13 [6,7,8,9,10] (.cons 11 [] (.cons 14 [] (.cons 15 [] .nil .nil) .nil) .nil) .nil)) (.cons 13 [6,7,8,9,10] (.cons 11 [] (.cons 12 [] (.cons 14 [] (.cons 15 [] .nil .nil) .nil) .nil) (.cons 12 [6,7,8,9,10] (.cons 11 [] (.cons 14 [] (.cons 15 [] .nil .nil) .nil) .nil) .nil)) .nil))) (.cons 12 [0,1,2,3,4,6,7,8,9,10] (.cons 5 [6,7,8,9,10] (.cons 11 [] (.cons 13 [] (.cons 14 [] (.cons 15 [] .nil .nil) .nil) .nil) (.cons 13 [6,7,8,9,10] (.cons 11 [] (.cons 14 [] (.cons 15 [] .nil .nil) .nil) .nil) .nil)) (.cons 13 [0,1,2,3,4,6,7,8,9,10] (.cons 5 [6,7,8,9,10] (.cons 11 [] (.cons 14 [] (.cons 15 [] .nil .nil) .nil) .nil) .nil) .nil)) (.cons 13 [0,1,2,3,4,6,7,8,9,10] (.cons 5 [6,7,8,9,10] (.cons 11 [] (.cons 12 [] (.cons 14 [] (.cons 15 [] .nil .nil) .nil) .nil) (.cons 12 [6,7,8,9,10] (.cons 11 [] (.cons 14 [] (.cons 15 [] .nil .nil) .nil) .nil) .nil)) (.cons 12 [0,1,2,3,4,6,7,8,9,10] (.cons 5 [6,7,8,9,10] (.cons 11 [] (.cons 14 [] (.cons 15 [] .nil .nil) .nil) .nil) .nil) .nil)) .nil))))]⟩ ?_;simp only[Tryz.f48,Tryz.ntmps48,iz,seval];simp only[vx,T,seval,WV,CuC,QsC];refine Cg c1 ?_;simp only[vx,T,seval,WV,CuC,QsC];exact Ve rfl
 have c1:=k_Far ax ay zx zy (B:=B) (by omega) h1 h2 h5 h6;have c2:=k_Far bx by' zx zy (B:=B) (by omega) h3 h4 h5 h6;have s1:=Sm.far h1 h2 h5 h6;have s2:=Sm.far h3 h4 h5 h6;have c3:=r9Sign0 (farQ ax ay zx zy) (s1.lt (by omega));have c4:=r9Eq0 (farQ ax ay zx zy) (farQ bx by' zx zy) (s1.lt2 (by omega)) (s2.lt2 (by omega))
 generalize farQ ax ay zx zy=p at*
 generalize farQ bx by' zx zy=q at*
 refine pw Tryz.func48 ⟨[0,1,2,3,4,5,8],[(4,(.cons 5 [6,7,8,9,10] (.cons 11 [] (.cons 12 [] (.cons 13 [] (.cons 14 [] (.cons 15 [] .nil .nil) .nil) .nil) (.cons 13 [] (.cons 12 [] (.cons 14 [] (.cons 15 [] .nil .nil) .nil) .nil) .nil)) (.cons 12 [6,7,8,9,10] (.cons 11 [] (.cons 13 [] (.cons 14 [] (.cons 15 [] .nil .nil) .nil) .nil) (.cons 13 [6,7,8,9,10] (.cons 11 [] (.cons 14 [] (.cons 15 [] .nil .nil) .nil) .nil) .nil)) (.cons 13 [6,7,8,9,10] (.cons 11 [] (.cons 12 [] (.cons 14 [] (.cons 15 [] .nil .nil) .nil) .nil) (.cons 12 [6,7,8,9,10] (.cons 11 [] (.cons 14 [] (.cons 15 [] .nil .nil) .nil) .nil) .nil)) .nil))) (.cons 12 [0,1,2,3,4,6,7,8,9,10] (.cons 5 [6,7,8,9,10] (.cons 11 [] (.cons 13 [] (.cons 14 [] (.cons 15 [] .nil .nil) .nil) .nil) (.cons 13 [6,7,8,9,10] (.cons 11 [] (.cons 14 [] (.cons 15 [] .nil .nil) .nil) .nil) .nil)) (.cons 13 [0,1,2,3,4,6,7,8,9,10] (.cons 5 [6,7,8,9,10] (.cons 11 [] (.cons 14 [] (.cons 15 [] .nil .nil) .nil) .nil) .nil) .nil)) (.cons 13 [0,1,2,3,4,6,7,8,9,10] (.cons 5 [6,7,8,9,10] (.cons 11 [] (.cons 12 [] (.cons 14 [] (.cons 15 [] .nil .nil) .nil) .nil) (.cons 12 [6,7,8,9,10] (.cons 11 [] (.cons 14 [] (.cons 15 [] .nil .nil) .nil) .nil) .nil)) (.cons 12 [0,1,2,3,4,6,7,8,9,10] (.cons 5 [6,7,8,9,10] (.cons 11 [] (.cons 14 [] (.cons 15 [] .nil .nil) .nil) .nil) .nil) .nil)) .nil))))]⟩ ?_;simp only[Tryz.f48,Tryz.ntmps48,iz,seval];simp only[vx,T,seval,WV,CuC,kB,QsC,rOp_nilk,nilK]
 repeat' first
  |(with_reducible refine Q3 ?_ ?_)
  |(
    refine Cm 7 (B:=kB) rfl rfl c2 ?_;rintro _ _ ⟨rfl,rfl⟩ _;simp only[vx,T,seval,WV,NV,CuC,kB,QsC,rOp_nilk,nilK])
  |(
    refine Cm 7 (B:=kB) rfl rfl c1 ?_;rintro _ _ ⟨rfl,rfl⟩ _;simp only[vx,T,seval,WV,NV,CuC,kB,QsC,rOp_nilk,nilK])
 all_goals
  refine Cg c3 ?_;simp only[vx,T,seval,NV,CuC,kB,QsC,rOp_nilk,nilK];refine⟨fun h=>Lg ?_,fun h=>Lg ?_⟩
  ·simp only[vx,T,seval,NV,CuC,kB,QsC,rOp_nilk,nilK];refine Cg c4 ?_;simp only[vx,T,seval,NV,CuC,kB,QsC,rOp_nilk,nilK];exact Ve (by simp[h])
  simp only[vx,T,seval,NV,CuC,kB,QsC,rOp_nilk,nilK];exact Ve (by simp[h])
theorem r47Curve (d:Dr)(h:d.ok):Pr Tryz.prog 9 [.agg (drL d)] (.tup [.agg (cuL d.cu),.one (.bool d.cu.vld)]):=by
 have hv:=r47Valid d.cu (by decide) (drSm h)
 generalize d.cu.vld=v at hv⊢
 obtain⟨arc,cw,a0,a1,b0,b1,st,un⟩:=d;obtain⟨⟨h1,h2,h3,h4⟩,h5,h6⟩:=h;simp only at h1 h2 h3 h4 h5 h6;have c1:=r47at a0 a1 un h1 h2 h6;have c2:=r47at b0 b1 un h3 h4 h6;have c3:=r13Whole0;have k1:=atQ_sm h1 h6;have k2:=atQ_sm h2 h6;have k3:=atQ_sm h3 h6;have k4:=atQ_sm h4 h6;have hs:(st%16).toNat<16:=by omega
 have e1:=uX_sm hs;have e2:=uY_sm hs
 cases arc
 ·unfold Dr.cu at hv⊢;simp only[cond_false]at hv⊢
  generalize atQ a0 un=p1 at*
  generalize atQ a1 un=p2 at*
  generalize atQ b0 un=p3 at*
  generalize atQ b1 un=p4 at*
  refine pw Tryz.func9 ⟨[0,1,2,3,4,5,6,7,25],[(5,(.cons 5 [6,7] (.cons 8 [] (.cons 9 [] (.cons 10 [] (.cons 11 [] (.cons 12 [] .nil .nil) .nil) .nil) (.cons 10 [] (.cons 9 [] (.cons 11 [] (.cons 12 [] .nil .nil) .nil) .nil) .nil)) (.cons 9 [6,7] (.cons 8 [] (.cons 10 [] (.cons 11 [] (.cons 12 [] .nil .nil) .nil) .nil) (.cons 10 [6,7] (.cons 8 [] (.cons 11 [] (.cons 12 [] .nil .nil) .nil) .nil) .nil)) (.cons 10 [6,7] (.cons 8 [] (.cons 9 [] (.cons 11 [] (.cons 12 [] .nil .nil) .nil) .nil) (.cons 9 [6,7] (.cons 8 [] (.cons 11 [] (.cons 12 [] .nil .nil) .nil) .nil) .nil)) .nil))) (.cons 9 [0,1,2,3,4,6,7] (.cons 5 [6,7] (.cons 8 [] (.cons 10 [] (.cons 11 [] (.cons 12 [] .nil .nil) .nil) .nil) (.cons 10 [6,7] (.cons 8 [] (.cons 11 [] (.cons 12 [] .nil .nil) .nil) .nil) .nil)) (.cons 10 [0,1,2,3,4,6,7] (.cons 5 [6,7] (.cons 8 [] (.cons 11 [] (.cons 12 [] .nil .nil) .nil) .nil) .nil) .nil)) (.cons 10 [0,1,2,3,4,6,7] (.cons 5 [6,7] (.cons 8 [] (.cons 9 [] (.cons 11 [] (.cons 12 [] .nil .nil) .nil) .nil) (.cons 9 [6,7] (.cons 8 [] (.cons 11 [] (.cons 12 [] .nil .nil) .nil) .nil) .nil)) (.cons 9 [0,1,2,3,4,6,7] (.cons 5 [6,7] (.cons 8 [] (.cons 11 [] (.cons 12 [] .nil .nil) .nil) .nil) .nil) .nil)) .nil)))),(6,(.cons 8 [0,1,2,3,9,10,12,13,17] (.cons 11 [0,1,2,3,9,12,13,17] (.cons 14 [0,1,2,3,17] (.cons 15 [0,1,2,17] (.cons 16 [17] (.cons 18 [] .nil .nil) .nil) .nil) .nil) .nil) .nil))]⟩ ?_;simp only[Tryz.f9,Tryz.ntmps9,iz,seval];simp only[vx,T,seval,drL,WV,cuL,CuC,QsC];refine Cg c1 ?_;simp only[vx,T,seval,drL,WV,cuL,CuC,QsC];refine Cg c2 ?_;simp only[vx,T,seval,drL,WV,cuL,CuC,QsC];refine Cg c3 ?_;simp only[vx,T,seval,drL,WV,cuL,CuC,QsC];refine Cg hv ?_;simp only[vx,T,seval,drL,WV,cuL,CuC,QsC];exact Ve rfl
 have c4:=r47unit st h5;unfold Dr.cu at hv⊢;simp only[cond_true]at hv⊢
 generalize atQ a0 un=p1 at*
 generalize atQ a1 un=p2 at*
 generalize atQ b0 un=p3 at*
 generalize atQ b1 un=p4 at*
 generalize uX (st%16).toNat=u at*
 generalize uY (st%16).toNat=w at*
 have c5:=k_Minus p3 p4 p1 p2 (B:=1) (by decide) k3 k4 k1 k2;have s1:=k3.sub k1;have s2:=k4.sub k2;have c6:=k_Scale (p3-p1) (p4-p2) u (B:=3) (by decide) s1 s2 (e1.mono (by decide));have c7:=r13Left (p3-p1) (p4-p2) (B:=3) (by decide) s2;have c8:=k_Scale (-(p4-p2)) (p3-p1) w (B:=3) (by decide) s2.neg s1 (e2.mono (by decide));have c9:=k_Plus ((p3-p1)*u) ((p4-p2)*u) (-(p4-p2)*w) ((p3-p1)*w) (B:=4) (by decide) (s1.mul e1) (s2.mul e1) (s2.neg.mul e2) (s1.mul e2);have c10:=k_Plus p1 p2 ((p3-p1)*u+ -(p4-p2)*w) ((p4-p2)*u+(p3-p1)*w) (B:=9) (by decide) (k1.mono (by decide)) (k2.mono (by decide)) ((s1.mul e1).add (s2.neg.mul e2)) ((s2.mul e1).add (s1.mul e2));refine pw Tryz.func9 ⟨[0,1,2,3,4,5,6,7,25],[(5,(.cons 5 [6,7] (.cons 8 [] (.cons 9 [] (.cons 10 [] (.cons 11 [] (.cons 12 [] .nil .nil) .nil) .nil) (.cons 10 [] (.cons 9 [] (.cons 11 [] (.cons 12 [] .nil .nil) .nil) .nil) .nil)) (.cons 9 [6,7] (.cons 8 [] (.cons 10 [] (.cons 11 [] (.cons 12 [] .nil .nil) .nil) .nil) (.cons 10 [6,7] (.cons 8 [] (.cons 11 [] (.cons 12 [] .nil .nil) .nil) .nil) .nil)) (.cons 10 [6,7] (.cons 8 [] (.cons 9 [] (.cons 11 [] (.cons 12 [] .nil .nil) .nil) .nil) (.cons 9 [6,7] (.cons 8 [] (.cons 11 [] (.cons 12 [] .nil .nil) .nil) .nil) .nil)) .nil))) (.cons 9 [0,1,2,3,4,6,7] (.cons 5 [6,7] (.cons 8 [] (.cons 10 [] (.cons 11 [] (.cons 12 [] .nil .nil) .nil) .nil) (.cons 10 [6,7] (.cons 8 [] (.cons 11 [] (.cons 12 [] .nil .nil) .nil) .nil) .nil)) (.cons 10 [0,1,2,3,4,6,7] (.cons 5 [6,7] (.cons 8 [] (.cons 11 [] (.cons 12 [] .nil .nil) .nil) .nil) .nil) .nil)) (.cons 10 [0,1,2,3,4,6,7] (.cons 5 [6,7] (.cons 8 [] (.cons 9 [] (.cons 11 [] (.cons 12 [] .nil .nil) .nil) .nil) (.cons 9 [6,7] (.cons 8 [] (.cons 11 [] (.cons 12 [] .nil .nil) .nil) .nil) .nil)) (.cons 9 [0,1,2,3,4,6,7] (.cons 5 [6,7] (.cons 8 [] (.cons 11 [] (.cons 12 [] .nil .nil) .nil) .nil) .nil) .nil)) .nil)))),(6,(.cons 8 [0,1,2,3,9,10,12,13,17] (.cons 11 [0,1,2,3,9,12,13,17] (.cons 14 [0,1,2,3,17] (.cons 15 [0,1,2,17] (.cons 16 [17] (.cons 18 [] .nil .nil) .nil) .nil) .nil) .nil) .nil))]⟩ ?_;simp only[Tryz.f9,Tryz.ntmps9,iz,seval];simp only[vx,T,seval,drL,WV,cuL,CuC,kB,QsC,rOp_nilk,nilK];refine Cg c1 ?_;simp only[vx,T,seval,drL,WV,cuL,CuC,kB,QsC,rOp_nilk,nilK];refine Cg c2 ?_;simp only[vx,T,seval,drL,WV,cuL,CuC,kB,QsC,rOp_nilk,nilK];refine Cg c3 ?_;simp only[vx,T,seval,drL,WV,cuL,CuC,kB,QsC,rOp_nilk,nilK]
 repeat' first
  |(with_reducible refine Q3 ?_ ?_)
  |(
    refine Cg hv ?_;simp only[vx,T,seval,drL,WV,NV,cuL,CuC,kB,QsC,rOp_nilk,nilK])
  |(
    refine Cm 25 (B:=kB) rfl rfl c10 ?_;rintro _ _ ⟨rfl,rfl⟩ _;simp only[vx,T,seval,drL,WV,NV,cuL,CuC,kB,QsC,rOp_nilk,nilK])
  |(
    refine Cm 25 (B:=kB) rfl rfl c9 ?_;rintro _ _ ⟨rfl,rfl⟩ _;simp only[vx,T,seval,drL,WV,NV,cuL,CuC,kB,QsC,rOp_nilk,nilK])
  |(
    refine Cm 25 (B:=kB) rfl rfl c8 ?_;rintro _ _ ⟨rfl,rfl⟩ _;simp only[vx,T,seval,drL,WV,NV,cuL,CuC,kB,QsC,rOp_nilk,nilK])
  |(
    refine Cg c7 ?_;simp only[vx,T,seval,drL,WV,NV,cuL,CuC,kB,QsC,rOp_nilk,nilK])
  |(
    refine Cm 25 (B:=kB) rfl rfl c6 ?_;rintro _ _ ⟨rfl,rfl⟩ _;simp only[vx,T,seval,drL,WV,NV,cuL,CuC,kB,QsC,rOp_nilk,nilK])
  |(
    refine Cg c4 ?_;simp only[vx,T,seval,drL,WV,NV,cuL,CuC,kB,QsC,rOp_nilk,nilK])
  |(
    refine Cm 25 (B:=kB) rfl rfl c5 ?_;rintro _ _ ⟨rfl,rfl⟩ _;simp only[vx,T,seval,drL,WV,NV,cuL,CuC,kB,QsC,rOp_nilk,nilK])
 all_goals exact Ve rfl
end Go.Proofs.YtaihcpdpmijifaaGreat
set_option maxHeartbeats 2000000
namespace Go.Proofs.YtaihcpdpmijifaaGreat
open Go Go.Eng
open Go.Tw (El addE negE zE mulE zE_len negE_len addE_len mulE_len QB MlB len_take len_drop normE normE_len tB ratE ratE_len invE IvB)
theorem isZero_spec (z:Int):Pr Tryz.prog 86 [ZV z] (.one (.bool (decide (z=0)))):=by
 refine pw Tryz.func86 ⟨[0,1,2],[]⟩ ?_;simp only[Tryz.f86,Tryz.ntmps86,iz,seval];simp only[vx,T,seval,ZV];refine Ve ?_;rw[zm_length]
 congr 2
 by_cases h:z=0
 ·rw[decide_eq_true h,decide_eq_true];rw[h,zn_eq_zero.2 rfl];rfl
 rw[decide_eq_false h,decide_eq_false];intro e;exact h (zn_eq_zero.1 (by omega))
theorem VLe.tup {xs ys:List V}(h:VLeA xs ys):VLe (.tup xs) (.tup ys):=fun _ _ _ ⟨vs,e,hl⟩=>⟨vs,e,h.rep hl⟩
end Go.Proofs.YtaihcpdpmijifaaGreat
set_option maxHeartbeats 2000000
namespace Go.Proofs.YtaihcpdpmijifaaGreat
open Go Go.Eng Go.Geo
open Go.Tw (El addE negE zE mulE QB MlB)
def CuV (arc cw:Bool)(ax ay bx by' zx zy:Rat):V:=.agg (CuC arc cw ax ay bx by' zx zy)
theorem cuAround (arc cw:Bool)(ax ay bx by' zx zy:Rat){B:Nat}(hB:B<2^16)(h1:Sm B ax)(h2:Sm B ay)(h3:Sm B bx)(h4:Sm B by')(h5:Sm B zx)(h6:Sm B zy)(hne:(decide (zx=ax)&&decide (zy=ay))=false):Pr Tryz.prog 56 [CuV arc cw ax ay bx by' zx zy] (.tup [.agg (ciL zx zy (farQ ax ay zx zy)),.one (.int .i64 0)]):=by
 have c1:=cAround zx zy ax ay (B:=B) (by omega) h5 h6 h1 h2 hne;refine pw Tryz.func56 ⟨[0,1,2,3],[]⟩ ?_;simp only[Tryz.f56,Tryz.ntmps56,iz,seval];simp only[vx,T,seval,WV,NV,CuV,CuC,ciL,AnV,QsC];refine Cg c1 ?_;simp only[vx,T,seval,WV,NV,CuV,CuC,ciL,AnV,QsC];exact Ve rfl
theorem cuFull (cw:Bool)(ax ay bx by' zx zy:Rat){B:Nat}(hB:B<2^16)(h1:Sm B ax)(h2:Sm B ay)(h3:Sm B bx)(h4:Sm B by')(h5:Sm B zx)(h6:Sm B zy):Pr Tryz.prog 51 [CuV true cw ax ay bx by' zx zy] ((.one (.bool (decide (ax=bx)&&decide (ay=by'))))):=by
 have c1:=vEqual0 ax ay bx by' (B:=B) (by omega) h1 h2 h3 h4;refine pw Tryz.func51 ⟨[0,1,2],[]⟩ ?_;simp only[Tryz.f51,Tryz.ntmps51,iz,seval];simp only[vx,T,seval,WV,NV,CuV,CuC,ciL,AnV,QsC];refine Cg c1 ?_;simp only[vx,T,seval,WV,NV,CuV,CuC,ciL,AnV,QsC];exact Ve rfl
theorem cuCcw0 (arc:Bool)(ax ay bx by' zx zy:Rat):Pr Tryz.prog 25 [CuV arc false ax ay bx by' zx zy] (CuV arc false ax ay bx by' zx zy):=by
 refine pw Tryz.func25 ⟨[0,1,2,4],[]⟩ ?_;simp only[Tryz.f25,Tryz.ntmps25,iz,seval];simp only[vx,T,seval,WV,NV,CuV,CuC,ciL,AnV,QsC];exact Ve rfl
theorem cuCcw1 (arc:Bool)(ax ay bx by' zx zy:Rat):Pr Tryz.prog 25 [CuV arc true ax ay bx by' zx zy] (CuV arc false bx by' ax ay zx zy):=by
 refine pw Tryz.func25 ⟨[0,1,2,4],[]⟩ ?_;simp only[Tryz.f25,Tryz.ntmps25,iz,seval];simp only[vx,T,seval,WV,NV,CuV,CuC,ciL,AnV,QsC];exact Ve rfl
theorem cuBetween (arc cw:Bool)(ax ay bx by' zx zy:Rat)(x y p q:Rat){B:Nat}(hB:B<2^16)(h5:Sm B zx)(h6:Sm B zy)(h7:Sm B x)(h8:Sm B y)(h9:Sm B p)(h10:Sm B q)(g1:(decide (x-zx=0)&&decide (y-zy=0))=false)(g2:(decide (p-zx=0)&&decide (q-zy=0))=false):Pr Tryz.prog 68 [CuV arc cw ax ay bx by' zx zy,WV x y,WV p q] (.tup [AnV ((x-zx)*(p-zx)+(y-zy)*(q-zy)) ((x-zx)*(q-zy)-(y-zy)*(p-zx)),.one (.int .i64 0)]):=by
 have c1:=vSub0 x y zx zy (B:=B) (by omega) h7 h8 h5 h6;have c2:=vSub0 p q zx zy (B:=B) (by omega) h9 h10 h5 h6;have c3:=tuOf (x-zx) (y-zy) (p-zx) (q-zy) (B:=B+B+1) (by omega) (h7.sub h5) (h8.sub h6) (h9.sub h5) (h10.sub h6) g1 g2;refine pw Tryz.func68 ⟨[0,1,2,3,4,5,6,7,8,9,10,19,30],[]⟩ ?_;simp only[Tryz.f68,Tryz.ntmps68,iz,seval];simp only[vx,T,seval,WV,NV,CuV,CuC,ciL,AnV,QsC];refine Cg c1 ?_;simp only[vx,T,seval,WV,NV,CuV,CuC,ciL,AnV,QsC];refine Cg c2 ?_;simp only[vx,T,seval,WV,NV,CuV,CuC,ciL,AnV,QsC];refine Cg c3 ?_;simp only[vx,T,seval,WV,NV,CuV,CuC,ciL,AnV,QsC];exact Ve rfl
theorem cuOn (ax ay bx by' zx zy x y:Rat){B:Nat}(hB:B<2^16)(h1:Sm B ax)(h2:Sm B ay)(h3:Sm B bx)(h4:Sm B by')(h5:Sm B zx)(h6:Sm B zy)(h7:Sm B x)(h8:Sm B y)(hne:(decide (zx=ax)&&decide (zy=ay))=false)(h0:powQ zx zy (farQ ax ay zx zy) x y=0)
  (g0:(decide (ax-zx=0)&&decide (ay-zy=0))=false) (g1:(decide (x-zx=0)&&decide (y-zy=0))=false) (g2:(decide (bx-zx=0)&&decide (by'-zy=0))=false):
  Pr Tryz.prog 17 [CuV true false ax ay bx by' zx zy,WV x y] (.one (.bool ((decide (ax=bx)&&decide (ay=by'))||decide (cmpT ((ax-zx)*(x-zx)+(ay-zy)*(y-zy)) ((ax-zx)*(y-zy)-(ay-zy)*(x-zx)) ((ax-zx)*(bx-zx)+(ay-zy)*(by'-zy)) ((ax-zx)*(by'-zy)-(ay-zy)*(bx-zx))≤0)))):=by
 have c1:=cuAround true false ax ay bx by' zx zy hB h1 h2 h3 h4 h5 h6 hne;have c2:=cSide zx zy (farQ ax ay zx zy) x y (B:=8*B+5) (by omega) (h5.mono (by omega)) (h6.mono (by omega)) (Sm.far h1 h2 h5 h6) (h7.mono (by omega)) (h8.mono (by omega));rw[h0,show sgn (0:Rat).num=0 from rfl]at c2;have c3:=cuFull false ax ay bx by' zx zy hB h1 h2 h3 h4 h5 h6;have c4:=cuCcw0 true ax ay bx by' zx zy;have c5:=cuBetween true false ax ay bx by' zx zy ax ay x y (B:=B) (by omega) h5 h6 h1 h2 h7 h8 g0 g1;have c6:=cuBetween true false ax ay bx by' zx zy ax ay bx by' (B:=B) (by omega) h5 h6 h1 h2 h3 h4 g0 g2;have s1:=h1.sub h5;have s2:=h2.sub h6;have s3:=h3.sub h5;have s4:=h4.sub h6;have s5:=h7.sub h5;have s6:=h8.sub h6;have c7:=tuCmp _ _ _ _ (B:=8*B+5) (by omega) (((s1.mul s5).add (s2.mul s6)).mono (by omega)) (((s1.mul s6).sub (s2.mul s5)).mono (by omega)) (((s1.mul s3).add (s2.mul s4)).mono (by omega)) (((s1.mul s4).sub (s2.mul s3)).mono (by omega))
 generalize(decide (ax=bx)&&decide (ay=by'))=f at*
 generalize(ax-zx)*(x-zx)+(ay-zy)*(y-zy)=p1 at*
 generalize(ax-zx)*(y-zy)-(ay-zy)*(x-zx)=p2 at*
 generalize(ax-zx)*(bx-zx)+(ay-zy)*(by'-zy)=p3 at*
 generalize(ax-zx)*(by'-zy)-(ay-zy)*(bx-zx)=p4 at*
 cases f
 ·refine pw Tryz.func17 ⟨[0,1,2,3,4,5,6,7,8,9,10,11,12,13,14,17,30,42,44],[]⟩ ?_;simp only[Tryz.f17,Tryz.ntmps17,iz,seval];simp only[vx,T,seval,WV,CuV,CuC,QsC];refine Cg c1 ?_;simp only[vx,T,seval,WV,CuV,CuC,ciL,QsC];refine Cg c2 ?_;simp only[vx,T,seval,WV,CuV,CuC,ciL,QsC];refine Cg c3 ?_;simp only[vx,T,seval,WV,CuV,CuC,ciL,QsC];refine Cg c4 ?_;simp only[vx,T,seval,WV,CuV,CuC,ciL,QsC];refine Cg c5 ?_;simp only[vx,T,seval,WV,CuV,CuC,AnV,ciL,QsC];refine Cg c6 ?_;simp only[vx,T,seval,WV,CuV,CuC,AnV,ciL,QsC];refine Cg c7 ?_;simp only[vx,T,seval,WV,CuV,CuC,AnV,ciL,QsC];exact Ve rfl
 refine pw Tryz.func17 ⟨[0,1,2,3,4,5,6,7,8,9,10,11,12,13,14,17,30,42,44],[]⟩ ?_;simp only[Tryz.f17,Tryz.ntmps17,iz,seval];simp only[vx,T,seval,WV,CuV,CuC,QsC];refine Cg c1 ?_;simp only[vx,T,seval,WV,CuV,CuC,ciL,QsC];refine Cg c2 ?_;simp only[vx,T,seval,WV,CuV,CuC,ciL,QsC];refine Cg c3 ?_;simp only[vx,T,seval,WV,CuV,CuC,ciL,QsC];exact Ve rfl
theorem iQDiv_spec (a b:Rat)(ha:qm a<2^37)(hb:qm b<2^37)(h0:0<b.num):Pr Tryz.prog 31 [QV a,QV b] (.tup [QV (a/b),.one (.int .i64 0)]):=by
 have z:=isZero_spec b.num;rw[decide_eq_false (by omega:¬b.num=0)]at z;obtain⟨d,hd⟩:∃d:Nat,b.num=d:=⟨b.num.toNat,by omega⟩;have e:a/b=mkRat (a.num*b.den) (a.den*d):=by
  rw[Rat.div_def,inv_pos (by exact hd),←Rat.mkRat_mul_mkRat,Rat.mkRat_self]
 unfold qm at ha hb;rw[hd,zn_nat]at hb;have m1:=zn_mul a.num b.den;have m2:=nl_mul a.den d;rw[zn_nat]at m1;have p1:=Nat.mul_pos a.den_pos (show 0<d by omega);have k1:=iMul_spec a.num (b.den:Int) (by omega) (by rw[zn_nat];omega);have k2:=iMul_spec (a.den:Int) b.num (by rw[zn_nat];omega) (by rw[hd,zn_nat];omega);have k3:=iLowest_spec (a.num*b.den) (a.den*d) (by omega) (by omega) p1;rw[Q2,←hd]at k3;rw[e];refine pw Tryz.func31 ⟨[0,1,2,3,4,5,8],[]⟩ ?_;simp only[Tryz.f31,Tryz.ntmps31,iz,seval];simp only[vx,T,seval,QV,QC];refine Cg z ?_;simp only[vx,T,seval,QV,QC];refine Cg k1 ?_;simp only[vx,T,seval,QV,QC,ZV];refine Cg k2 ?_;simp only[vx,T,seval,QV,QC,ZV];refine Cg k3 ?_;simp only[vx,T,seval,QV,QC,ZV];exact Ve rfl
end Go.Proofs.YtaihcpdpmijifaaGreat
