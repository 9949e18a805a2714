/-
  CurveMiddle: for every input the law returns true, and each argument reads afterwards as it read before. No condition.
  (Text 7 of 11; made by a program out of smaller texts.)
-/
import Derived.Test.YtaihcpdpmijifaaGreatP6
set_option linter.unusedSimpArgs false
set_option linter.unusedVariables false
set_option maxHeartbeats 16000000
set_option maxRecDepth 10000
open Nat renaming reduceAdd→J1,reduceMul→J2,reduceSub→J3,reduceEqDiff→J4,reduceLT→J5,reduceLeDiff→J6,reduceBEq→J7,reduceDiv→J8,reduceMod→J9,reducePow→J0
open Int renaming reduceToNat→K1,reduceLE→K2,reduceLT→K3,reduceEq→K4,reducePow→K5,reduceSub→K6,reduceNeg→K7,natCast_add→X2,natCast_one→X3,natCast_zero→X4
open List renaming getD_cons_zero→X0,getD_cons_succ→X1,length_take→X5,length_append→X6,getD_eq_getElem?_getD→X7,getElem?_eq_getElem→X8
open Nat renaming zero_le→O2,pow_succ→O4,not_lt_zero→O5
open And renaming intro→Q3
open Go.IntWalk renaming i64_in→Q4
set_option maxHeartbeats 2000000
namespace Go.Proofs.YtaihcpdpmijifaaGreat
open Go Go.Eng Go.Geo
open Go.Tw (El addE negE zE mulE QB MlB)
theorem tSub0 (a b:Rat)(ha:qm a<2^34)(hb:qm b<2^34):Pr Tryz.prog 154 [.one .nil,eV [a],eV [b]] (eV [a-b]):=by
 rw[Rat.sub_eq_add_neg];exact(tSub_spec Tk0 [a] [b] rfl rfl (Qk1 ha) (Qk1 hb)).args ⟨nil0,.refl _,.refl _,trivial⟩
theorem nSub0 (a b:Rat)(ha:qm a<2^34)(hb:qm b<2^34):Pr Tryz.prog 78 [NV a,NV b] (.tup [NV (a-b),.one (.int .i64 0)]):=by
 have c:=combine0 _ a b (a-b) ha hb (tSub0 a b ha hb);refine pw Tryz.func78 ⟨[0,1,2,3,4,5],[]⟩ ?_;simp only[Tryz.f78,Tryz.ntmps78,iz,seval];simp only[vx,T,seval,NV,eV,QsC];refine Cg c ?_;simp only[vx,T,seval,NV,eV,QsC];exact Ve rfl
theorem nEqual0 (a b:Rat)(ha:qm a<2^34)(hb:qm b<2^34):Pr Tryz.prog 93 [NV a,NV b] (.one (.bool (decide (a=b)))):=by
 have c:=begins0;have d:=same_spec [a] [b] (by simp) (Qk1 ha) (Qk1 hb);have e:decide ([a]=[b])=decide (a=b):=by rw[decide_eq_decide];exact⟨fun h=>by simpa using h,fun h=>by rw[h]⟩
 rw[e]at d;refine pw Tryz.func93 ⟨[0,1,2,3,4,5,6,7,9,21,35,49,50,51,52],[]⟩ ?_;simp only[Tryz.f93,Tryz.ntmps93,iz,seval];simp only[vx,T,seval,NV,eV,QsC];refine Cg c ?_;simp only[vx,T,seval,NV,eV,QsC];refine Cg c ?_;simp only[vx,T,seval,NV,eV,QsC];refine Cg d ?_;simp only[vx,T,seval,NV,eV,QsC];exact Ve rfl
theorem vEqual0 (a b c d:Rat){B:Nat}(hB:B<2^28)(ha:Sm B a)(hb:Sm B b)(hc:Sm B c)(hd:Sm B d):Pr Tryz.prog 37 [WV a b,WV c d] (.one (.bool (decide (a=c)&&decide (b=d)))):=by
 have c1:=nEqual0 a c (ha.lt (by omega)) (hc.lt (by omega));have c2:=nEqual0 b d (hb.lt (by omega)) (hd.lt (by omega))
 generalize decide (a=c)=v1 at c1
 cases v1
 ·refine pw Tryz.func37 ⟨[0,1,2,3,4],[]⟩ ?_;simp only[Tryz.f37,Tryz.ntmps37,iz,seval];simp only[vx,T,seval,WV,NV,QsC];refine Cg c1 ?_;simp only[vx,T,seval,NV,QsC];exact Ve rfl
 refine pw Tryz.func37 ⟨[0,1,2,3,4],[]⟩ ?_;simp only[Tryz.f37,Tryz.ntmps37,iz,seval];simp only[vx,T,seval,WV,NV,QsC];refine Cg c1 ?_;simp only[vx,T,seval,NV,QsC];refine Cg c2 ?_;simp only[vx,T,seval,NV,QsC];exact Ve rfl
theorem cc_note:Mc Tryz.prog 355 [.one (.ptr 0 0),.one (.int .i64 0)] kB (kR (.one (.bool true))):=by
 refine mw Tryz.func355 ⟨[0,1,4,9],[]⟩ ?_;simp only[Tryz.f355,Tryz.ntmps355,iz,seval];simp only[vx,T,seval,kB,WV,NV,QsC,rOp_nilk,nilV_k];exact⟨rfl,rfl⟩
theorem cc_two (f:FuncId)(a b c:Rat)(hf:Pr Tryz.prog f [NV a,NV b] (.tup [NV c,.one (.int .i64 0)])):Mc Tryz.prog 297 [.one (.ptr 0 0),.one (.fn f 0 (fun _=>.any)),NV a,NV b] kB (kR (NV c)):=by
 have c1:=hf;have c2:=cc_note;refine mw Tryz.func297 ⟨[0,1,2,3,6,7,8,9,10,15],[]⟩ ?_;simp only[Tryz.f297,Tryz.ntmps297,iz,seval];simp only[vx,T,seval,kB,WV,NV,QsC,rOp_nilk,nilV_k];refine Cg c1 ?_;simp only[vx,T,seval,kB,WV,NV,QsC,rOp_nilk,nilV_k];refine Cm 0 (B:=kB) rfl rfl c2 ?_;rintro _ _ ⟨rfl,rfl⟩ _;simp only[vx,T,seval,kB,WV,NV,QsC,rOp_nilk,nilV_k];exact⟨rfl,rfl⟩
theorem cc_add (a b:Rat){B:Nat}(hB:B<2^26)(ha:Sm B a)(hb:Sm B b):Mc Tryz.prog 273 [.one (.ptr 0 0),NV a,NV b] kB (kR (NV (a+b))):=by
 have c1:=cc_two _ a b (a+b) (nAdd0 a b (ha.lt (by omega)) (hb.lt (by omega)));refine mw Tryz.func273 ⟨[0,1,2,4,5,6],[]⟩ ?_;simp only[Tryz.f273,Tryz.ntmps273,iz,seval];simp only[vx,T,seval,kB,WV,NV,QsC,rOp_nilk,nilV_k];refine Cm 0 (B:=kB) rfl rfl c1 ?_;rintro _ _ ⟨rfl,rfl⟩ _;simp only[vx,T,seval,kB,WV,NV,QsC,rOp_nilk,nilV_k];exact⟨rfl,rfl⟩
theorem cc_sub (a b:Rat){B:Nat}(hB:B<2^26)(ha:Sm B a)(hb:Sm B b):Mc Tryz.prog 220 [.one (.ptr 0 0),NV a,NV b] kB (kR (NV (a-b))):=by
 have c1:=cc_two _ a b (a-b) (nSub0 a b (ha.lt (by omega)) (hb.lt (by omega)));refine mw Tryz.func220 ⟨[0,1,2,4,5,6],[]⟩ ?_;simp only[Tryz.f220,Tryz.ntmps220,iz,seval];simp only[vx,T,seval,kB,WV,NV,QsC,rOp_nilk,nilV_k];refine Cm 0 (B:=kB) rfl rfl c1 ?_;rintro _ _ ⟨rfl,rfl⟩ _;simp only[vx,T,seval,kB,WV,NV,QsC,rOp_nilk,nilV_k];exact⟨rfl,rfl⟩
theorem cc_mul (a b:Rat){B:Nat}(hB:B<2^26)(ha:Sm B a)(hb:Sm B b):Mc Tryz.prog 289 [.one (.ptr 0 0),NV a,NV b] kB (kR (NV (a*b))):=by
 have c1:=cc_two _ a b (a*b) (nMul0 a b (A:=B+1) (B:=B+1) (by omega) (by omega) (ha.mono (by omega)) (hb.mono (by omega)) (by omega));refine mw Tryz.func289 ⟨[0,1,2,4,5,6],[]⟩ ?_;simp only[Tryz.f289,Tryz.ntmps289,iz,seval];simp only[vx,T,seval,kB,WV,NV,QsC,rOp_nilk,nilV_k];refine Cm 0 (B:=kB) rfl rfl c1 ?_;rintro _ _ ⟨rfl,rfl⟩ _;simp only[vx,T,seval,kB,WV,NV,QsC,rOp_nilk,nilV_k];exact⟨rfl,rfl⟩
theorem cc_minus (a b c d:Rat){B:Nat}(hB:B<2^26)(ha:Sm B a)(hb:Sm B b)(hc:Sm B c)(hd:Sm B d):Mc Tryz.prog 209 [.one (.ptr 0 0),WV a b,WV c d] kB (kR (WV (a-c) (b-d))):=by
 have c1:=cc_sub a c hB ha hc;have c2:=cc_sub b d hB hb hd;refine mw Tryz.func209 ⟨[0,1,2,4,5,6],[(1,(.cons 5 [6,7,8,9,10] (.cons 11 [] (.cons 12 [] (.cons 13 [] .nil .nil) .nil) .nil) .nil))]⟩ ?_;simp only[Tryz.f209,Tryz.ntmps209,iz,seval];simp only[vx,T,seval,kB,WV,NV,QsC,rOp_nilk,nilV_k];refine Cm 0 (B:=kB) rfl rfl c1 ?_;rintro _ _ ⟨rfl,rfl⟩ _;simp only[vx,T,seval,kB,WV,NV,QsC,rOp_nilk,nilV_k];refine Cm 0 (B:=kB) rfl rfl c2 ?_;rintro _ _ ⟨rfl,rfl⟩ _;simp only[vx,T,seval,kB,WV,NV,QsC,rOp_nilk,nilV_k];exact⟨rfl,rfl⟩
theorem cc_square (a b:Rat){B:Nat}(hB:B<2^24)(ha:Sm B a)(hb:Sm B b):Mc Tryz.prog 208 [.one (.ptr 0 0),WV a b] kB (kR (NV (a*a+b*b))):=by
 have c1:=cc_mul a a (by omega) ha ha;have c2:=cc_mul b b (by omega) hb hb;have c3:=cc_add (a*a) (b*b) (B:=B+B) (by omega) (ha.mul ha) (hb.mul hb);refine mw Tryz.func208 ⟨[0,1,3,4],[(1,(.cons 6 [0,7,8,9,10,11] (.cons 12 [0] (.cons 13 [] (.cons 14 [] .nil .nil) .nil) .nil) .nil))]⟩ ?_;simp only[Tryz.f208,Tryz.ntmps208,iz,seval];simp only[vx,T,seval,kB,WV,NV,QsC,rOp_nilk,nilV_k];refine Cm 0 (B:=kB) rfl rfl c1 ?_;rintro _ _ ⟨rfl,rfl⟩ _;simp only[vx,T,seval,kB,WV,NV,QsC,rOp_nilk,nilV_k];refine Cm 0 (B:=kB) rfl rfl c2 ?_;rintro _ _ ⟨rfl,rfl⟩ _;simp only[vx,T,seval,kB,WV,NV,QsC,rOp_nilk,nilV_k];refine Cm 0 (B:=kB) rfl rfl c3 ?_;rintro _ _ ⟨rfl,rfl⟩ _;simp only[vx,T,seval,kB,WV,NV,QsC,rOp_nilk,nilV_k];exact⟨rfl,rfl⟩
theorem nTrim0 (q:Rat)(hq:qm q<2^38):Pr Tryz.prog 207 [NV q] (NV q):=by
 have c:=detach0 q hq;refine pw Tryz.func207 ⟨[0,1,2,3,4,12,27,39,60],[]⟩ ?_;simp only[Tryz.f207,Tryz.ntmps207,iz,seval];simp only[vx,T,seval,NV,eV,QsC];refine Cg c ?_;simp only[vx,T,seval,NV,eV,QsC];refine Lk (fun _:Unit=>⟨[(1,.one (.ptr 1 0)),(2,.one (.ptr 2 0)),(3,.one (.ptr 7 0))],[(1,⟨.var [.nil,QsC [q]],true⟩),(2,⟨.var [.nil,.nil],true⟩),(7,⟨.var [.int .i64 (-1)],true⟩)],12,62⟩) (fun _=>0) () ?_ (fun _=>?_)
 ·refine Sa ?_;simp only[ry,seval,rz,QsC]
  decide
 simp only[vx,T,seval,QsC];exact VLe.refl _
def ciL (zx zy r:Rat):List C:=[.nil,QsC [zx],.nil,QsC [zy],.nil,QsC [r]]
theorem cAround (a b c d:Rat){B:Nat}(hB:B<2^22)(ha:Sm B a)(hb:Sm B b)(hc:Sm B c)(hd:Sm B d)(hne:(decide (a=c)&&decide (b=d))=false):
  Pr Tryz.prog 118 [WV a b,WV c d] (.tup [.agg (ciL a b (farQ c d a b)),.one (.int .i64 0)]):=by
 have c1:=vEqual0 a b c d (by omega) ha hb hc hd;rw[hne]at c1;have c2:=nTrim0 a (Nat.lt_of_lt_of_le (ha.lt (by omega)) (by decide));have c3:=nTrim0 b (Nat.lt_of_lt_of_le (hb.lt (by omega)) (by decide));have c4:=cc_minus c d a b (by omega) hc hd ha hb;have c5:=cc_square (c-a) (d-b) (B:=B+B+1) (by omega) (hc.sub ha) (hd.sub hb);refine pw Tryz.func118 ⟨[0,1,2,3,4,5,6,7,10,32],[(4,(.cons 2 [3,4,7,8,9,10] (.cons 5 [7,8,9,10] (.cons 6 [7,8,9,10] (.cons 11 [7] (.cons 12 [] (.cons 13 [] (.cons 14 [] (.cons 15 [] .nil .nil) .nil) (.cons 14 [] (.cons 13 [] (.cons 15 [] .nil .nil) .nil) .nil)) (.cons 14 [7] (.cons 12 [] (.cons 13 [] (.cons 15 [] .nil .nil) .nil) .nil) .nil)) (.cons 14 [7,8,9,10] (.cons 11 [7] (.cons 12 [] (.cons 13 [] (.cons 15 [] .nil .nil) .nil) .nil) .nil) .nil)) (.cons 11 [7] (.cons 6 [7] (.cons 12 [] (.cons 13 [] (.cons 14 [] (.cons 15 [] .nil .nil) .nil) (.cons 14 [] (.cons 13 [] (.cons 15 [] .nil .nil) .nil) .nil)) (.cons 14 [7] (.cons 12 [] (.cons 13 [] (.cons 15 [] .nil .nil) .nil) .nil) .nil)) (.cons 12 [] (.cons 6 [] (.cons 13 [] (.cons 14 [] (.cons 15 [] .nil .nil) .nil) (.cons 14 [] (.cons 13 [] (.cons 15 [] .nil .nil) .nil) .nil)) (.cons 14 [] (.cons 6 [] (.cons 13 [] (.cons 15 [] .nil .nil) .nil) .nil) .nil)) (.cons 14 [7] (.cons 6 [7] (.cons 12 [] (.cons 13 [] (.cons 15 [] .nil .nil) .nil) .nil) (.cons 12 [] (.cons 6 [] (.cons 13 [] (.cons 15 [] .nil .nil) .nil) .nil) .nil)) .nil))) (.cons 14 [7,8,9,10] (.cons 6 [7,8,9,10] (.cons 11 [7] (.cons 12 [] (.cons 13 [] (.cons 15 [] .nil .nil) .nil) .nil) .nil) (.cons 11 [7] (.cons 6 [7] (.cons 12 [] (.cons 13 [] (.cons 15 [] .nil .nil) .nil) .nil) (.cons 12 [] (.cons 6 [] (.cons 13 [] (.cons 15 [] .nil .nil) .nil) .nil) .nil)) .nil)) .nil))) (.cons 14 [3,4,7,8,9,10] (.cons 5 [7,8,9,10] (.cons 6 [7,8,9,10] (.cons 11 [7] (.cons 12 [] (.cons 13 [] (.cons 15 [] .nil .nil) .nil) .nil) .nil) (.cons 11 [7] (.cons 6 [7] (.cons 12 [] (.cons 13 [] (.cons 15 [] .nil .nil) .nil) .nil) (.cons 12 [] (.cons 6 [] (.cons 13 [] (.cons 15 [] .nil .nil) .nil) .nil) .nil)) .nil)) .nil) .nil)) (.cons 14 [0,1,3,4,7,8,9,10] (.cons 2 [3,4,7,8,9,10] (.cons 5 [7,8,9,10] (.cons 6 [7,8,9,10] (.cons 11 [7] (.cons 12 [] (.cons 13 [] (.cons 15 [] .nil .nil) .nil) .nil) .nil) (.cons 11 [7] (.cons 6 [7] (.cons 12 [] (.cons 13 [] (.cons 15 [] .nil .nil) .nil) .nil) (.cons 12 [] (.cons 6 [] (.cons 13 [] (.cons 15 [] .nil .nil) .nil) .nil) .nil)) .nil)) .nil) .nil) .nil))),(6,(.cons 0 [1] (.cons 2 [] (.cons 3 [] (.cons 4 [] (.cons 5 [] (.cons 6 [] .nil .nil) .nil) (.cons 5 [] (.cons 4 [] (.cons 6 [] .nil .nil) .nil) .nil)) (.cons 5 [] (.cons 3 [] (.cons 4 [] (.cons 6 [] .nil .nil) .nil) .nil) .nil)) (.cons 5 [1] (.cons 2 [] (.cons 3 [] (.cons 4 [] (.cons 6 [] .nil .nil) .nil) .nil) .nil) .nil)) (.cons 2 [] (.cons 0 [] (.cons 3 [] (.cons 4 [] (.cons 5 [] (.cons 6 [] .nil .nil) .nil) (.cons 5 [] (.cons 4 [] (.cons 6 [] .nil .nil) .nil) .nil)) (.cons 5 [] (.cons 3 [] (.cons 4 [] (.cons 6 [] .nil .nil) .nil) .nil) .nil)) (.cons 3 [] (.cons 0 [] (.cons 4 [] (.cons 5 [] (.cons 6 [] .nil .nil) .nil) (.cons 5 [] (.cons 4 [] (.cons 6 [] .nil .nil) .nil) .nil)) (.cons 4 [] (.cons 0 [] (.cons 5 [] (.cons 6 [] .nil .nil) .nil) .nil) .nil)) .nil)) .nil)))]⟩ ?_;simp only[Tryz.f118,Tryz.ntmps118,iz,seval];simp only[vx,T,seval,WV,NV,QsC];refine Cg c1 ?_;simp only[vx,T,seval,WV,NV,kB,QsC]
 repeat' first
  |(with_reducible refine Q3 ?_ ?_)
  |(
    refine Cm 9 (B:=kB) rfl rfl c5 ?_;rintro _ _ ⟨rfl,rfl⟩ _;simp only[vx,T,seval,WV,NV,kB,QsC,rOp_nilk,nilK])
  |(
    refine Cm 9 (B:=kB) rfl rfl c4 ?_;rintro _ _ ⟨rfl,rfl⟩ _;simp only[vx,T,seval,WV,NV,kB,QsC,rOp_nilk,nilK])
  |(
    refine Cg c3 ?_;simp only[vx,T,seval,WV,NV,kB,QsC,rOp_nilk,nilK])
  |(
    refine Cg c2 ?_;simp only[vx,T,seval,WV,NV,kB,QsC,rOp_nilk,nilK])
 all_goals exact Ve rfl
end Go.Proofs.YtaihcpdpmijifaaGreat
set_option maxHeartbeats 2000000
namespace Go.Proofs.YtaihcpdpmijifaaGreat
open Go Go.Eng
open Go.Tw (El addE negE zE mulE zE_len negE_len addE_len mulE_len QB MlB len_take len_drop normE normE_len tB ratE ratE_len sgnE SgB sgnE_abs sgn_num norm_comm)
theorem cTake {a:El}{n:Nat}(h:n≤a.length):CLe (.rows 4 n (fun i=>qC (a.getD i default))) (QsC (a.take n)):=
 CLe.rows (by rw[X5];omega) fun i j hi _=>CLe.of_eq (fQ_take hi j)
theorem cDrop {a:El}{n:Nat}:CLe (.rows 4 (a.length-n) (fun i=>qC (a.getD (n+i) default))) (QsC (a.drop n)):=
 CLe.rows (by rw[List.length_drop]) fun i j _ _=>CLe.of_eq (fQ_drop i j)
theorem value0 {t:List El}{a:El}(ha:a.length=2^0)(hq:Qk a):Pr Tryz.prog 253 [tV 0 t,eV a] (.one (.int .i64 (sgnE 0 t a))):=by
 obtain⟨x,rfl⟩:=Go.Tw.one_of ha;have hx:qm x<2^38:=hq x (by simp);have e:sgnE 0 t [x]=sgn x.num:=sgn_num x;have c:=iQSign_spec x (by omega);rw[e];refine pw Tryz.func253 ⟨[0,1,4,5,6,7,8,9,10,11,12,15,41,50],[(4,.nil)]⟩ ?_;simp only[Tryz.f253,Tryz.ntmps253,iz,seval];simp only[vx,T,seval,tV,tC,eV,QsC,qC,X0];refine Cg c ?_;simp only[vx,T,seval,QsC];exact Ve rfl
theorem value_spec {X:Nat}(hX:X<2^37){t:List El}:∀{h:Nat} {a:El},TQ h t→a.length=2^h→SgB X h t a→Pr Tryz.prog 253 [tV h t,eV a] (.one (.int .i64 (sgnE h t a)))
 |0,a,_,ha,hi=>value0 ha (.of hi.qb (by omega))
 |h+1,a,W,ha,hi=>by
  have W':=W.le (Nat.le_succ h);obtain⟨hqa,⟨k1,k2,k3⟩,i1,i2,i3⟩:=hi;have la1:=len_take ha;have la2:=len_drop ha;have v1:=value_spec hX W' la1 i1;have v2:=value_spec hX W' la2 i2;have v3:=value_spec hX W' normE_len i3;have h6:=W.h6;have hp:=pow_small W'.tk.le8;have hr:=W.tk.len h (by omega);have m1:=tMul_spec hX W'.tk _ _ la1 la1 k1;have m2:=tMul_spec hX W'.tk _ _ la2 la2 k2;have m3:=tMul_spec hX W'.tk _ _ hr mulE_len k3.comm;have su:=tSub_spec W'.tk _ _ mulE_len mulE_len (Qk.of k1.q.2.2 (by omega)) (Qk.of k3.comm.q.2.2 (by omega));rw[norm_comm]at su;have hn:(2^h:Nat)≤a.length:=by rw[ha,O4];omega
  have hl2:a.length-2^h=(a.drop (2^h)).length:=by rw[List.length_drop]
  have cT:=cTake hn;have cD:=cDrop (a:=a) (n:=2^h);have v1:=v1.args (xs:=[tV h t,.one (.rows 4 (2^h) (fun i=>qC (a.getD i default)))]) ⟨.refl _,.cell cT,trivial⟩;have v2:=v2.args (xs:=[tV h t,.one (.rows 4 (a.length-2^h) (fun i=>qC (a.getD (2^h+i) default)))]) ⟨.refl _,.cell cD,trivial⟩;have m1:=m1.args (xs:=[tV h t,.one (.rows 4 (2^h) (fun i=>qC (a.getD i default))),.one (.rows 4 (2^h) (fun i=>qC (a.getD i default)))]) ⟨.refl _,.cell cT,.cell cT,trivial⟩;have m2:=m2.args (xs:=[tV h t,.one (.rows 4 (a.length-2^h) (fun i=>qC (a.getD (2^h+i) default))),.one (.rows 4 (a.length-2^h) (fun i=>qC (a.getD (2^h+i) default)))]) ⟨.refl _,.cell cD,.cell cD,trivial⟩;obtain⟨n,hnn⟩:∃n,n=2^h:=⟨_,rfl⟩;have ha2:a.length=2*n:=by rw[ha,O4,hnn];omega
  have e:sgnE (h+1) t a=if sgnE h t (a.drop (2^h))=0∨sgnE h t (a.take (2^h))=sgnE h t (a.drop (2^h))then sgnE h t (a.take (2^h))else if sgnE h t (a.take (2^h))=0 then sgnE h t (a.drop (2^h))else sgnE h t (a.take (2^h))*sgnE h t (normE h t a):=rfl
  have r1:=@sgnE_abs h t (a.take (2^h));have r3:=@sgnE_abs h t (normE h t a);obtain⟨s1,hs1⟩:∃s,s=sgnE h t (a.take (2^h)):=⟨_,rfl⟩;obtain⟨s2,hs2⟩:∃s,s=sgnE h t (a.drop (2^h)):=⟨_,rfl⟩;obtain⟨s3,hs3⟩:∃s,s=sgnE h t (normE h t a):=⟨_,rfl⟩;rw[←hs1,←hs2,←hs3]at e;rw[←hs1]at v1 r1;rw[←hs2]at v2;rw[←hs3]at v3 r3;rw[e];rw[←hnn]at v1 v2 m1 m2 su m3 hp;have w1:IntKind.i64.wrap (((h+1:Nat):Int)-1)=(h:Int):=by rw[Q4 _ (by omega)];omega
  have w2:IntKind.i64.wrap (((a.length:Nat):Int).tdiv 2)=(n:Int):=by
   rw[ha2,Int.tdiv_eq_ediv_of_nonneg (by omega),Q4 _ (by omega)];omega
  have w4:((a.length:Int)-(n:Int)).toNat=a.length-n:=by omega
  have w3:IntKind.i64.wrap (s1*s3)=s1*s3:=by
   rw[Q4]
   have:s1= -1∨s1=0∨s1=1:=by omega
   rcases this with h|h|h<;>rw [h]<;>omega
  obtain⟨r,hrr⟩:∃r,r=t.getD h []:=⟨_,rfl⟩;rw[←hrr]at m3 su;clear hqa i1 i2 i3 la1 la2 k1 k2 k3 hr hs1 hs2 hs3 cT cD W;refine pw Tryz.func253 ⟨[0,1,4,5,6,7,8,9,10,11,12,15,41,50],[(4,.nil)]⟩ ?_;simp only[Tryz.f253,Tryz.ntmps253,iz,seval];simp only[vx,T,seval,tV,tC,eV,QsC,w1,w2];refine⟨fun h=>absurd h (by omega),fun _=>Lg ?_⟩;simp only[vx,T,seval,tV,tC,eV,QsC,w1,w2];refine⟨⟨by omega,by omega⟩,⟨by omega,by omega⟩,⟨by omega,by omega,by omega⟩,Cg v1 ?_⟩;simp only[vx,T,seval,tV,tC,eV,QsC,w1,w2,w4];refine Cg v2 ?_;simp only[vx,T,seval,tV,tC,eV,QsC,w1,w2,w4];refine⟨fun k2=>Lg ?_,fun k2=>Lg ?_⟩
  ·rw[if_pos (.inl k2)];simp only[vx,T,seval,tV,tC,eV,QsC,w1,w2,w4];exact Ve rfl
  simp only[vx,T,seval,tV,tC,eV,QsC,w1,w2,w4];refine⟨fun k3=>Lg ?_,fun k3=>Lg ?_⟩
  ·rw[if_pos (.inr k3)];simp only[vx,T,seval,tV,tC,eV,QsC,w1,w2,w4];exact Ve rfl
  rw[if_neg (not_or.2 ⟨k2,k3⟩)];simp only[vx,T,seval,tV,tC,eV,QsC,w1,w2,w4];refine⟨fun k1=>Lg ?_,fun k1=>Lg ?_⟩
  ·rw[if_pos k1];simp only[vx,T,seval,tV,tC,eV,QsC,w1,w2,w4];exact Ve rfl
  rw[if_neg k1];simp only[vx,T,seval,tV,tC,eV,QsC,w1,w2,w4];refine Cg m1 ?_;simp only[vx,T,seval,tV,tC,eV,QsC,w1,w2,w4,←hrr];refine⟨⟨by omega,by omega⟩,Cg m2 ?_⟩;simp only[vx,T,seval,tV,tC,eV,QsC,w1,w2,w4,←hrr];refine Cg m3 ?_;simp only[vx,T,seval,tV,tC,eV,QsC,w1,w2,w4,←hrr];refine Cg su ?_;simp only[vx,T,seval,tV,tC,eV,QsC,w1,w2,w4,←hrr];refine Cg v3 ?_;simp only[vx,T,seval,tV,tC,eV,QsC,w1,w2,w4,w3,←hrr];exact Ve rfl
end Go.Proofs.YtaihcpdpmijifaaGreat
set_option maxHeartbeats 2000000
namespace Go.Proofs.YtaihcpdpmijifaaGreat
open Go Go.Eng
open Go.Tw (El addE negE zE mulE zE_len negE_len addE_len mulE_len QB MlB len_take len_drop normE normE_len tB ratE ratE_len sgnE SgB sgnE_abs Rl val)
structure RQ3 (X h:Nat) (t:List El):Prop where
 tq:TQ h t
 s:∀i,i<h→SgB X i t (t.getD i [])
 p:∀i,i<h→0<sgnE i t (t.getD i [])
theorem RQ3.le {X h k:Nat}{t:List El}(W:RQ3 X h t)(hk:k≤h):RQ3 X k t:=⟨W.tq.le hk,fun i hi=>W.s i (by omega),fun i hi=>W.p i (by omega)⟩
theorem Real_spec {X h:Nat}(hX:X<2^37){t:List El}(W:RQ3 X h t):Pr Tryz.prog 331 [tV h t] (.one (.bool true)):=by
 have h3:=W.tq.h6;have z:=iQFromInt_spec 0 (by decide) (by decide);have f:=tFromRat_spec W.tq.tk (Rat.ofInt 0) (by decide+kernel);have hqz:Qk (ratE h (Rat.ofInt 0)):=fun x hx=>by
  unfold ratE at hx
  rcases List.mem_cons.1 hx with rfl|hx
  ·decide+kernel
  rw[List.eq_of_mem_replicate hx];decide+kernel
 have g:=tFormed_spec W.tq.tk (ratE h (Rat.ofInt 0)) ratE_len hqz;have v:∀i,i<h→Pr Tryz.prog 253 [tV i t,eV (t.getD i [])] (.one (.int .i64 (sgnE i t (t.getD i [])))):=fun i hi=>
  value_spec hX (W.tq.le (by omega)) (W.tq.tk.len i hi) (W.s i hi)
 refine pw Tryz.func331 ⟨[0,2,3,4,10,11,12,13,14,23],[]⟩ ?_;simp only[Tryz.f331,Tryz.ntmps331,iz,seval];simp only[vx,T,seval,tV,tC,QsC];refine Cg z ?_;simp only[vx,T,seval,tV,tC,QV,QC];refine Cg f ?_;simp only[vx,T,seval,tV,tC,eV,QsC];refine Cg g ?_;simp only[vx,T,seval,tV,tC,eV,QsC];have h0:h<2^60:=by omega
 refine Lk (fun y:{i:Nat//i≤h}=>⟨[(0,tV h t),(2,.one (.bool false)),(11,tV h t),(12,.one (.int .i64 h)),(13,.one (.int .i64 y.1))],[],2,25⟩) (fun y=>h-y.1) ⟨0,O2 _⟩ ?_ (fun⟨i,hi⟩=>?_)
 ·refine Sa ?_;simp only[ry,seval,rz,tV,tC,QsC]
 simp only;have wi:=wI i (by omega);simp only[vx,T,seval,tV,tC,QsC];refine⟨fun k=>Lg ?_,fun k=>Lg ?_⟩
 ·have hlt:i<h:=by omega
  have vi:=v i hlt;have pi:=W.p i hlt;simp only[vx,T,seval,tV,tC,QsC];refine⟨⟨by omega,by omega⟩,⟨by omega,by omega⟩,Cg vi ?_⟩;simp only[vx,T,seval,tV,tC,QsC];refine⟨fun hh=>absurd hh (by omega),fun _=>Lg ?_⟩;simp only[vx,T,seval,tV,tC,QsC,wi];refine Lq ⟨i+1,by omega⟩ ?_ (by show h-(i+1)<h-i;omega);refine Sa ?_;simp only[ry,seval,rz,tV,tC,QsC]
 simp only[vx,T,seval,tV,tC,QsC];exact Ve rfl
theorem good_spec {X h:Nat}(hX:X<2^37){t l:List El}(W:RQ3 X h t)(hl:l.length<2^60)(hf:∀i,i<l.length→(l.getD i []).length=2^h∧Qk (l.getD i [])):Pr Tryz.prog 252 [tV h t,tV l.length l] (.one (.bool true)):=by
 have r:=Real_spec hX W;have v:∀i,i<l.length→Pr Tryz.prog 244 [tV h t,eV (l.getD i [])] (.one (.bool true)):=fun i hi=>tFormed_spec W.tq.tk _ (hf i hi).1 (hf i hi).2;clear hf;refine pw Tryz.func252 ⟨[0,1,4,6,7,8,9,10,16],[]⟩ ?_;simp only[Tryz.f252,Tryz.ntmps252,iz,seval];simp only[vx,T,seval,tV,tC,QsC];refine Lk (fun y:{i:Nat//i≤l.length}=>⟨[(0,tV h t),(1,tV l.length l),(4,.one (.bool false)),(7,tV l.length l),(8,.one (.int .i64 l.length)),(9,.one (.int .i64 y.1))],[],2,20⟩) (fun y=>l.length-y.1) ⟨0,O2 _⟩ ?_ (fun⟨i,hi⟩=>?_)
 ·refine Sa ?_;simp only[ry,seval,rz,tV,tC,QsC]
 simp only;have wi:=wI i (by omega);simp only[vx,T,seval,tV,tC,QsC];refine⟨fun k=>Lg ?_,fun k=>Lg ?_⟩
 ·have hlt:i<l.length:=by omega
  have vi:=v i hlt;simp only[vx,T,seval,tV,tC,QsC];refine⟨⟨by omega,by omega⟩,Cg vi ?_⟩;simp only[vx,T,seval,tV,tC,QsC,wi];refine Lq ⟨i+1,by omega⟩ ?_ (by show l.length-(i+1)<l.length-i;omega);refine Sa ?_;simp only[ry,seval,rz,tV,tC,QsC]
 simp only[vx,T,seval,tV,tC,QsC];refine Cg r ?_;simp only[vx,T,seval,tV,tC,QsC];exact Ve rfl
theorem Sign_spec {X h:Nat}(hX:X<2^37){t:List El}{a:El}(W:RQ3 X h t)(ha:a.length=2^h)(hs:SgB X h t a):Pr Tryz.prog 219 [tV h t,eV a] (.one (.int .i64 (sgnE h t a))):=by
 have v:=value_spec hX W.tq ha hs;have g:=good_spec hX (l:=[a]) W (by show(1:Nat)<2^60;decide) (fun i hi=>by
  obtain rfl:i=0:=by
               have:i<1:=hi
               omega
  exact⟨ha,.of hs.qb (by omega)⟩)
 refine pw Tryz.func219 ⟨[0,1,4,9],[]⟩ ?_;simp only[Tryz.f219,Tryz.ntmps219,iz,seval];simp only[vx,T,seval,tV,tC,eV,QsC];refine Cg (g.args ⟨.refl _,.cell (.rows rfl fun i j hi hj=>.of_eq ?_),trivial⟩) ?_
 ·obtain rfl:i=0:=by omega
  obtain rfl:j=0:=by omega
  rfl
 simp only[vx,T,seval,tV,tC,eV,QsC];refine Cg v ?_;simp only[vx,T,seval,tV,tC,eV,QsC];exact Ve rfl
end Go.Proofs.YtaihcpdpmijifaaGreat
namespace Go.Geo
open Go Go.Eng
def uppB (x y:Rat):Bool:=decide (sgn y.num>0)||(decide (sgn y.num=0)&&decide (sgn x.num>0))
def cmpT (a b c d:Rat):Int:=if uppB a b=uppB c d then-(sgn (a*d-b*c).num)else if uppB a b then-1 else 1
end Go.Geo
namespace Go.Geo
open Go Go.Eng
theorem sgn_of (x:Rat):sgn x.num=if x=0 then 0 else if x<0 then-1 else 1:=by
 unfold sgn
 by_cases h:x=0
 ·rw[if_pos h,if_pos (Rat.num_eq_zero.2 h)]
 rw[if_neg h,if_neg (fun e=>h (Rat.num_eq_zero.1 e))]
 by_cases g:x<0
 ·rw[if_pos g,if_pos];refine Int.not_le.1 fun e=>?_
  have:=Rat.num_nonneg.1 e
  grind
 rw[if_neg g,if_neg]
 have:0≤x:=by grind
 have:=Rat.num_nonneg.2 this
 omega
theorem sgnR_mul {N x:Rat}(h:0<N):sgn (N*x).num=sgn x.num:=by
 rw[sgn_of,sgn_of];have h1:N*x=0↔x=0:=by
  constructor
  ·intro e
   rcases Rat.mul_eq_zero.1 e with e|e
   ·grind
   exact e
  intro e;rw[e];grind
 have h2:N*x<0↔x<0:=by
  constructor
  ·intro e;refine Classical.byContradiction fun g=>?_
   have:0≤N*x:=Rat.mul_nonneg (by grind) (by grind)
   grind
  intro e
  have:0<N*(-x):=Rat.mul_pos h (by grind)
  grind
 simp only[h1,h2]
theorem uppB_mul {N x y:Rat}(h:0<N):uppB (N*x) (N*y)=uppB x y:=by
 unfold uppB;rw[sgnR_mul h,sgnR_mul h]
theorem cmpT_mul {N a b c d:Rat}(h:0<N):cmpT (N*a) (N*b) (N*c) (N*d)=cmpT a b c d:=by
 unfold cmpT;rw[uppB_mul h,uppB_mul h,show N*a*(N*d)-N*b*(N*c)=N*(N*(a*d-b*c)) by grind,sgnR_mul h,sgnR_mul h]
def tQ (j:Nat):Rat:=mkRat 1 (2^j)
def cosQ (t:Rat):Rat:=(1-t*t)/(1+t*t)
def sinQ (t:Rat):Rat:=(t+t)/(1+t*t)
def stopB (c s u w:Rat):Bool:=(decide (u=1∧w=0)||decide (cmpT c s u w≤0))&&!(decide (c=u)&&decide (s=w))
def witB (cw:Bool)(c s u w:Rat):Bool:=
 (decide (u=1∧w=0)||(bif cw then decide (cmpT (c*u+s*w) (c*w-s*u) u w≤0)else decide (cmpT c s u w≤0)))&&!(decide (c=1)&&decide (s=0))&&!(decide (c=u)&&decide (s=w))
def enX (s:Nat):Rat:=uX s
def enY (cw:Bool)(s:Nat):Rat:=bif cw then-uY s else uY s
def midJ (cw:Bool)(s:Nat):Nat:=((List.range 4).find? fun j=>stopB (cosQ (tQ j)) (sinQ (tQ j)) (enX s) (enY cw s)).getD 4
def midB (cw:Bool)(s:Nat):Bool:=
 decide (midJ cw s<4)&&((List.range (midJ cw s)).all fun j=>!stopB (cosQ (tQ j)) (sinQ (tQ j)) (enX s) (enY cw s))&&stopB (cosQ (tQ (midJ cw s))) (sinQ (tQ (midJ cw s))) (enX s) (enY cw s)&&witB cw (cosQ (tQ (midJ cw s))) (sinQ (tQ (midJ cw s))) (enX s) (enY cw s)
theorem mid_all:∀s,s<16→midB false s=true∧midB true s=true:=by decide+kernel
theorem un_one:∀s,s<16→uX s*uX s+uY s*uY s=1:=by decide+kernel
theorem cs_one:∀j,j<4→cosQ (tQ j)*cosQ (tQ j)+sinQ (tQ j)*sinQ (tQ j)=1:=by decide+kernel
theorem rot_inj {rx ry a b a' b':Rat}(h:0<rx*rx+ry*ry)(h1:rx*a-ry*b=rx*a'-ry*b')(h2:ry*a+rx*b=ry*a'+rx*b'):a=a'∧b=b':=by
 have e1:(rx*rx+ry*ry)*(a-a')=0:=by grind
 have e2:(rx*rx+ry*ry)*(b-b')=0:=by grind
 constructor
 ·rcases Rat.mul_eq_zero.1 e1 with e|e
  ·grind
  grind
 rcases Rat.mul_eq_zero.1 e2 with e|e
 ·grind
 grind
structure Pn (zx zy rx ry a b x y:Rat):Prop where
 x:x=zx+(rx*a-ry*b)
 y:y=zy+(ry*a+rx*b)
section
variable {zx zy rx ry a b a' b' x y x' y':Rat}(hN:0<rx*rx+ry*ry)(p:Pn zx zy rx ry a b x y)(q:Pn zx zy rx ry a' b' x' y')
include hN p q
theorem Pn.eqB:(decide (x=x')&&decide (y=y'))=(decide (a=a')&&decide (b=b')):=by
 have k:(x=x'∧y=y')↔(a=a'∧b=b'):=by
  obtain⟨h1,h2⟩:=p;obtain⟨h3,h4⟩:=q
  constructor
  ·rintro⟨e1,e2⟩;exact rot_inj hN (by grind) (by grind)
  rintro⟨e1,e2⟩
  constructor<;>grind
 rw[←Bool.decide_and,←Bool.decide_and];exact decide_eq_decide.2 k
omit hN in
theorem Pn.dot:(x-zx)*(x'-zx)+(y-zy)*(y'-zy)=(rx*rx+ry*ry)*(a*a'+b*b'):=by
 obtain⟨h1,h2⟩:=p;obtain⟨h3,h4⟩:=q
 grind
omit hN in
theorem Pn.crs:(x-zx)*(y'-zy)-(y-zy)*(x'-zx)=(rx*rx+ry*ry)*(a*b'-b*a'):=by
 obtain⟨h1,h2⟩:=p;obtain⟨h3,h4⟩:=q
 grind
end
theorem Pn.far {zx zy rx ry a b x y:Rat}(p:Pn zx zy rx ry a b x y)(h:a*a+b*b=1):farQ x y zx zy=rx*rx+ry*ry:=by
 obtain⟨h1,h2⟩:=p;unfold farQ
 grind
theorem Pn.ne0 {zx zy rx ry a b x y:Rat}(hN:0<rx*rx+ry*ry)(p:Pn zx zy rx ry a b x y)(h:a*a+b*b=1):(decide (x-zx=0)&&decide (y-zy=0))=false:=by
 have hf:=p.far h;unfold farQ at hf;rw[←Bool.decide_and];refine decide_eq_false fun⟨e1,e2⟩=>?_;rw[e1,e2]at hf
 grind
theorem Pn.one (zx zy ax ay:Rat):Pn zx zy (ax-zx) (ay-zy) 1 0 ax ay:=⟨by grind,by grind⟩
theorem arc_form (d:Dr)(h:d.arc=true)(hs:0≤d.st∧d.st<256)(hv:d.cu.vld=true):
  d.cu.arc=true∧d.cu.cw=d.cw∧(d.cw=false→0<(d.cu.ax-d.cu.zx)*(d.cu.ax-d.cu.zx)+(d.cu.ay-d.cu.zy)*(d.cu.ay-d.cu.zy)∧
    Pn d.cu.zx d.cu.zy (d.cu.ax-d.cu.zx) (d.cu.ay-d.cu.zy) (enX (d.st%16).toNat) (enY false (d.st%16).toNat) d.cu.bx d.cu.by')∧
   (d.cw=true→0<(d.cu.bx-d.cu.zx)*(d.cu.bx-d.cu.zx)+(d.cu.by'-d.cu.zy)*(d.cu.by'-d.cu.zy)∧
    Pn d.cu.zx d.cu.zy (d.cu.bx-d.cu.zx) (d.cu.by'-d.cu.zy) (enX (d.st%16).toNat) (enY true (d.st%16).toNat) d.cu.ax d.cu.ay):=by
 have h1:=un_one (d.st%16).toNat (by omega);obtain⟨arc,cw,a0,a1,b0,b1,st,un⟩:=d;simp only at h h1;subst h;unfold Cu.vld Dr.cu at hv;simp only[cond_true,Bool.and_eq_true,decide_eq_true_eq]at hv;obtain⟨hv,_⟩:=hv;unfold Dr.cu enX enY;simp only[cond_true,cond_false]
 generalize uX (st%16).toNat=u at*
 generalize uY (st%16).toNat=w at*
 generalize atQ a0 un=p1 at*
 generalize atQ a1 un=p2 at*
 generalize atQ b0 un=p3 at*
 generalize atQ b1 un=p4 at*
 have hf:0<(p3-p1)*(p3-p1)+(p4-p2)*(p4-p2):=by
  rw[sgn_of]at hv;unfold farQ at hv
  split at hv
  ·omega
  split at hv
  ·omega
  grind
 refine⟨trivial,trivial,fun _=>⟨hf,by grind,by grind⟩,fun _=>⟨?_,by grind,by grind⟩⟩;have e:(p1+((p3-p1)*u+ -(p4-p2)*w)-p1)*(p1+((p3-p1)*u+ -(p4-p2)*w)-p1)+(p2+((p4-p2)*u+(p3-p1)*w)-p2)*(p2+((p4-p2)*u+(p3-p1)*w)-p2)=(p3-p1)*(p3-p1)+(p4-p2)*(p4-p2):=by grind
 rw[e];exact hf
end Go.Geo
set_option maxHeartbeats 2000000
namespace Go.Proofs.YtaihcpdpmijifaaGreat
open Go Go.Eng Go.Geo
open Go.Tw (El addE negE zE mulE QB MlB)
theorem tNeg0 (a:Rat)(ha:qm a<2^38):Pr Tryz.prog 169 [.one .nil,eV [a]] (eV [-a]):=(tNeg_spec Tk0 [a] rfl (Qk1 ha)).args ⟨nil0,.refl _,trivial⟩
theorem nNeg0 (a:Rat)(ha:qm a<2^38):Pr Tryz.prog 90 [NV a] (NV (-a)):=by
 have c1:=detach0 a ha;have c2:=tNeg0 a ha;refine pw Tryz.func90 ⟨[0,1,2],[]⟩ ?_;simp only[Tryz.f90,Tryz.ntmps90,iz,seval];simp only[vx,T,seval,NV,eV,QsC];refine Cg c1 ?_;simp only[vx,T,seval,NV,eV,QsC];refine Cg c2 ?_;simp only[vx,T,seval,NV,eV,QsC];exact Ve rfl
theorem sSign0 (a:Rat)(ha:qm a<2^36):Pr Tryz.prog 219 [.one .nil,eV [a]] (.one (.int .i64 (sgn a.num))):=by
 have h:=Sign_spec (X:=2^36) (t:=[]) (a:=[a]) (by decide) (W:=(⟨⟨Tk0,by decide,fun i h=>absurd h (O5 _)⟩,fun i h=>absurd h (O5 _),fun i h=>absurd h (O5 _)⟩:RQ3 (2^36) 0 [])) rfl (QB1 (by omega));rw[show Go.Tw.sgnE 0 [] [a]=sgn a.num by
  unfold Go.Tw.sgnE;rw[sgn_of]
  show(if 0<a then(1:Int)else if a<0 then-1 else 0)=_
  (repeat' split)<;>first|rfl|grind]at h
 exact h.args ⟨nil0,.refl _,trivial⟩
theorem nSign0 (a:Rat)(ha:qm a<2^36):Pr Tryz.prog 139 [NV a] (.one (.int .i64 (sgn a.num))):=by
 have c1:=sSign0 a ha;refine pw Tryz.func139 ⟨[0,1,2],[]⟩ ?_;simp only[Tryz.f139,Tryz.ntmps139,iz,seval];simp only[vx,T,seval,NV,eV,QsC];refine Cg c1 ?_;simp only[vx,T,seval,NV,eV,QsC];exact Ve rfl
theorem vboth (f:FuncId)(a b c d x y:Rat)(h1:Pr Tryz.prog f [NV a,NV c] (.tup [NV x,.one (.int .i64 0)]))(h2:Pr Tryz.prog f [NV b,NV d] (.tup [NV y,.one (.int .i64 0)])):Pr Tryz.prog 77 [WV a b,WV c d,.one (.fn f 0 (fun _=>.any))] (.tup [WV x y,.one (.int .i64 0)]):=by
 have c1:=h1;have c2:=h2;refine pw Tryz.func77 ⟨[0,1,2,3,4,6,7,8,9,10,21,34],[]⟩ ?_;simp only[Tryz.f77,Tryz.ntmps77,iz,seval];simp only[vx,T,seval,WV,NV,QsC];refine Cg c1 ?_;simp only[vx,T,seval,WV,NV,QsC];refine Cg c2 ?_;simp only[vx,T,seval,WV,NV,QsC];exact Ve rfl
theorem vAdd0 (a b c d:Rat){B:Nat}(hB:B<2^24)(ha:Sm B a)(hb:Sm B b)(hc:Sm B c)(hd:Sm B d):Pr Tryz.prog 36 [WV a b,WV c d] (.tup [WV (a+c) (b+d),.one (.int .i64 0)]):=by
 have c1:=vboth _ a b c d (a+c) (b+d) (nAdd0 a c (ha.lt (by omega)) (hc.lt (by omega))) (nAdd0 b d (hb.lt (by omega)) (hd.lt (by omega)));refine pw Tryz.func36 ⟨[0,1,2,3,4,5],[]⟩ ?_;simp only[Tryz.f36,Tryz.ntmps36,iz,seval];simp only[vx,T,seval,WV,NV,QsC];refine Cg c1 ?_;simp only[vx,T,seval,WV,NV,QsC];exact Ve rfl
theorem vSub0 (a b c d:Rat){B:Nat}(hB:B<2^24)(ha:Sm B a)(hb:Sm B b)(hc:Sm B c)(hd:Sm B d):Pr Tryz.prog 26 [WV a b,WV c d] (.tup [WV (a-c) (b-d),.one (.int .i64 0)]):=by
 have c1:=vboth _ a b c d (a-c) (b-d) (nSub0 a c (ha.lt (by omega)) (hc.lt (by omega))) (nSub0 b d (hb.lt (by omega)) (hd.lt (by omega)));refine pw Tryz.func26 ⟨[0,1,2,3,4,5],[]⟩ ?_;simp only[Tryz.f26,Tryz.ntmps26,iz,seval];simp only[vx,T,seval,WV,NV,QsC];refine Cg c1 ?_;simp only[vx,T,seval,WV,NV,QsC];exact Ve rfl
theorem vScale0 (a b n:Rat){B:Nat}(hB:B<2^24)(ha:Sm B a)(hb:Sm B b)(hn:Sm B n):Pr Tryz.prog 33 [WV a b,NV n] (.tup [WV (a*n) (b*n),.one (.int .i64 0)]):=by
 have c1:=vboth _ a b n n (a*n) (b*n) (nMul0 a n (A:=B+1) (B:=B+1) (by omega) (by omega) (ha.mono (by omega)) (hn.mono (by omega)) (by omega)) (nMul0 b n (A:=B+1) (B:=B+1) (by omega) (by omega) (hb.mono (by omega)) (hn.mono (by omega)) (by omega));refine pw Tryz.func33 ⟨[0,1,2,3,4,5],[]⟩ ?_;simp only[Tryz.f33,Tryz.ntmps33,iz,seval];simp only[vx,T,seval,WV,NV,QsC];refine Cg c1 ?_;simp only[vx,T,seval,WV,NV,QsC];exact Ve rfl
theorem vcopy0 (a:Rat)(ha:qm a<2^38):Pr Tryz.prog 91 [NV a] (NV a):=by
 have c1:=nNeg0 a ha;have c2:=nNeg0 (-a) (by rw[qm_negR];exact ha);refine pw Tryz.func91 ⟨[0,1,2],[]⟩ ?_;simp only[Tryz.f91,Tryz.ntmps91,iz,seval];simp only[vx,T,seval,WV,NV,QsC];refine Cg c1 ?_;simp only[vx,T,seval,WV,NV,QsC];refine Cg c2 ?_;simp only[vx,T,seval,WV,NV,QsC];exact Ve (by rw[Rat.neg_neg])
theorem vLeft0 (a b:Rat)(ha:qm a<2^38)(hb:qm b<2^38):Pr Tryz.prog 35 [WV a b] (WV (-b) a):=by
 have c1:=nNeg0 b hb;have c2:=vcopy0 a ha;refine pw Tryz.func35 ⟨[0,1,2],[]⟩ ?_;simp only[Tryz.f35,Tryz.ntmps35,iz,seval];simp only[vx,T,seval,WV,NV,QsC];refine Cg c1 ?_;simp only[vx,T,seval,WV,NV,QsC];refine Cg c2 ?_;simp only[vx,T,seval,WV,NV,QsC];exact Ve rfl
theorem vDot0 (a b c d:Rat){B:Nat}(hB:B<2^24)(ha:Sm B a)(hb:Sm B b)(hc:Sm B c)(hd:Sm B d):Pr Tryz.prog 206 [WV a b,WV c d] (.tup [NV (a*c+b*d),.one (.int .i64 0)]):=by
 have c1:=vboth _ a b c d (a*c) (b*d) (nMul0 a c (A:=B+1) (B:=B+1) (by omega) (by omega) (ha.mono (by omega)) (hc.mono (by omega)) (by omega)) (nMul0 b d (A:=B+1) (B:=B+1) (by omega) (by omega) (hb.mono (by omega)) (hd.mono (by omega)) (by omega));have c2:=nAdd0 (a*c) (b*d) ((ha.mul hc).lt (by omega)) ((hb.mul hd).lt (by omega));refine pw Tryz.func206 ⟨[0,1,2,3,4,5,6,7,15],[]⟩ ?_;simp only[Tryz.f206,Tryz.ntmps206,iz,seval];simp only[vx,T,seval,WV,NV,QsC];refine Cg c1 ?_;simp only[vx,T,seval,WV,NV,QsC];refine Cg c2 ?_;simp only[vx,T,seval,WV,NV,QsC];exact Ve rfl
theorem vCross0 (a b c d:Rat){B:Nat}(hB:B<2^24)(ha:Sm B a)(hb:Sm B b)(hc:Sm B c)(hd:Sm B d):Pr Tryz.prog 116 [WV a b,WV c d] (.tup [NV (a*d-b*c),.one (.int .i64 0)]):=by
 rw[show a*d-b*c= -b*c+a*d by grind];have c1:=vLeft0 a b (Nat.lt_of_lt_of_le (ha.lt (by omega)) (by decide)) (Nat.lt_of_lt_of_le (hb.lt (by omega)) (by decide));have c2:=vDot0 (-b) a c d hB hb.neg ha hc hd;refine pw Tryz.func116 ⟨[0,1,2,3,4,5],[]⟩ ?_;simp only[Tryz.f116,Tryz.ntmps116,iz,seval];simp only[vx,T,seval,WV,NV,QsC];refine Cg c1 ?_;simp only[vx,T,seval,WV,NV,QsC];refine Cg c2 ?_;simp only[vx,T,seval,WV,NV,QsC];exact Ve rfl
theorem vZero0 (a b:Rat)(ha:qm a<2^36)(hb:qm b<2^36):Pr Tryz.prog 221 [WV a b] (.one (.bool (decide (a=0)&&decide (b=0)))):=by
 have c1:=nSign0 a ha;have c2:=nSign0 b hb;have e1:decide (sgn a.num=0)=decide (a=0):=decide_eq_decide.2 (by rw[sgn_num0]);have e2:decide (sgn b.num=0)=decide (b=0):=decide_eq_decide.2 (by rw[sgn_num0]);rw[←e1,←e2];refine pw Tryz.func221 ⟨[0,1,2],[]⟩ ?_;simp only[Tryz.f221,Tryz.ntmps221,iz,seval];simp only[vx,T,seval,WV,NV,QsC];refine Cg c1 ?_;simp only[vx,T,seval,WV,NV,QsC];refine⟨fun h=>Lg ?_,fun h=>Lg ?_⟩
 ·simp only[vx,T,seval,WV,NV,QsC];refine Cg c2 ?_;simp only[vx,T,seval,WV,NV,QsC];exact Ve (by simp[h])
 simp only[vx,T,seval,WV,NV,QsC];exact Ve (by simp[h])
end Go.Proofs.YtaihcpdpmijifaaGreat
set_option maxHeartbeats 2000000
namespace Go.Proofs.YtaihcpdpmijifaaGreat
open Go Go.Eng Go.Geo
open Go.Tw (El addE negE zE mulE QB MlB)
def AnV (x y:Rat):V:=.agg [.nil,QsC [x],.nil,QsC [y],.int .i64 0]
theorem tuUpper (x y:Rat)(hx:qm x<2^36)(hy:qm y<2^36):Pr Tryz.prog 224 [WV x y] (.one (.bool (uppB x y))):=by
 have c1:=nSign0 y hy;have c2:=nSign0 x hx;unfold uppB;refine pw Tryz.func224 ⟨[0,1,2,3],[]⟩ ?_;simp only[Tryz.f224,Tryz.ntmps224,iz,seval];simp only[vx,T,seval,WV,NV,QsC];refine Cg c1 ?_;simp only[vx,T,seval,WV,NV,QsC];refine⟨fun h=>Lg ?_,fun h=>Lg ?_⟩
 ·simp only[vx,T,seval,WV,NV,QsC];exact Ve (by simp[h])
 simp only[vx,T,seval,WV,NV,QsC];refine⟨fun g=>Lg ?_,fun g=>Lg ?_⟩
 ·simp only[vx,T,seval,WV,NV,QsC];refine Cg c2 ?_;simp only[vx,T,seval,WV,NV,QsC];exact Ve (by simp[h,g])
 simp only[vx,T,seval,WV,NV,QsC];exact Ve (by simp[h,g])
theorem tuConj (a b:Rat)(ha:qm a<2^38)(hb:qm b<2^38):Pr Tryz.prog 223 [WV a b] (WV a (-b)):=by
 have c1:=nTrim0 a ha;have c2:=nNeg0 b hb;refine pw Tryz.func223 ⟨[0,1,2],[]⟩ ?_;simp only[Tryz.f223,Tryz.ntmps223,iz,seval];simp only[vx,T,seval,WV,NV,QsC];refine Cg c1 ?_;simp only[vx,T,seval,WV,NV,QsC];refine Cg c2 ?_;simp only[vx,T,seval,WV,NV,QsC];exact Ve rfl
theorem tuMul (a b c d:Rat){B:Nat}(hB:B<2^24)(ha:Sm B a)(hb:Sm B b)(hc:Sm B c)(hd:Sm B d):Pr Tryz.prog 222 [WV a (-b),WV c d] (.tup [WV (a*c+b*d) (a*d-b*c),.one (.int .i64 0)]):=by
 have c1:=nNeg0 (-b) (by rw[qm_negR];exact Nat.lt_of_lt_of_le (hb.lt (by omega)) (by decide));have c2:=vDot0 a b c d hB ha hb hc hd;have c3:=nNeg0 (-b) (by rw[qm_negR];exact Nat.lt_of_lt_of_le (hb.lt (by omega)) (by decide));have c4:=vCross0 a b c d hB ha hb hc hd;rw[Rat.neg_neg]at c1 c3;refine pw Tryz.func222 ⟨[0,1,2,3,4,5,6,7,8,21,36],[(1,(.cons 12 [10] (.cons 13 [] .nil .nil) .nil)),(4,(.cons 12 [10] (.cons 13 [] .nil .nil) .nil))]⟩ ?_;simp only[Tryz.f222,Tryz.ntmps222,iz,seval];simp only[vx,T,seval,WV,NV,QsC];refine Cg c1 ?_;simp only[vx,T,seval,WV,NV,QsC];refine Cg c2 ?_;simp only[vx,T,seval,WV,NV,QsC];refine Cg c3 ?_;simp only[vx,T,seval,WV,NV,QsC];refine Cg c4 ?_;simp only[vx,T,seval,WV,NV,QsC];exact Ve rfl
theorem tuOf (a b c d:Rat){B:Nat}(hB:B<2^24)(ha:Sm B a)(hb:Sm B b)(hc:Sm B c)(hd:Sm B d)(h1:(decide (a=0)&&decide (b=0))=false)(h2:(decide (c=0)&&decide (d=0))=false):Pr Tryz.prog 140 [WV a b,WV c d] (.tup [AnV (a*c+b*d) (a*d-b*c),.one (.int .i64 0)]):=by
 have c1:=vZero0 a b (Nat.lt_of_lt_of_le (ha.lt (by omega)) (by decide)) (Nat.lt_of_lt_of_le (hb.lt (by omega)) (by decide));have c2:=vZero0 c d (Nat.lt_of_lt_of_le (hc.lt (by omega)) (by decide)) (Nat.lt_of_lt_of_le (hd.lt (by omega)) (by decide));have c3:=tuConj a b (Nat.lt_of_lt_of_le (ha.lt (by omega)) (by decide)) (Nat.lt_of_lt_of_le (hb.lt (by omega)) (by decide));have c4:=tuMul a b c d hB ha hb hc hd;rw[h1]at c1;rw[h2]at c2;refine pw Tryz.func140 ⟨[0,1,2,3,4,5,6,7,13,23],[(3,(.cons 8 [6] (.cons 9 [] .nil .nil) .nil))]⟩ ?_;simp only[Tryz.f140,Tryz.ntmps140,iz,seval];simp only[vx,T,seval,WV,NV,AnV,QsC];refine Cg c1 ?_;simp only[vx,T,seval,WV,NV,AnV,QsC];refine Cg c2 ?_;simp only[vx,T,seval,WV,NV,AnV,QsC];refine Cg c3 ?_;simp only[vx,T,seval,WV,NV,AnV,QsC];refine Cg c4 ?_;simp only[vx,T,seval,WV,NV,AnV,QsC];exact Ve rfl
theorem tuCompare (a b c d:Rat){B:Nat}(hB:B<2^24)(ha:Sm B a)(hb:Sm B b)(hc:Sm B c)(hd:Sm B d):Pr Tryz.prog 141 [WV a b,WV c d] (.tup [.one (.int .i64 (cmpT a b c d)),.one (.int .i64 0)]):=by
 have c1:=tuUpper a b (Nat.lt_of_lt_of_le (ha.lt (by omega)) (by decide)) (Nat.lt_of_lt_of_le (hb.lt (by omega)) (by decide));have c2:=tuUpper c d (Nat.lt_of_lt_of_le (hc.lt (by omega)) (by decide)) (Nat.lt_of_lt_of_le (hd.lt (by omega)) (by decide));have c3:=vCross0 a b c d hB ha hb hc hd;have c4:=nSign0 (a*d-b*c) (Nat.lt_of_lt_of_le (((ha.mul hd).sub (hb.mul hc)).lt (by omega)) (by decide))
 have hs: -1≤sgn (a*d-b*c).num∧sgn (a*d-b*c).num≤1:=by unfold sgn;(repeat' split)<;>omega
 have w:IntKind.i64.wrap (0-sgn (a*d-b*c).num)= -(sgn (a*d-b*c).num):=by rw[Q4 _ (by omega)];omega
 unfold cmpT
 generalize uppB a b=u at*
 generalize uppB c d=v at*
 cases u<;>cases v
 ·refine pw Tryz.func141 ⟨[0,1,2,3,4,5,6,7,8,9,16,17],[]⟩ ?_;simp only[Tryz.f141,Tryz.ntmps141,iz,seval];simp only[vx,T,seval,WV,NV,QsC];refine Cg c1 ?_;simp only[vx,T,seval,WV,NV,QsC];refine Cg c2 ?_;simp only[vx,T,seval,WV,NV,QsC];refine Cg c3 ?_;simp only[vx,T,seval,WV,NV,QsC];refine Cg c4 ?_;simp only[vx,T,seval,WV,NV,QsC,w];exact Ve rfl
 ·refine pw Tryz.func141 ⟨[0,1,2,3,4,5,6,7,8,9,16,17],[]⟩ ?_;simp only[Tryz.f141,Tryz.ntmps141,iz,seval];simp only[vx,T,seval,WV,NV,QsC];refine Cg c1 ?_;simp only[vx,T,seval,WV,NV,QsC];refine Cg c2 ?_;simp only[vx,T,seval,WV,NV,QsC];exact⟨Ve rfl,fun h=>absurd h (by decide)⟩
 ·refine pw Tryz.func141 ⟨[0,1,2,3,4,5,6,7,8,9,16,17],[]⟩ ?_;simp only[Tryz.f141,Tryz.ntmps141,iz,seval];simp only[vx,T,seval,WV,NV,QsC];refine Cg c1 ?_;simp only[vx,T,seval,WV,NV,QsC];refine Cg c2 ?_;simp only[vx,T,seval,WV,NV,QsC];exact⟨Ve rfl,fun h=>absurd h (by decide)⟩
 refine pw Tryz.func141 ⟨[0,1,2,3,4,5,6,7,8,9,16,17],[]⟩ ?_;simp only[Tryz.f141,Tryz.ntmps141,iz,seval];simp only[vx,T,seval,WV,NV,QsC];refine Cg c1 ?_;simp only[vx,T,seval,WV,NV,QsC];refine Cg c2 ?_;simp only[vx,T,seval,WV,NV,QsC];refine Cg c3 ?_;simp only[vx,T,seval,WV,NV,QsC];refine Cg c4 ?_;simp only[vx,T,seval,WV,NV,QsC,w];exact Ve rfl
theorem tuCmp (a b c d:Rat){B:Nat}(hB:B<2^24)(ha:Sm B a)(hb:Sm B b)(hc:Sm B c)(hd:Sm B d):Pr Tryz.prog 69 [AnV a b,AnV c d] (.tup [.one (.int .i64 (cmpT a b c d)),.one (.int .i64 0)]):=by
 have c1:=tuCompare a b c d hB ha hb hc hd;refine pw Tryz.func69 ⟨[0,1,2,3,4,5,6,7,8,14,29],[]⟩ ?_;simp only[Tryz.f69,Tryz.ntmps69,iz,seval];simp only[vx,T,seval,WV,NV,AnV,QsC];refine Cg c1 ?_;simp only[vx,T,seval,WV,NV,AnV,QsC];exact Ve rfl
def powQ (zx zy r x y:Rat):Rat:=(x-zx)*(x-zx)+(y-zy)*(y-zy)-r
theorem cPower (zx zy r x y:Rat){B:Nat}(hB:B<2^20)(h1:Sm B zx)(h2:Sm B zy)(h3:Sm B r)(h4:Sm B x)(h5:Sm B y):Pr Tryz.prog 138 [.agg (ciL zx zy r),WV x y] (.tup [NV (powQ zx zy r x y),.one (.int .i64 0)]):=by
 have c1:=cc_minus x y zx zy (B:=B) (by omega) h4 h5 h1 h2;have c2:=cc_square (x-zx) (y-zy) (B:=B+B+1) (by omega) (h4.sub h1) (h5.sub h2);have c3:=cc_sub ((x-zx)*(x-zx)+(y-zy)*(y-zy)) r (B:=8*B+5) (by omega) ((((h4.sub h1).mul (h4.sub h1)).add ((h5.sub h2).mul (h5.sub h2))).mono (by omega)) (h3.mono (by omega));unfold powQ;refine pw Tryz.func138 ⟨[0,1,2,3,4,5,6,7,25],[(2,(.cons 6 [0,1,8,9] (.cons 7 [0,8,9] (.cons 10 [] (.cons 11 [] (.cons 12 [] .nil .nil) .nil) (.cons 11 [0,8,9] (.cons 10 [] (.cons 12 [] .nil .nil) .nil) .nil)) (.cons 11 [0,1,8,9] (.cons 7 [0,8,9] (.cons 10 [] (.cons 12 [] .nil .nil) .nil) .nil) .nil)) (.cons 11 [0,1,2,3,4,5,8,9] (.cons 6 [0,1,8,9] (.cons 7 [0,8,9] (.cons 10 [] (.cons 12 [] .nil .nil) .nil) .nil) .nil) .nil))),(4,(.cons 0 [1] (.cons 2 [] (.cons 3 [] (.cons 4 [] (.cons 5 [] (.cons 6 [] .nil .nil) .nil) (.cons 5 [] (.cons 4 [] (.cons 6 [] .nil .nil) .nil) .nil)) (.cons 5 [] (.cons 3 [] (.cons 4 [] (.cons 6 [] .nil .nil) .nil) .nil) .nil)) (.cons 5 [1] (.cons 2 [] (.cons 3 [] (.cons 4 [] (.cons 6 [] .nil .nil) .nil) .nil) .nil) .nil)) (.cons 2 [] (.cons 0 [] (.cons 3 [] (.cons 4 [] (.cons 5 [] (.cons 6 [] .nil .nil) .nil) (.cons 5 [] (.cons 4 [] (.cons 6 [] .nil .nil) .nil) .nil)) (.cons 5 [] (.cons 3 [] (.cons 4 [] (.cons 6 [] .nil .nil) .nil) .nil) .nil)) (.cons 3 [] (.cons 0 [] (.cons 4 [] (.cons 5 [] (.cons 6 [] .nil .nil) .nil) (.cons 5 [] (.cons 4 [] (.cons 6 [] .nil .nil) .nil) .nil)) (.cons 4 [] (.cons 0 [] (.cons 5 [] (.cons 6 [] .nil .nil) .nil) .nil) .nil)) .nil)) .nil)))]⟩ ?_;simp only[Tryz.f138,Tryz.ntmps138,iz,seval];simp only[vx,T,seval,WV,NV,kB,ciL,QsC,rOp_nilk,nilK]
 repeat' first
  |(with_reducible refine Q3 ?_ ?_)
  |(
    refine Cm 6 (B:=kB) rfl rfl c3 ?_;rintro _ _ ⟨rfl,rfl⟩ _;simp only[vx,T,seval,WV,NV,kB,ciL,QsC,rOp_nilk,nilK])
  |(
    refine Cm 6 (B:=kB) rfl rfl c2 ?_;rintro _ _ ⟨rfl,rfl⟩ _;simp only[vx,T,seval,WV,NV,kB,ciL,QsC,rOp_nilk,nilK])
  |(
    refine Cm 6 (B:=kB) rfl rfl c1 ?_;rintro _ _ ⟨rfl,rfl⟩ _;simp only[vx,T,seval,WV,NV,kB,ciL,QsC,rOp_nilk,nilK])
 all_goals exact Ve rfl
theorem cSide (zx zy r x y:Rat){B:Nat}(hB:B<2^20)(h1:Sm B zx)(h2:Sm B zy)(h3:Sm B r)(h4:Sm B x)(h5:Sm B y):Pr Tryz.prog 67 [.agg (ciL zx zy r),WV x y] (.tup [.one (.int .i64 (sgn (powQ zx zy r x y).num)),.one (.int .i64 0)]):=by
 have c1:=cPower zx zy r x y hB h1 h2 h3 h4 h5;have c2:=nSign0 (powQ zx zy r x y) (Nat.lt_of_lt_of_le (((((h4.sub h1).mul (h4.sub h1)).add ((h5.sub h2).mul (h5.sub h2))).sub h3).lt (by omega)) (by decide));refine pw Tryz.func67 ⟨[0,1,2,3,4,5,6,7,15],[]⟩ ?_;simp only[Tryz.f67,Tryz.ntmps67,iz,seval];simp only[vx,T,seval,WV,NV,ciL,QsC];refine Cg c1 ?_;simp only[vx,T,seval,WV,NV,ciL,QsC];refine Cg c2 ?_;simp only[vx,T,seval,WV,NV,ciL,QsC];exact Ve rfl
end Go.Proofs.YtaihcpdpmijifaaGreat
