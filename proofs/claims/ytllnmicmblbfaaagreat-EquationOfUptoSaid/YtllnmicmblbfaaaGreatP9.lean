/-
  EquationOf, where what it reads is of bulk at most 1048576: the law returns true, and its argument reads afterwards as it read before. No condition beyond the given row's own cells.
  (Text 9 of 9; made by a program out of smaller texts.)
-/
import Derived.ProofKit
import Derived.JoinedCond
import Derived.Test.YtllnmicmblbfaaaGreatRows
import Derived.Test.YtllnmicmblbfaaaGreatP8
set_option linter.unusedSimpArgs false
set_option linter.unusedVariables false
set_option maxHeartbeats 16000000
set_option maxRecDepth 10000
open Nat renaming reduceAdd → J1, reduceMul → J2, reduceSub → J3, reduceEqDiff → J4, reduceLT → J5, reduceLeDiff → J6, reduceBEq → J7, reduceDiv → J8, reduceMod → J9, reducePow → J0
open Int renaming reduceToNat → K1, reduceLE → K2, reduceLT → K3, reduceEq → K4, reducePow → K5, reduceSub → K6, reduceNeg → K7, natCast_add → X2, natCast_one → X3, natCast_zero → X4
open List renaming getD_cons_zero → X0, getD_cons_succ → X1, length_take → X5, length_append → X6, getD_eq_getElem?_getD → X7, getElem?_eq_getElem → X8
namespace Go.Proofs.YtllnmicmblbfaaaGreat
open Go Go.Eng
theorem rOf13 (cs : List Int) (n : Nat) (hn : n < 2 ^ 40) (c3 : C) (s : Int) (a : Nat) (ha : a < 2 ^ 40) (u0 x0 : Nat) (hu0 : u0 < 2 ^ 40) (hl0 : u0 < cs.length) (hx0 : cs.getD u0 0 = (x0 : Int)) (hxl0 : x0 < 2 ^ 40) : Pr Tryz.prog 9 [.agg [.int .i64 13, .ints .i64 [(a : Int)], .ints .i64 [(u0 : Int)], c3, .int .i64 s], .one (QsC []), .one (.ints .i64 cs), .one (.int .i64 n)] (LV [subM (dotM (wayM x0 a) (wayM x0 a)) (mulM (varM (2 * n + u0)) (varM (2 * n + u0)))]) := by
  have bR0 := NF.var (v := 2 * (n : Int) + u0) (by omega) (by omega)
  have bWx0a := NW.way x0 a hxl0 ha
  have bDWx0aWx0a := NW.dot bWx0a bWx0a
  have bQ := NF.mul bR0 bR0
  have bS := NF.sub bDWx0aWx0a bQ
  have cWx0a := tW x0 a hxl0 ha
  have cDWx0aWx0a := two_dot bWx0a bWx0a (by decide) (by decide)
  have cQ := two_sq bR0 (by decide)
  have cS := two_sub bDWx0aWx0a bQ (by decide)
  have w0 : IntKind.i64.wrap (2 * (n : Int)) = 2 * (n : Int) := IntWalk.i64_in _ (by omega)
  have y0 : IntKind.i64.wrap (2 * (n : Int) + u0) = 2 * (n : Int) + u0 := IntWalk.i64_in _ (by omega)
  refine pv T_ok mixed Tryz.func9 rfl (by decide) _ (by simp [Tryz.ntmps9]) ⟨[0, 1, 2, 3, 4, 8, 9, 10, 11, 12, 13, 14, 15, 16, 17, 18, 19, 20, 21, 31, 69, 88, 105, 106, 126, 135, 141, 155, 167, 173, 179, 189, 211, 234, 248, 262, 276, 282, 288, 311], [(9, .nil), (11, .nil)]⟩ (by kernel_rfl) _ ?_
  show vc T _ _ (Option.get! Tryz.f9.body) _ _
  simp only [Tryz.f9,Tryz.ntmps9,Option.get!,iS,iM,eO,J1]
  simp only [vx,T,K5,J0,K6,K7,↓reduceIte,J1,J2,J3,J4,J5,J6,J7,J8,J9,reduceCtorEq,K1,K2,K3,K4,QsC,qC,w0,y0,hx0]
  refine ⟨fun h => absurd h (by simp), fun _ => Lg ?_⟩
  simp only [vx,T,K5,J0,K6,K7,↓reduceIte,J1,J2,J3,J4,J5,J6,J7,J8,J9,reduceCtorEq,K1,K2,K3,K4,VV,PV,PC,LV,LC,X0,X1,QV,QC,qC,w0,y0,hx0]
  (repeat refine ⟨by omega, ?_⟩)
  refine Cg (tW a 0 ha (by decide)).2 ?_
  simp only [vx,T,K5,J0,K6,K7,↓reduceIte,J1,J2,J3,J4,J5,J6,J7,J8,J9,reduceCtorEq,K1,K2,K3,K4,VV,PV,PC,LV,LC,X0,X1,QV,QC,qC,w0,y0,hx0]
  (repeat refine ⟨by omega, ?_⟩)
  refine Cg (tW 0 0 (by decide) (by decide)).2 ?_
  simp only [vx,T,K5,J0,K6,K7,↓reduceIte,J1,J2,J3,J4,J5,J6,J7,J8,J9,reduceCtorEq,K1,K2,K3,K4,VV,PV,PC,LV,LC,X0,X1,QV,QC,qC,w0,y0,hx0]
  (repeat refine ⟨by omega, ?_⟩)
  refine Cg (tW 0 a (by decide) ha).2 ?_
  simp only [vx,T,K5,J0,K6,K7,↓reduceIte,J1,J2,J3,J4,J5,J6,J7,J8,J9,reduceCtorEq,K1,K2,K3,K4,VV,PV,PC,LV,LC,X0,X1,QV,QC,qC,w0,y0,hx0]
  (repeat refine ⟨by omega, ?_⟩)
  refine Cg (tW 0 0 (by decide) (by decide)).2 ?_
  simp only [vx,T,K5,J0,K6,K7,↓reduceIte,J1,J2,J3,J4,J5,J6,J7,J8,J9,reduceCtorEq,K1,K2,K3,K4,VV,PV,PC,LV,LC,X0,X1,QV,QC,qC,w0,y0,hx0]
  refine ⟨fun _ => Lg ?_, fun h => absurd (by simp) h⟩
  simp only [vx,T,K5,J0,K6,K7,↓reduceIte,J1,J2,J3,J4,J5,J6,J7,J8,J9,reduceCtorEq,K1,K2,K3,K4,VV,PV,PC,LV,LC,X0,X1,QV,QC,qC,w0,y0,hx0]
  (repeat refine ⟨by omega, ?_⟩)
  refine Cg (two_var (2 * n + u0)).2 ?_
  simp only [vx,T,K5,J0,K6,K7,↓reduceIte,J1,J2,J3,J4,J5,J6,J7,J8,J9,reduceCtorEq,K1,K2,K3,K4,VV,PV,PC,LV,LC,X0,X1,QV,QC,qC,w0,y0,hx0]
  refine ⟨by omega, ⟨by omega, by omega⟩, ?_⟩
  refine ⟨fun h => absurd h (by simp), fun _ => Lg ?_⟩
  simp only [vx,T,K5,J0,K6,K7,↓reduceIte,J1,J2,J3,J4,J5,J6,J7,J8,J9,reduceCtorEq,K1,K2,K3,K4,VV,PV,PC,LV,LC,X0,X1,QV,QC,qC,w0,y0,hx0]
  (repeat refine ⟨by omega, ?_⟩)
  refine Cg cWx0a.2 ?_
  simp only [vx,T,K5,J0,K6,K7,↓reduceIte,J1,J2,J3,J4,J5,J6,J7,J8,J9,reduceCtorEq,K1,K2,K3,K4,VV,PV,PC,LV,LC,X0,X1,QV,QC,qC,w0,y0,hx0]
  (repeat refine ⟨by omega, ?_⟩)
  refine Cg cDWx0aWx0a.2 ?_
  simp only [vx,T,K5,J0,K6,K7,↓reduceIte,J1,J2,J3,J4,J5,J6,J7,J8,J9,reduceCtorEq,K1,K2,K3,K4,VV,PV,PC,LV,LC,X0,X1,QV,QC,qC,w0,y0,hx0]
  (repeat refine ⟨by omega, ?_⟩)
  refine Cg cQ.2 ?_
  simp only [vx,T,K5,J0,K6,K7,↓reduceIte,J1,J2,J3,J4,J5,J6,J7,J8,J9,reduceCtorEq,K1,K2,K3,K4,VV,PV,PC,LV,LC,X0,X1,QV,QC,qC,w0,y0,hx0]
  (repeat refine ⟨by omega, ?_⟩)
  refine Cg cS.2 ?_
  simp only [vx,T,K5,J0,K6,K7,↓reduceIte,J1,J2,J3,J4,J5,J6,J7,J8,J9,reduceCtorEq,K1,K2,K3,K4,VV,PV,PC,LV,LC,X0,X1,QV,QC,qC,w0,y0,hx0]
  refine Va ⟨rfl, rfl, fun i' j' hi' hj' => ?_⟩
  obtain rfl : j' = 0 := by omega
  obtain rfl : i' = 0 := by omega
  rfl
theorem rOf14 (cs : List Int) (n : Nat) (hn : n < 2 ^ 40) (c3 : C) (s : Int) (q0 : Rat) (hq0 : qm q0 ≤ 4) (u0 x0 : Nat) (hu0 : u0 < 2 ^ 40) (hl0 : u0 < cs.length) (hx0 : cs.getD u0 0 = (x0 : Int)) (hxl0 : x0 < 2 ^ 40) : Pr Tryz.prog 9 [.agg [.int .i64 14, .ints .i64 [], .ints .i64 [(u0 : Int)], c3, .int .i64 s], .one (QsC [q0]), .one (.ints .i64 cs), .one (.int .i64 n)] (LV [subM (varM (2 * n + u0)) (norM [(q0, [])])]) := by
  have bR0 := NF.var (v := 2 * (n : Int) + u0) (by omega) (by omega)
  have bV0 := NF.num hq0
  have bS := NF.sub bR0 bV0
  have cS := two_sub bR0 bV0 (by decide)
  have w0 : IntKind.i64.wrap (2 * (n : Int)) = 2 * (n : Int) := IntWalk.i64_in _ (by omega)
  have y0 : IntKind.i64.wrap (2 * (n : Int) + u0) = 2 * (n : Int) + u0 := IntWalk.i64_in _ (by omega)
  refine pv T_ok mixed Tryz.func9 rfl (by decide) _ (by simp [Tryz.ntmps9]) ⟨[0, 1, 2, 3, 4, 8, 9, 10, 11, 12, 13, 14, 15, 16, 17, 18, 19, 20, 21, 31, 69, 88, 105, 106, 126, 135, 141, 155, 167, 173, 179, 189, 211, 234, 248, 262, 276, 282, 288, 311], [(9, .nil), (11, .nil)]⟩ (by kernel_rfl) _ ?_
  show vc T _ _ (Option.get! Tryz.f9.body) _ _
  simp only [Tryz.f9,Tryz.ntmps9,Option.get!,iS,iM,eO,J1]
  simp only [vx,T,K5,J0,K6,K7,↓reduceIte,J1,J2,J3,J4,J5,J6,J7,J8,J9,reduceCtorEq,K1,K2,K3,K4,QsC,qC,w0,y0,hx0]
  refine ⟨fun _ => Lg ?_, fun h => absurd (by simp) h⟩
  simp only [vx,T,K5,J0,K6,K7,↓reduceIte,J1,J2,J3,J4,J5,J6,J7,J8,J9,reduceCtorEq,K1,K2,K3,K4,VV,PV,PC,LV,LC,X0,X1,QV,QC,qC,w0,y0,hx0]
  (repeat refine ⟨by omega, ?_⟩)
  refine Cg (two_num q0 hq0 (by decide)).2 ?_
  simp only [vx,T,K5,J0,K6,K7,↓reduceIte,J1,J2,J3,J4,J5,J6,J7,J8,J9,reduceCtorEq,K1,K2,K3,K4,VV,PV,PC,LV,LC,X0,X1,QV,QC,qC,w0,y0,hx0]
  (repeat refine ⟨by omega, ?_⟩)
  refine Cg (tW 0 0 (by decide) (by decide)).2 ?_
  simp only [vx,T,K5,J0,K6,K7,↓reduceIte,J1,J2,J3,J4,J5,J6,J7,J8,J9,reduceCtorEq,K1,K2,K3,K4,VV,PV,PC,LV,LC,X0,X1,QV,QC,qC,w0,y0,hx0]
  (repeat refine ⟨by omega, ?_⟩)
  refine Cg (tW 0 0 (by decide) (by decide)).2 ?_
  simp only [vx,T,K5,J0,K6,K7,↓reduceIte,J1,J2,J3,J4,J5,J6,J7,J8,J9,reduceCtorEq,K1,K2,K3,K4,VV,PV,PC,LV,LC,X0,X1,QV,QC,qC,w0,y0,hx0]
  (repeat refine ⟨by omega, ?_⟩)
  refine Cg (tW 0 0 (by decide) (by decide)).2 ?_
  simp only [vx,T,K5,J0,K6,K7,↓reduceIte,J1,J2,J3,J4,J5,J6,J7,J8,J9,reduceCtorEq,K1,K2,K3,K4,VV,PV,PC,LV,LC,X0,X1,QV,QC,qC,w0,y0,hx0]
  (repeat refine ⟨by omega, ?_⟩)
  refine Cg (tW 0 0 (by decide) (by decide)).2 ?_
  simp only [vx,T,K5,J0,K6,K7,↓reduceIte,J1,J2,J3,J4,J5,J6,J7,J8,J9,reduceCtorEq,K1,K2,K3,K4,VV,PV,PC,LV,LC,X0,X1,QV,QC,qC,w0,y0,hx0]
  refine ⟨fun _ => Lg ?_, fun h => absurd (by simp) h⟩
  simp only [vx,T,K5,J0,K6,K7,↓reduceIte,J1,J2,J3,J4,J5,J6,J7,J8,J9,reduceCtorEq,K1,K2,K3,K4,VV,PV,PC,LV,LC,X0,X1,QV,QC,qC,w0,y0,hx0]
  (repeat refine ⟨by omega, ?_⟩)
  refine Cg (two_var (2 * n + u0)).2 ?_
  simp only [vx,T,K5,J0,K6,K7,↓reduceIte,J1,J2,J3,J4,J5,J6,J7,J8,J9,reduceCtorEq,K1,K2,K3,K4,VV,PV,PC,LV,LC,X0,X1,QV,QC,qC,w0,y0,hx0]
  refine ⟨by omega, ⟨by omega, by omega⟩, ?_⟩
  refine ⟨fun h => absurd h (by simp), fun _ => Lg ?_⟩
  simp only [vx,T,K5,J0,K6,K7,↓reduceIte,J1,J2,J3,J4,J5,J6,J7,J8,J9,reduceCtorEq,K1,K2,K3,K4,VV,PV,PC,LV,LC,X0,X1,QV,QC,qC,w0,y0,hx0]
  (repeat refine ⟨by omega, ?_⟩)
  refine Cg cS.2 ?_
  simp only [vx,T,K5,J0,K6,K7,↓reduceIte,J1,J2,J3,J4,J5,J6,J7,J8,J9,reduceCtorEq,K1,K2,K3,K4,VV,PV,PC,LV,LC,X0,X1,QV,QC,qC,w0,y0,hx0]
  refine Va ⟨rfl, rfl, fun i' j' hi' hj' => ?_⟩
  obtain rfl : j' = 0 := by omega
  obtain rfl : i' = 0 := by omega
  rfl
theorem rOf15 (cs : List Int) (n : Nat) (hn : n < 2 ^ 40) (c3 : C) (s : Int) (u0 x0 : Nat) (hu0 : u0 < 2 ^ 40) (hl0 : u0 < cs.length) (hx0 : cs.getD u0 0 = (x0 : Int)) (hxl0 : x0 < 2 ^ 40) (u1 x1 : Nat) (hu1 : u1 < 2 ^ 40) (hl1 : u1 < cs.length) (hx1 : cs.getD u1 0 = (x1 : Int)) (hxl1 : x1 < 2 ^ 40) : Pr Tryz.prog 9 [.agg [.int .i64 15, .ints .i64 [], .ints .i64 [(u0 : Int), (u1 : Int)], c3, .int .i64 s], .one (QsC []), .one (.ints .i64 cs), .one (.int .i64 n)] (LV [subM (varM (2 * n + u0)) (varM (2 * n + u1))]) := by
  have bR0 := NF.var (v := 2 * (n : Int) + u0) (by omega) (by omega)
  have bR1 := NF.var (v := 2 * (n : Int) + u1) (by omega) (by omega)
  have bS := NF.sub bR0 bR1
  have cS := two_sub bR0 bR1 (by decide)
  have w0 : IntKind.i64.wrap (2 * (n : Int)) = 2 * (n : Int) := IntWalk.i64_in _ (by omega)
  have y0 : IntKind.i64.wrap (2 * (n : Int) + u0) = 2 * (n : Int) + u0 := IntWalk.i64_in _ (by omega)
  have w1 : IntKind.i64.wrap (2 * (n : Int)) = 2 * (n : Int) := IntWalk.i64_in _ (by omega)
  have y1 : IntKind.i64.wrap (2 * (n : Int) + u1) = 2 * (n : Int) + u1 := IntWalk.i64_in _ (by omega)
  refine pv T_ok mixed Tryz.func9 rfl (by decide) _ (by simp [Tryz.ntmps9]) ⟨[0, 1, 2, 3, 4, 8, 9, 10, 11, 12, 13, 14, 15, 16, 17, 18, 19, 20, 21, 31, 69, 88, 105, 106, 126, 135, 141, 155, 167, 173, 179, 189, 211, 234, 248, 262, 276, 282, 288, 311], [(9, .nil), (11, .nil)]⟩ (by kernel_rfl) _ ?_
  show vc T _ _ (Option.get! Tryz.f9.body) _ _
  simp only [Tryz.f9,Tryz.ntmps9,Option.get!,iS,iM,eO,J1]
  simp only [vx,T,K5,J0,K6,K7,↓reduceIte,J1,J2,J3,J4,J5,J6,J7,J8,J9,reduceCtorEq,K1,K2,K3,K4,QsC,qC,w0,y0,hx0,w1,y1,hx1]
  refine ⟨fun h => absurd h (by simp), fun _ => Lg ?_⟩
  simp only [vx,T,K5,J0,K6,K7,↓reduceIte,J1,J2,J3,J4,J5,J6,J7,J8,J9,reduceCtorEq,K1,K2,K3,K4,VV,PV,PC,LV,LC,X0,X1,QV,QC,qC,w0,y0,hx0,w1,y1,hx1]
  (repeat refine ⟨by omega, ?_⟩)
  refine Cg (tW 0 0 (by decide) (by decide)).2 ?_
  simp only [vx,T,K5,J0,K6,K7,↓reduceIte,J1,J2,J3,J4,J5,J6,J7,J8,J9,reduceCtorEq,K1,K2,K3,K4,VV,PV,PC,LV,LC,X0,X1,QV,QC,qC,w0,y0,hx0,w1,y1,hx1]
  (repeat refine ⟨by omega, ?_⟩)
  refine Cg (tW 0 0 (by decide) (by decide)).2 ?_
  simp only [vx,T,K5,J0,K6,K7,↓reduceIte,J1,J2,J3,J4,J5,J6,J7,J8,J9,reduceCtorEq,K1,K2,K3,K4,VV,PV,PC,LV,LC,X0,X1,QV,QC,qC,w0,y0,hx0,w1,y1,hx1]
  (repeat refine ⟨by omega, ?_⟩)
  refine Cg (tW 0 0 (by decide) (by decide)).2 ?_
  simp only [vx,T,K5,J0,K6,K7,↓reduceIte,J1,J2,J3,J4,J5,J6,J7,J8,J9,reduceCtorEq,K1,K2,K3,K4,VV,PV,PC,LV,LC,X0,X1,QV,QC,qC,w0,y0,hx0,w1,y1,hx1]
  (repeat refine ⟨by omega, ?_⟩)
  refine Cg (tW 0 0 (by decide) (by decide)).2 ?_
  simp only [vx,T,K5,J0,K6,K7,↓reduceIte,J1,J2,J3,J4,J5,J6,J7,J8,J9,reduceCtorEq,K1,K2,K3,K4,VV,PV,PC,LV,LC,X0,X1,QV,QC,qC,w0,y0,hx0,w1,y1,hx1]
  refine ⟨fun _ => Lg ?_, fun h => absurd (by simp) h⟩
  simp only [vx,T,K5,J0,K6,K7,↓reduceIte,J1,J2,J3,J4,J5,J6,J7,J8,J9,reduceCtorEq,K1,K2,K3,K4,VV,PV,PC,LV,LC,X0,X1,QV,QC,qC,w0,y0,hx0,w1,y1,hx1]
  (repeat refine ⟨by omega, ?_⟩)
  refine Cg (two_var (2 * n + u0)).2 ?_
  simp only [vx,T,K5,J0,K6,K7,↓reduceIte,J1,J2,J3,J4,J5,J6,J7,J8,J9,reduceCtorEq,K1,K2,K3,K4,VV,PV,PC,LV,LC,X0,X1,QV,QC,qC,w0,y0,hx0,w1,y1,hx1]
  refine ⟨by omega, ⟨by omega, by omega⟩, ?_⟩
  refine ⟨fun _ => Lg ?_, fun h => absurd (by simp) h⟩
  simp only [vx,T,K5,J0,K6,K7,↓reduceIte,J1,J2,J3,J4,J5,J6,J7,J8,J9,reduceCtorEq,K1,K2,K3,K4,VV,PV,PC,LV,LC,X0,X1,QV,QC,qC,w0,y0,hx0,w1,y1,hx1]
  (repeat refine ⟨by omega, ?_⟩)
  refine Cg (two_var (2 * n + u1)).2 ?_
  simp only [vx,T,K5,J0,K6,K7,↓reduceIte,J1,J2,J3,J4,J5,J6,J7,J8,J9,reduceCtorEq,K1,K2,K3,K4,VV,PV,PC,LV,LC,X0,X1,QV,QC,qC,w0,y0,hx0,w1,y1,hx1]
  refine ⟨by omega, ⟨by omega, by omega⟩, ?_⟩
  (repeat refine ⟨by omega, ?_⟩)
  refine Cg cS.2 ?_
  simp only [vx,T,K5,J0,K6,K7,↓reduceIte,J1,J2,J3,J4,J5,J6,J7,J8,J9,reduceCtorEq,K1,K2,K3,K4,VV,PV,PC,LV,LC,X0,X1,QV,QC,qC,w0,y0,hx0,w1,y1,hx1]
  refine Va ⟨rfl, rfl, fun i' j' hi' hj' => ?_⟩
  obtain rfl : j' = 0 := by omega
  obtain rfl : i' = 0 := by omega
  rfl
theorem rOf16 (cs : List Int) (n : Nat) (hn : n < 2 ^ 40) (c3 : C) (s : Int) (a b : Nat) (ha : a < 2 ^ 40) (hb : b < 2 ^ 40) (u0 x0 : Nat) (hu0 : u0 < 2 ^ 40) (hl0 : u0 < cs.length) (hx0 : cs.getD u0 0 = (x0 : Int)) (hxl0 : x0 < 2 ^ 40) : Pr Tryz.prog 9 [.agg [.int .i64 16, .ints .i64 [(a : Int), (b : Int)], .ints .i64 [(u0 : Int)], c3, .int .i64 s], .one (QsC []), .one (.ints .i64 cs), .one (.int .i64 n)] (LV [subM (mulM (crossM (wayM a b) (wayM a x0)) (crossM (wayM a b) (wayM a x0))) (mulM (mulM (varM (2 * n + u0)) (varM (2 * n + u0))) (dotM (wayM a b) (wayM a b)))]) := by
  have bR0 := NF.var (v := 2 * (n : Int) + u0) (by omega) (by omega)
  have bWab := NW.way a b ha hb
  have bWax0 := NW.way a x0 ha hxl0
  have bCWabWax0 := NW.cross bWab bWax0
  have bQ := NF.mul bCWabWax0 bCWabWax0
  have bQ2 := NF.mul bR0 bR0
  have bDWabWab := NW.dot bWab bWab
  have bM := NF.mul bQ2 bDWabWab
  have bS := NF.sub bQ bM
  have cWax0 := tW a x0 ha hxl0
  have cCWabWax0 := two_cross bWab bWax0 (by decide) (by decide)
  have cQ := two_sq bCWabWax0 (by decide)
  have cQ2 := two_sq bR0 (by decide)
  have cDWabWab := two_dot bWab bWab (by decide) (by decide)
  have cM := two_mul bQ2 bDWabWab (by decide)
  have cS := two_sub bQ bM (by decide)
  have w0 : IntKind.i64.wrap (2 * (n : Int)) = 2 * (n : Int) := IntWalk.i64_in _ (by omega)
  have y0 : IntKind.i64.wrap (2 * (n : Int) + u0) = 2 * (n : Int) + u0 := IntWalk.i64_in _ (by omega)
  refine pv T_ok mixed Tryz.func9 rfl (by decide) _ (by simp [Tryz.ntmps9]) ⟨[0, 1, 2, 3, 4, 8, 9, 10, 11, 12, 13, 14, 15, 16, 17, 18, 19, 20, 21, 31, 69, 88, 105, 106, 126, 135, 141, 155, 167, 173, 179, 189, 211, 234, 248, 262, 276, 282, 288, 311], [(9, .nil), (11, .nil)]⟩ (by kernel_rfl) _ ?_
  show vc T _ _ (Option.get! Tryz.f9.body) _ _
  simp only [Tryz.f9,Tryz.ntmps9,Option.get!,iS,iM,eO,J1]
  simp only [vx,T,K5,J0,K6,K7,↓reduceIte,J1,J2,J3,J4,J5,J6,J7,J8,J9,reduceCtorEq,K1,K2,K3,K4,QsC,qC,w0,y0,hx0]
  refine ⟨fun h => absurd h (by simp), fun _ => Lg ?_⟩
  simp only [vx,T,K5,J0,K6,K7,↓reduceIte,J1,J2,J3,J4,J5,J6,J7,J8,J9,reduceCtorEq,K1,K2,K3,K4,VV,PV,PC,LV,LC,X0,X1,QV,QC,qC,w0,y0,hx0]
  (repeat refine ⟨by omega, ?_⟩)
  refine Cg (tW a b ha hb).2 ?_
  simp only [vx,T,K5,J0,K6,K7,↓reduceIte,J1,J2,J3,J4,J5,J6,J7,J8,J9,reduceCtorEq,K1,K2,K3,K4,VV,PV,PC,LV,LC,X0,X1,QV,QC,qC,w0,y0,hx0]
  (repeat refine ⟨by omega, ?_⟩)
  refine Cg (tW b 0 hb (by decide)).2 ?_
  simp only [vx,T,K5,J0,K6,K7,↓reduceIte,J1,J2,J3,J4,J5,J6,J7,J8,J9,reduceCtorEq,K1,K2,K3,K4,VV,PV,PC,LV,LC,X0,X1,QV,QC,qC,w0,y0,hx0]
  (repeat refine ⟨by omega, ?_⟩)
  refine Cg (tW b a hb ha).2 ?_
  simp only [vx,T,K5,J0,K6,K7,↓reduceIte,J1,J2,J3,J4,J5,J6,J7,J8,J9,reduceCtorEq,K1,K2,K3,K4,VV,PV,PC,LV,LC,X0,X1,QV,QC,qC,w0,y0,hx0]
  (repeat refine ⟨by omega, ?_⟩)
  refine Cg (tW 0 0 (by decide) (by decide)).2 ?_
  simp only [vx,T,K5,J0,K6,K7,↓reduceIte,J1,J2,J3,J4,J5,J6,J7,J8,J9,reduceCtorEq,K1,K2,K3,K4,VV,PV,PC,LV,LC,X0,X1,QV,QC,qC,w0,y0,hx0]
  refine ⟨fun _ => Lg ?_, fun h => absurd (by simp) h⟩
  simp only [vx,T,K5,J0,K6,K7,↓reduceIte,J1,J2,J3,J4,J5,J6,J7,J8,J9,reduceCtorEq,K1,K2,K3,K4,VV,PV,PC,LV,LC,X0,X1,QV,QC,qC,w0,y0,hx0]
  (repeat refine ⟨by omega, ?_⟩)
  refine Cg (two_var (2 * n + u0)).2 ?_
  simp only [vx,T,K5,J0,K6,K7,↓reduceIte,J1,J2,J3,J4,J5,J6,J7,J8,J9,reduceCtorEq,K1,K2,K3,K4,VV,PV,PC,LV,LC,X0,X1,QV,QC,qC,w0,y0,hx0]
  refine ⟨by omega, ⟨by omega, by omega⟩, ?_⟩
  refine ⟨fun h => absurd h (by simp), fun _ => Lg ?_⟩
  simp only [vx,T,K5,J0,K6,K7,↓reduceIte,J1,J2,J3,J4,J5,J6,J7,J8,J9,reduceCtorEq,K1,K2,K3,K4,VV,PV,PC,LV,LC,X0,X1,QV,QC,qC,w0,y0,hx0]
  (repeat refine ⟨by omega, ?_⟩)
  refine Cg cWax0.2 ?_
  simp only [vx,T,K5,J0,K6,K7,↓reduceIte,J1,J2,J3,J4,J5,J6,J7,J8,J9,reduceCtorEq,K1,K2,K3,K4,VV,PV,PC,LV,LC,X0,X1,QV,QC,qC,w0,y0,hx0]
  (repeat refine ⟨by omega, ?_⟩)
  refine Cg cCWabWax0.2 ?_
  simp only [vx,T,K5,J0,K6,K7,↓reduceIte,J1,J2,J3,J4,J5,J6,J7,J8,J9,reduceCtorEq,K1,K2,K3,K4,VV,PV,PC,LV,LC,X0,X1,QV,QC,qC,w0,y0,hx0]
  (repeat refine ⟨by omega, ?_⟩)
  refine Cg cQ.2 ?_
  simp only [vx,T,K5,J0,K6,K7,↓reduceIte,J1,J2,J3,J4,J5,J6,J7,J8,J9,reduceCtorEq,K1,K2,K3,K4,VV,PV,PC,LV,LC,X0,X1,QV,QC,qC,w0,y0,hx0]
  (repeat refine ⟨by omega, ?_⟩)
  refine Cg cQ2.2 ?_
  simp only [vx,T,K5,J0,K6,K7,↓reduceIte,J1,J2,J3,J4,J5,J6,J7,J8,J9,reduceCtorEq,K1,K2,K3,K4,VV,PV,PC,LV,LC,X0,X1,QV,QC,qC,w0,y0,hx0]
  (repeat refine ⟨by omega, ?_⟩)
  refine Cg cDWabWab.2 ?_
  simp only [vx,T,K5,J0,K6,K7,↓reduceIte,J1,J2,J3,J4,J5,J6,J7,J8,J9,reduceCtorEq,K1,K2,K3,K4,VV,PV,PC,LV,LC,X0,X1,QV,QC,qC,w0,y0,hx0]
  (repeat refine ⟨by omega, ?_⟩)
  refine Cg cM.2 ?_
  simp only [vx,T,K5,J0,K6,K7,↓reduceIte,J1,J2,J3,J4,J5,J6,J7,J8,J9,reduceCtorEq,K1,K2,K3,K4,VV,PV,PC,LV,LC,X0,X1,QV,QC,qC,w0,y0,hx0]
  (repeat refine ⟨by omega, ?_⟩)
  refine Cg cS.2 ?_
  simp only [vx,T,K5,J0,K6,K7,↓reduceIte,J1,J2,J3,J4,J5,J6,J7,J8,J9,reduceCtorEq,K1,K2,K3,K4,VV,PV,PC,LV,LC,X0,X1,QV,QC,qC,w0,y0,hx0]
  refine Va ⟨rfl, rfl, fun i' j' hi' hj' => ?_⟩
  obtain rfl : j' = 0 := by omega
  obtain rfl : i' = 0 := by omega
  rfl
theorem rOf17p (cs : List Int) (n : Nat) (hn : n < 2 ^ 40) (c3 : C) (u0 x0 : Nat) (hu0 : u0 < 2 ^ 40) (hl0 : u0 < cs.length) (hx0 : cs.getD u0 0 = (x0 : Int)) (hxl0 : x0 < 2 ^ 40) (u1 x1 : Nat) (hu1 : u1 < 2 ^ 40) (hl1 : u1 < cs.length) (hx1 : cs.getD u1 0 = (x1 : Int)) (hxl1 : x1 < 2 ^ 40) : Pr Tryz.prog 9 [.agg [.int .i64 17, .ints .i64 [], .ints .i64 [(u0 : Int), (u1 : Int)], c3, .int .i64 1], .one (QsC []), .one (.ints .i64 cs), .one (.int .i64 n)] (LV [subM (dotM (wayM x0 x1) (wayM x0 x1)) (mulM (norM ((varM (2 * n + u0)) ++ (varM (2 * n + u1)))) (norM ((varM (2 * n + u0)) ++ (varM (2 * n + u1)))))]) := by
  have bR0 := NF.var (v := 2 * (n : Int) + u0) (by omega) (by omega)
  have bR1 := NF.var (v := 2 * (n : Int) + u1) (by omega) (by omega)
  have bWxx := NW.way x0 x1 hxl0 hxl1
  have bA := NF.add bR0 bR1
  have bDWxxWxx := NW.dot bWxx bWxx
  have bQ := NF.mul bA bA
  have bS := NF.sub bDWxxWxx bQ
  have cWxx := tW x0 x1 hxl0 hxl1
  have cA := two_add bR0 bR1 (by decide)
  have cDWxxWxx := two_dot bWxx bWxx (by decide) (by decide)
  have cQ := two_sq bA (by decide)
  have cS := two_sub bDWxxWxx bQ (by decide)
  have w0 : IntKind.i64.wrap (2 * (n : Int)) = 2 * (n : Int) := IntWalk.i64_in _ (by omega)
  have y0 : IntKind.i64.wrap (2 * (n : Int) + u0) = 2 * (n : Int) + u0 := IntWalk.i64_in _ (by omega)
  have w1 : IntKind.i64.wrap (2 * (n : Int)) = 2 * (n : Int) := IntWalk.i64_in _ (by omega)
  have y1 : IntKind.i64.wrap (2 * (n : Int) + u1) = 2 * (n : Int) + u1 := IntWalk.i64_in _ (by omega)
  refine pv T_ok mixed Tryz.func9 rfl (by decide) _ (by simp [Tryz.ntmps9]) ⟨[0, 1, 2, 3, 4, 8, 9, 10, 11, 12, 13, 14, 15, 16, 17, 18, 19, 20, 21, 31, 69, 88, 105, 106, 126, 135, 141, 155, 167, 173, 179, 189, 211, 234, 248, 262, 276, 282, 288, 311], [(9, .nil), (11, .nil)]⟩ (by kernel_rfl) _ ?_
  show vc T _ _ (Option.get! Tryz.f9.body) _ _
  simp only [Tryz.f9,Tryz.ntmps9,Option.get!,iS,iM,eO,J1]
  simp only [vx,T,K5,J0,K6,K7,↓reduceIte,J1,J2,J3,J4,J5,J6,J7,J8,J9,reduceCtorEq,K1,K2,K3,K4,QsC,qC,w0,y0,hx0,w1,y1,hx1]
  refine ⟨fun h => absurd h (by simp), fun _ => Lg ?_⟩
  simp only [vx,T,K5,J0,K6,K7,↓reduceIte,J1,J2,J3,J4,J5,J6,J7,J8,J9,reduceCtorEq,K1,K2,K3,K4,VV,PV,PC,LV,LC,X0,X1,QV,QC,qC,w0,y0,hx0,w1,y1,hx1]
  (repeat refine ⟨by omega, ?_⟩)
  refine Cg (tW 0 0 (by decide) (by decide)).2 ?_
  simp only [vx,T,K5,J0,K6,K7,↓reduceIte,J1,J2,J3,J4,J5,J6,J7,J8,J9,reduceCtorEq,K1,K2,K3,K4,VV,PV,PC,LV,LC,X0,X1,QV,QC,qC,w0,y0,hx0,w1,y1,hx1]
  (repeat refine ⟨by omega, ?_⟩)
  refine Cg (tW 0 0 (by decide) (by decide)).2 ?_
  simp only [vx,T,K5,J0,K6,K7,↓reduceIte,J1,J2,J3,J4,J5,J6,J7,J8,J9,reduceCtorEq,K1,K2,K3,K4,VV,PV,PC,LV,LC,X0,X1,QV,QC,qC,w0,y0,hx0,w1,y1,hx1]
  (repeat refine ⟨by omega, ?_⟩)
  refine Cg (tW 0 0 (by decide) (by decide)).2 ?_
  simp only [vx,T,K5,J0,K6,K7,↓reduceIte,J1,J2,J3,J4,J5,J6,J7,J8,J9,reduceCtorEq,K1,K2,K3,K4,VV,PV,PC,LV,LC,X0,X1,QV,QC,qC,w0,y0,hx0,w1,y1,hx1]
  (repeat refine ⟨by omega, ?_⟩)
  refine Cg (tW 0 0 (by decide) (by decide)).2 ?_
  simp only [vx,T,K5,J0,K6,K7,↓reduceIte,J1,J2,J3,J4,J5,J6,J7,J8,J9,reduceCtorEq,K1,K2,K3,K4,VV,PV,PC,LV,LC,X0,X1,QV,QC,qC,w0,y0,hx0,w1,y1,hx1]
  refine ⟨fun _ => Lg ?_, fun h => absurd (by simp) h⟩
  simp only [vx,T,K5,J0,K6,K7,↓reduceIte,J1,J2,J3,J4,J5,J6,J7,J8,J9,reduceCtorEq,K1,K2,K3,K4,VV,PV,PC,LV,LC,X0,X1,QV,QC,qC,w0,y0,hx0,w1,y1,hx1]
  (repeat refine ⟨by omega, ?_⟩)
  refine Cg (two_var (2 * n + u0)).2 ?_
  simp only [vx,T,K5,J0,K6,K7,↓reduceIte,J1,J2,J3,J4,J5,J6,J7,J8,J9,reduceCtorEq,K1,K2,K3,K4,VV,PV,PC,LV,LC,X0,X1,QV,QC,qC,w0,y0,hx0,w1,y1,hx1]
  refine ⟨by omega, ⟨by omega, by omega⟩, ?_⟩
  refine ⟨fun _ => Lg ?_, fun h => absurd (by simp) h⟩
  simp only [vx,T,K5,J0,K6,K7,↓reduceIte,J1,J2,J3,J4,J5,J6,J7,J8,J9,reduceCtorEq,K1,K2,K3,K4,VV,PV,PC,LV,LC,X0,X1,QV,QC,qC,w0,y0,hx0,w1,y1,hx1]
  (repeat refine ⟨by omega, ?_⟩)
  refine Cg (two_var (2 * n + u1)).2 ?_
  simp only [vx,T,K5,J0,K6,K7,↓reduceIte,J1,J2,J3,J4,J5,J6,J7,J8,J9,reduceCtorEq,K1,K2,K3,K4,VV,PV,PC,LV,LC,X0,X1,QV,QC,qC,w0,y0,hx0,w1,y1,hx1]
  refine ⟨by omega, ⟨by omega, by omega⟩, ?_⟩
  (repeat refine ⟨by omega, ?_⟩)
  refine Cg cWxx.2 ?_
  simp only [vx,T,K5,J0,K6,K7,↓reduceIte,J1,J2,J3,J4,J5,J6,J7,J8,J9,reduceCtorEq,K1,K2,K3,K4,VV,PV,PC,LV,LC,X0,X1,QV,QC,qC,w0,y0,hx0,w1,y1,hx1]
  (repeat refine ⟨by omega, ?_⟩)
  refine Cg cDWxxWxx.2 ?_
  simp only [vx,T,K5,J0,K6,K7,↓reduceIte,J1,J2,J3,J4,J5,J6,J7,J8,J9,reduceCtorEq,K1,K2,K3,K4,VV,PV,PC,LV,LC,X0,X1,QV,QC,qC,w0,y0,hx0,w1,y1,hx1]
  (repeat refine ⟨by omega, ?_⟩)
  refine Cg cA.2 ?_
  simp only [vx,T,K5,J0,K6,K7,↓reduceIte,J1,J2,J3,J4,J5,J6,J7,J8,J9,reduceCtorEq,K1,K2,K3,K4,VV,PV,PC,LV,LC,X0,X1,QV,QC,qC,w0,y0,hx0,w1,y1,hx1]
  (repeat refine ⟨by omega, ?_⟩)
  refine Cg cQ.2 ?_
  simp only [vx,T,K5,J0,K6,K7,↓reduceIte,J1,J2,J3,J4,J5,J6,J7,J8,J9,reduceCtorEq,K1,K2,K3,K4,VV,PV,PC,LV,LC,X0,X1,QV,QC,qC,w0,y0,hx0,w1,y1,hx1]
  (repeat refine ⟨by omega, ?_⟩)
  refine Cg cS.2 ?_
  simp only [vx,T,K5,J0,K6,K7,↓reduceIte,J1,J2,J3,J4,J5,J6,J7,J8,J9,reduceCtorEq,K1,K2,K3,K4,VV,PV,PC,LV,LC,X0,X1,QV,QC,qC,w0,y0,hx0,w1,y1,hx1]
  refine Va ⟨rfl, rfl, fun i' j' hi' hj' => ?_⟩
  obtain rfl : j' = 0 := by omega
  obtain rfl : i' = 0 := by omega
  rfl
theorem rOf17m (cs : List Int) (n : Nat) (hn : n < 2 ^ 40) (c3 : C) (u0 x0 : Nat) (hu0 : u0 < 2 ^ 40) (hl0 : u0 < cs.length) (hx0 : cs.getD u0 0 = (x0 : Int)) (hxl0 : x0 < 2 ^ 40) (u1 x1 : Nat) (hu1 : u1 < 2 ^ 40) (hl1 : u1 < cs.length) (hx1 : cs.getD u1 0 = (x1 : Int)) (hxl1 : x1 < 2 ^ 40) : Pr Tryz.prog 9 [.agg [.int .i64 17, .ints .i64 [], .ints .i64 [(u0 : Int), (u1 : Int)], c3, .int .i64 (-1)], .one (QsC []), .one (.ints .i64 cs), .one (.int .i64 n)] (LV [subM (dotM (wayM x0 x1) (wayM x0 x1)) (mulM (subM (varM (2 * n + u0)) (varM (2 * n + u1))) (subM (varM (2 * n + u0)) (varM (2 * n + u1))))]) := by
  have bR0 := NF.var (v := 2 * (n : Int) + u0) (by omega) (by omega)
  have bR1 := NF.var (v := 2 * (n : Int) + u1) (by omega) (by omega)
  have bWxx := NW.way x0 x1 hxl0 hxl1
  have bA := NF.add bR0 bR1
  have bZ := NF.sub bR0 bR1
  have bDWxxWxx := NW.dot bWxx bWxx
  have bQ := NF.mul bZ bZ
  have bS := NF.sub bDWxxWxx bQ
  have cWxx := tW x0 x1 hxl0 hxl1
  have cZ := two_sub bR0 bR1 (by decide)
  have cDWxxWxx := two_dot bWxx bWxx (by decide) (by decide)
  have cQ := two_sq bZ (by decide)
  have cS := two_sub bDWxxWxx bQ (by decide)
  have w0 : IntKind.i64.wrap (2 * (n : Int)) = 2 * (n : Int) := IntWalk.i64_in _ (by omega)
  have y0 : IntKind.i64.wrap (2 * (n : Int) + u0) = 2 * (n : Int) + u0 := IntWalk.i64_in _ (by omega)
  have w1 : IntKind.i64.wrap (2 * (n : Int)) = 2 * (n : Int) := IntWalk.i64_in _ (by omega)
  have y1 : IntKind.i64.wrap (2 * (n : Int) + u1) = 2 * (n : Int) + u1 := IntWalk.i64_in _ (by omega)
  refine pv T_ok mixed Tryz.func9 rfl (by decide) _ (by simp [Tryz.ntmps9]) ⟨[0, 1, 2, 3, 4, 8, 9, 10, 11, 12, 13, 14, 15, 16, 17, 18, 19, 20, 21, 31, 69, 88, 105, 106, 126, 135, 141, 155, 167, 173, 179, 189, 211, 234, 248, 262, 276, 282, 288, 311], [(9, .nil), (11, .nil)]⟩ (by kernel_rfl) _ ?_
  show vc T _ _ (Option.get! Tryz.f9.body) _ _
  simp only [Tryz.f9,Tryz.ntmps9,Option.get!,iS,iM,eO,J1]
  simp only [vx,T,K5,J0,K6,K7,↓reduceIte,J1,J2,J3,J4,J5,J6,J7,J8,J9,reduceCtorEq,K1,K2,K3,K4,QsC,qC,w0,y0,hx0,w1,y1,hx1]
  refine ⟨fun h => absurd h (by simp), fun _ => Lg ?_⟩
  simp only [vx,T,K5,J0,K6,K7,↓reduceIte,J1,J2,J3,J4,J5,J6,J7,J8,J9,reduceCtorEq,K1,K2,K3,K4,VV,PV,PC,LV,LC,X0,X1,QV,QC,qC,w0,y0,hx0,w1,y1,hx1]
  (repeat refine ⟨by omega, ?_⟩)
  refine Cg (tW 0 0 (by decide) (by decide)).2 ?_
  simp only [vx,T,K5,J0,K6,K7,↓reduceIte,J1,J2,J3,J4,J5,J6,J7,J8,J9,reduceCtorEq,K1,K2,K3,K4,VV,PV,PC,LV,LC,X0,X1,QV,QC,qC,w0,y0,hx0,w1,y1,hx1]
  (repeat refine ⟨by omega, ?_⟩)
  refine Cg (tW 0 0 (by decide) (by decide)).2 ?_
  simp only [vx,T,K5,J0,K6,K7,↓reduceIte,J1,J2,J3,J4,J5,J6,J7,J8,J9,reduceCtorEq,K1,K2,K3,K4,VV,PV,PC,LV,LC,X0,X1,QV,QC,qC,w0,y0,hx0,w1,y1,hx1]
  (repeat refine ⟨by omega, ?_⟩)
  refine Cg (tW 0 0 (by decide) (by decide)).2 ?_
  simp only [vx,T,K5,J0,K6,K7,↓reduceIte,J1,J2,J3,J4,J5,J6,J7,J8,J9,reduceCtorEq,K1,K2,K3,K4,VV,PV,PC,LV,LC,X0,X1,QV,QC,qC,w0,y0,hx0,w1,y1,hx1]
  (repeat refine ⟨by omega, ?_⟩)
  refine Cg (tW 0 0 (by decide) (by decide)).2 ?_
  simp only [vx,T,K5,J0,K6,K7,↓reduceIte,J1,J2,J3,J4,J5,J6,J7,J8,J9,reduceCtorEq,K1,K2,K3,K4,VV,PV,PC,LV,LC,X0,X1,QV,QC,qC,w0,y0,hx0,w1,y1,hx1]
  refine ⟨fun _ => Lg ?_, fun h => absurd (by simp) h⟩
  simp only [vx,T,K5,J0,K6,K7,↓reduceIte,J1,J2,J3,J4,J5,J6,J7,J8,J9,reduceCtorEq,K1,K2,K3,K4,VV,PV,PC,LV,LC,X0,X1,QV,QC,qC,w0,y0,hx0,w1,y1,hx1]
  (repeat refine ⟨by omega, ?_⟩)
  refine Cg (two_var (2 * n + u0)).2 ?_
  simp only [vx,T,K5,J0,K6,K7,↓reduceIte,J1,J2,J3,J4,J5,J6,J7,J8,J9,reduceCtorEq,K1,K2,K3,K4,VV,PV,PC,LV,LC,X0,X1,QV,QC,qC,w0,y0,hx0,w1,y1,hx1]
  refine ⟨by omega, ⟨by omega, by omega⟩, ?_⟩
  refine ⟨fun _ => Lg ?_, fun h => absurd (by simp) h⟩
  simp only [vx,T,K5,J0,K6,K7,↓reduceIte,J1,J2,J3,J4,J5,J6,J7,J8,J9,reduceCtorEq,K1,K2,K3,K4,VV,PV,PC,LV,LC,X0,X1,QV,QC,qC,w0,y0,hx0,w1,y1,hx1]
  (repeat refine ⟨by omega, ?_⟩)
  refine Cg (two_var (2 * n + u1)).2 ?_
  simp only [vx,T,K5,J0,K6,K7,↓reduceIte,J1,J2,J3,J4,J5,J6,J7,J8,J9,reduceCtorEq,K1,K2,K3,K4,VV,PV,PC,LV,LC,X0,X1,QV,QC,qC,w0,y0,hx0,w1,y1,hx1]
  refine ⟨by omega, ⟨by omega, by omega⟩, ?_⟩
  (repeat refine ⟨by omega, ?_⟩)
  refine Cg cWxx.2 ?_
  simp only [vx,T,K5,J0,K6,K7,↓reduceIte,J1,J2,J3,J4,J5,J6,J7,J8,J9,reduceCtorEq,K1,K2,K3,K4,VV,PV,PC,LV,LC,X0,X1,QV,QC,qC,w0,y0,hx0,w1,y1,hx1]
  (repeat refine ⟨by omega, ?_⟩)
  refine Cg cDWxxWxx.2 ?_
  simp only [vx,T,K5,J0,K6,K7,↓reduceIte,J1,J2,J3,J4,J5,J6,J7,J8,J9,reduceCtorEq,K1,K2,K3,K4,VV,PV,PC,LV,LC,X0,X1,QV,QC,qC,w0,y0,hx0,w1,y1,hx1]
  (repeat refine ⟨by omega, ?_⟩)
  refine Cg cZ.2 ?_
  simp only [vx,T,K5,J0,K6,K7,↓reduceIte,J1,J2,J3,J4,J5,J6,J7,J8,J9,reduceCtorEq,K1,K2,K3,K4,VV,PV,PC,LV,LC,X0,X1,QV,QC,qC,w0,y0,hx0,w1,y1,hx1]
  (repeat refine ⟨by omega, ?_⟩)
  refine Cg cQ.2 ?_
  simp only [vx,T,K5,J0,K6,K7,↓reduceIte,J1,J2,J3,J4,J5,J6,J7,J8,J9,reduceCtorEq,K1,K2,K3,K4,VV,PV,PC,LV,LC,X0,X1,QV,QC,qC,w0,y0,hx0,w1,y1,hx1]
  (repeat refine ⟨by omega, ?_⟩)
  refine Cg cS.2 ?_
  simp only [vx,T,K5,J0,K6,K7,↓reduceIte,J1,J2,J3,J4,J5,J6,J7,J8,J9,reduceCtorEq,K1,K2,K3,K4,VV,PV,PC,LV,LC,X0,X1,QV,QC,qC,w0,y0,hx0,w1,y1,hx1]
  refine Va ⟨rfl, rfl, fun i' j' hi' hj' => ?_⟩
  obtain rfl : j' = 0 := by omega
  obtain rfl : i' = 0 := by omega
  rfl
open Go Go.Eng
structure FinP (l : List Mono) : Prop where
  can : Go.Eng.Can l
  nf : ∃ n d B, NF l n d B ∧ n < 2 ^ 30 ∧ d < 2 ^ 30 ∧ B < 2 ^ 30
theorem FinP.pok {l : List Mono} (h : FinP l) : POk l := by
  obtain ⟨n, d, B, h1, h2, h3, h4⟩ := h.nf
  exact h1.pb.pok h2 h3 h4
theorem FinP.valid {l : List Mono} (h : FinP l) : Pr Tryz.prog 7 [PV l] (.one (.bool true)) := by
  obtain ⟨n, d, B, h1, h2, h3, h4⟩ := h.nf
  exact iValid_norm h1.pb h.can h1.asc h2 h3 h4
theorem FinP.of {l : List Mono} {n d B : Nat} (h : NF l n d B) (hc : Go.Eng.Can l) (hb : n < 2 ^ 30 ∧ d < 2 ^ 30 ∧ B < 2 ^ 30) : FinP l := ⟨hc, n, d, B, h, hb⟩
def OfOk (k : Int) (pts cir : List Int) (c3 : C) (s : Int) (qs : List Rat) (cs : List Int) (n : Nat) : Prop :=
  ∃ ps : List (List Mono), Pr Tryz.prog 6 [.agg [.int .i64 k, .ints .i64 pts, .ints .i64 cir, c3, .int .i64 s], .one (QsC qs), .one (.ints .i64 cs), .one (.int .i64 n)] (LV ps) ∧
    Pr Tryz.prog 9 [.agg [.int .i64 k, .ints .i64 pts, .ints .i64 cir, c3, .int .i64 s], .one (QsC qs), .one (.ints .i64 cs), .one (.int .i64 n)] (LV ps) ∧ (∀ p ∈ ps, FinP p) ∧ ps.length < 2 ^ 30
theorem one_fin {p : List Mono} (h : FinP p) : ∀ x ∈ [p], FinP x := fun x hx => by obtain rfl := List.mem_singleton.1 hx; exact h
theorem two_fin {p q : List Mono} (h : FinP p) (h2 : FinP q) : ∀ x ∈ [p, q], FinP x := fun x hx => by
  rcases List.mem_cons.1 hx with rfl | hx
  · exact h
  · obtain rfl := List.mem_singleton.1 hx; exact h2
theorem ok1 (cs : List Int) (n : Nat) (hn : n < 2 ^ 40) (c3 : C) (s : Int) (a : Nat) (ha : a < 2 ^ 40) (q0 : Rat) (hq0 : qm q0 ≤ 4) (q1 : Rat) (hq1 : qm q1 ≤ 4) : OfOk 1 [(a : Int)] [] c3 s [q0, q1] cs n := by
  have bV0 := NF.num hq0
  have bV1 := NF.num hq1
  have bS0 := NF.sub (NF.var (v := 2 * (a : Int)) (by omega) (by omega)) bV0
  have bS1 := NF.sub (NF.var (v := 2 * (a : Int) + 1) (by omega) (by omega)) bV1
  exact ⟨_, iOf1 cs n hn c3 s a ha q0 hq0 q1 hq1, rOf1 cs n hn c3 s a ha q0 hq0 q1 hq1, two_fin (FinP.of bS0 (by first | exact norM_can _ | exact mulM_can _ _) (by decide)) (FinP.of bS1 (by first | exact norM_can _ | exact mulM_can _ _) (by decide)), show 2 < 2 ^ 30 by decide⟩
theorem ok2 (cs : List Int) (n : Nat) (hn : n < 2 ^ 40) (c3 : C) (s : Int) (a b : Nat) (ha : a < 2 ^ 40) (hb : b < 2 ^ 40) (q0 : Rat) (hq0 : qm q0 ≤ 4) : OfOk 2 [(a : Int), (b : Int)] [] c3 s [q0] cs n := by
  have bV0 := NF.num hq0
  have bWab := NW.way a b ha hb
  have bDWabWab := NW.dot bWab bWab
  have bQ := NF.mul bV0 bV0
  have bS := NF.sub bDWabWab bQ
  exact ⟨_, iOf2 cs n hn c3 s a b ha hb q0 hq0, rOf2 cs n hn c3 s a b ha hb q0 hq0, one_fin (FinP.of bS (by first | exact norM_can _ | exact mulM_can _ _) (by decide)), show 1 < 2 ^ 30 by decide⟩
theorem ok3 (cs : List Int) (n : Nat) (hn : n < 2 ^ 40) (c3 : C) (s : Int) (a b c : Nat) (ha : a < 2 ^ 40) (hb : b < 2 ^ 40) (hc : c < 2 ^ 40) : OfOk 3 [(a : Int), (b : Int), (c : Int)] [] c3 s [] cs n := by
  have bWbc := NW.way b c hb hc
  have bWba := NW.way b a hb ha
  have bCWbcWba := NW.cross bWbc bWba
  exact ⟨_, iOf3 cs n hn c3 s a b c ha hb hc, rOf3 cs n hn c3 s a b c ha hb hc, one_fin (FinP.of bCWbcWba (by first | exact norM_can _ | exact mulM_can _ _) (by decide)), show 1 < 2 ^ 30 by decide⟩
theorem ok4 (cs : List Int) (n : Nat) (hn : n < 2 ^ 40) (c3 : C) (s : Int) (a b c : Nat) (ha : a < 2 ^ 40) (hb : b < 2 ^ 40) (hc : c < 2 ^ 40) (q0 : Rat) (hq0 : qm q0 ≤ 4) : OfOk 4 [(a : Int), (b : Int), (c : Int)] [] c3 s [q0] cs n := by
  have bV0 := NF.num hq0
  have bWbc := NW.way b c hb hc
  have bWba := NW.way b a hb ha
  have bCWbcWba := NW.cross bWbc bWba
  have bQ := NF.mul bCWbcWba bCWbcWba
  have bQ2 := NF.mul bV0 bV0
  have bDWbcWbc := NW.dot bWbc bWbc
  have bM := NF.mul bQ2 bDWbcWbc
  have bS := NF.sub bQ bM
  exact ⟨_, iOf4 cs n hn c3 s a b c ha hb hc q0 hq0, rOf4 cs n hn c3 s a b c ha hb hc q0 hq0, one_fin (FinP.of bS (by first | exact norM_can _ | exact mulM_can _ _) (by decide)), show 1 < 2 ^ 30 by decide⟩
theorem ok5 (cs : List Int) (n : Nat) (hn : n < 2 ^ 40) (c3 : C) (s : Int) (a b c d : Nat) (ha : a < 2 ^ 40) (hb : b < 2 ^ 40) (hc : c < 2 ^ 40) (hd : d < 2 ^ 40) (q0 : Rat) (hq0 : qm q0 ≤ 4) : OfOk 5 [(a : Int), (b : Int), (c : Int), (d : Int)] [] c3 s [q0] cs n := by
  have bV0 := NF.num hq0
  have bWab := NW.way a b ha hb
  have bWcd := NW.way c d hc hd
  have bCWabWcd := NW.cross bWab bWcd
  have bDWabWcd := NW.dot bWab bWcd
  have bM := NF.mul bV0 bDWabWcd
  have bS := NF.sub bCWabWcd bM
  exact ⟨_, iOf5 cs n hn c3 s a b c d ha hb hc hd q0 hq0, rOf5 cs n hn c3 s a b c d ha hb hc hd q0 hq0, one_fin (FinP.of bS (by first | exact norM_can _ | exact mulM_can _ _) (by decide)), show 1 < 2 ^ 30 by decide⟩
theorem ok6 (cs : List Int) (n : Nat) (hn : n < 2 ^ 40) (c3 : C) (s : Int) (a b c d : Nat) (ha : a < 2 ^ 40) (hb : b < 2 ^ 40) (hc : c < 2 ^ 40) (hd : d < 2 ^ 40) : OfOk 6 [(a : Int), (b : Int), (c : Int), (d : Int)] [] c3 s [] cs n := by
  have bWab := NW.way a b ha hb
  have bWcd := NW.way c d hc hd
  have bCWabWcd := NW.cross bWab bWcd
  exact ⟨_, iOf6 cs n hn c3 s a b c d ha hb hc hd, rOf6 cs n hn c3 s a b c d ha hb hc hd, one_fin (FinP.of bCWabWcd (by first | exact norM_can _ | exact mulM_can _ _) (by decide)), show 1 < 2 ^ 30 by decide⟩
theorem ok7 (cs : List Int) (n : Nat) (hn : n < 2 ^ 40) (c3 : C) (s : Int) (a b c d : Nat) (ha : a < 2 ^ 40) (hb : b < 2 ^ 40) (hc : c < 2 ^ 40) (hd : d < 2 ^ 40) : OfOk 7 [(a : Int), (b : Int), (c : Int), (d : Int)] [] c3 s [] cs n := by
  have bWab := NW.way a b ha hb
  have bWcd := NW.way c d hc hd
  have bDWabWcd := NW.dot bWab bWcd
  exact ⟨_, iOf7 cs n hn c3 s a b c d ha hb hc hd, rOf7 cs n hn c3 s a b c d ha hb hc hd, one_fin (FinP.of bDWabWcd (by first | exact norM_can _ | exact mulM_can _ _) (by decide)), show 1 < 2 ^ 30 by decide⟩
theorem ok8 (cs : List Int) (n : Nat) (hn : n < 2 ^ 40) (c3 : C) (s : Int) (a b c d : Nat) (ha : a < 2 ^ 40) (hb : b < 2 ^ 40) (hc : c < 2 ^ 40) (hd : d < 2 ^ 40) : OfOk 8 [(a : Int), (b : Int), (c : Int), (d : Int)] [] c3 s [] cs n := by
  have bWab := NW.way a b ha hb
  have bWcd := NW.way c d hc hd
  have bDWabWab := NW.dot bWab bWab
  have bDWcdWcd := NW.dot bWcd bWcd
  have bS := NF.sub bDWabWab bDWcdWcd
  exact ⟨_, iOf8 cs n hn c3 s a b c d ha hb hc hd, rOf8 cs n hn c3 s a b c d ha hb hc hd, one_fin (FinP.of bS (by first | exact norM_can _ | exact mulM_can _ _) (by decide)), show 1 < 2 ^ 30 by decide⟩
theorem ok9 (cs : List Int) (n : Nat) (hn : n < 2 ^ 40) (c3 : C) (s : Int) (a b c : Nat) (ha : a < 2 ^ 40) (hb : b < 2 ^ 40) (hc : c < 2 ^ 40) : OfOk 9 [(a : Int), (b : Int), (c : Int)] [] c3 s [] cs n := by
  have bWba := NW.way b a hb ha
  have bWca := NW.way c a hc ha
  have bA1 := NF.add bWba.1 bWca.1
  have bA2 := NF.add bWba.2 bWca.2
  exact ⟨_, iOf9 cs n hn c3 s a b c ha hb hc, rOf9 cs n hn c3 s a b c ha hb hc, two_fin (FinP.of bA1 (by first | exact norM_can _ | exact mulM_can _ _) (by decide)) (FinP.of bA2 (by first | exact norM_can _ | exact mulM_can _ _) (by decide)), show 2 < 2 ^ 30 by decide⟩
theorem ok10 (cs : List Int) (n : Nat) (hn : n < 2 ^ 40) (c3 : C) (s : Int) (a b c d : Nat) (ha : a < 2 ^ 40) (hb : b < 2 ^ 40) (hc : c < 2 ^ 40) (hd : d < 2 ^ 40) : OfOk 10 [(a : Int), (b : Int), (c : Int), (d : Int)] [] c3 s [] cs n := by
  have bWca := NW.way c a hc ha
  have bWcb := NW.way c b hc hb
  have bWcd := NW.way c d hc hd
  have bWab := NW.way a b ha hb
  have bA1 := NF.add bWca.1 bWcb.1
  have bA2 := NF.add bWca.2 bWcb.2
  have bU := NW.plus bWca bWcb
  have bCUWcd := NW.cross bU bWcd
  have bDWabWcd := NW.dot bWab bWcd
  exact ⟨_, iOf10 cs n hn c3 s a b c d ha hb hc hd, rOf10 cs n hn c3 s a b c d ha hb hc hd, two_fin (FinP.of bCUWcd (by first | exact norM_can _ | exact mulM_can _ _) (by decide)) (FinP.of bDWabWcd (by first | exact norM_can _ | exact mulM_can _ _) (by decide)), show 2 < 2 ^ 30 by decide⟩
theorem ok11 (cs : List Int) (n : Nat) (hn : n < 2 ^ 40) (c3 : C) (s : Int) (a b : Nat) (ha : a < 2 ^ 40) (hb : b < 2 ^ 40) : OfOk 11 [(a : Int), (b : Int)] [] c3 s [] cs n := by
  have bWba := NW.way b a hb ha
  have bS := NF.sub (NF.var (v := 2 * (a : Int) + 1) (by omega) (by omega)) (NF.var (v := 2 * (b : Int) + 1) (by omega) (by omega))
  exact ⟨_, iOf11 cs n hn c3 s a b ha hb, rOf11 cs n hn c3 s a b ha hb, one_fin (FinP.of bWba.2 (by first | exact norM_can _ | exact mulM_can _ _) (by decide)), show 1 < 2 ^ 30 by decide⟩
theorem ok12 (cs : List Int) (n : Nat) (hn : n < 2 ^ 40) (c3 : C) (s : Int) (a b : Nat) (ha : a < 2 ^ 40) (hb : b < 2 ^ 40) : OfOk 12 [(a : Int), (b : Int)] [] c3 s [] cs n := by
  have bWba := NW.way b a hb ha
  have bS := NF.sub (NF.var (v := 2 * (a : Int)) (by omega) (by omega)) (NF.var (v := 2 * (b : Int)) (by omega) (by omega))
  exact ⟨_, iOf12 cs n hn c3 s a b ha hb, rOf12 cs n hn c3 s a b ha hb, one_fin (FinP.of bWba.1 (by first | exact norM_can _ | exact mulM_can _ _) (by decide)), show 1 < 2 ^ 30 by decide⟩
theorem ok13 (cs : List Int) (n : Nat) (hn : n < 2 ^ 40) (c3 : C) (s : Int) (a : Nat) (ha : a < 2 ^ 40) (u0 x0 : Nat) (hu0 : u0 < 2 ^ 40) (hl0 : u0 < cs.length) (hx0 : cs.getD u0 0 = (x0 : Int)) (hxl0 : x0 < 2 ^ 40) : OfOk 13 [(a : Int)] [(u0 : Int)] c3 s [] cs n := by
  have bR0 := NF.var (v := 2 * (n : Int) + u0) (by omega) (by omega)
  have bWx0a := NW.way x0 a hxl0 ha
  have bDWx0aWx0a := NW.dot bWx0a bWx0a
  have bQ := NF.mul bR0 bR0
  have bS := NF.sub bDWx0aWx0a bQ
  exact ⟨_, iOf13 cs n hn c3 s a ha u0 x0 hu0 hl0 hx0 hxl0, rOf13 cs n hn c3 s a ha u0 x0 hu0 hl0 hx0 hxl0, one_fin (FinP.of bS (by first | exact norM_can _ | exact mulM_can _ _) (by decide)), show 1 < 2 ^ 30 by decide⟩
theorem ok14 (cs : List Int) (n : Nat) (hn : n < 2 ^ 40) (c3 : C) (s : Int) (q0 : Rat) (hq0 : qm q0 ≤ 4) (u0 x0 : Nat) (hu0 : u0 < 2 ^ 40) (hl0 : u0 < cs.length) (hx0 : cs.getD u0 0 = (x0 : Int)) (hxl0 : x0 < 2 ^ 40) : OfOk 14 [] [(u0 : Int)] c3 s [q0] cs n := by
  have bR0 := NF.var (v := 2 * (n : Int) + u0) (by omega) (by omega)
  have bV0 := NF.num hq0
  have bS := NF.sub bR0 bV0
  exact ⟨_, iOf14 cs n hn c3 s q0 hq0 u0 x0 hu0 hl0 hx0 hxl0, rOf14 cs n hn c3 s q0 hq0 u0 x0 hu0 hl0 hx0 hxl0, one_fin (FinP.of bS (by first | exact norM_can _ | exact mulM_can _ _) (by decide)), show 1 < 2 ^ 30 by decide⟩
theorem ok15 (cs : List Int) (n : Nat) (hn : n < 2 ^ 40) (c3 : C) (s : Int) (u0 x0 : Nat) (hu0 : u0 < 2 ^ 40) (hl0 : u0 < cs.length) (hx0 : cs.getD u0 0 = (x0 : Int)) (hxl0 : x0 < 2 ^ 40) (u1 x1 : Nat) (hu1 : u1 < 2 ^ 40) (hl1 : u1 < cs.length) (hx1 : cs.getD u1 0 = (x1 : Int)) (hxl1 : x1 < 2 ^ 40) : OfOk 15 [] [(u0 : Int), (u1 : Int)] c3 s [] cs n := by
  have bR0 := NF.var (v := 2 * (n : Int) + u0) (by omega) (by omega)
  have bR1 := NF.var (v := 2 * (n : Int) + u1) (by omega) (by omega)
  have bS := NF.sub bR0 bR1
  exact ⟨_, iOf15 cs n hn c3 s u0 x0 hu0 hl0 hx0 hxl0 u1 x1 hu1 hl1 hx1 hxl1, rOf15 cs n hn c3 s u0 x0 hu0 hl0 hx0 hxl0 u1 x1 hu1 hl1 hx1 hxl1, one_fin (FinP.of bS (by first | exact norM_can _ | exact mulM_can _ _) (by decide)), show 1 < 2 ^ 30 by decide⟩
theorem ok16 (cs : List Int) (n : Nat) (hn : n < 2 ^ 40) (c3 : C) (s : Int) (a b : Nat) (ha : a < 2 ^ 40) (hb : b < 2 ^ 40) (u0 x0 : Nat) (hu0 : u0 < 2 ^ 40) (hl0 : u0 < cs.length) (hx0 : cs.getD u0 0 = (x0 : Int)) (hxl0 : x0 < 2 ^ 40) : OfOk 16 [(a : Int), (b : Int)] [(u0 : Int)] c3 s [] cs n := by
  have bR0 := NF.var (v := 2 * (n : Int) + u0) (by omega) (by omega)
  have bWab := NW.way a b ha hb
  have bWax0 := NW.way a x0 ha hxl0
  have bCWabWax0 := NW.cross bWab bWax0
  have bQ := NF.mul bCWabWax0 bCWabWax0
  have bQ2 := NF.mul bR0 bR0
  have bDWabWab := NW.dot bWab bWab
  have bM := NF.mul bQ2 bDWabWab
  have bS := NF.sub bQ bM
  exact ⟨_, iOf16 cs n hn c3 s a b ha hb u0 x0 hu0 hl0 hx0 hxl0, rOf16 cs n hn c3 s a b ha hb u0 x0 hu0 hl0 hx0 hxl0, one_fin (FinP.of bS (by first | exact norM_can _ | exact mulM_can _ _) (by decide)), show 1 < 2 ^ 30 by decide⟩
theorem ok17p (cs : List Int) (n : Nat) (hn : n < 2 ^ 40) (c3 : C) (u0 x0 : Nat) (hu0 : u0 < 2 ^ 40) (hl0 : u0 < cs.length) (hx0 : cs.getD u0 0 = (x0 : Int)) (hxl0 : x0 < 2 ^ 40) (u1 x1 : Nat) (hu1 : u1 < 2 ^ 40) (hl1 : u1 < cs.length) (hx1 : cs.getD u1 0 = (x1 : Int)) (hxl1 : x1 < 2 ^ 40) : OfOk 17 [] [(u0 : Int), (u1 : Int)] c3 1 [] cs n := by
  have bR0 := NF.var (v := 2 * (n : Int) + u0) (by omega) (by omega)
  have bR1 := NF.var (v := 2 * (n : Int) + u1) (by omega) (by omega)
  have bWxx := NW.way x0 x1 hxl0 hxl1
  have bA := NF.add bR0 bR1
  have bDWxxWxx := NW.dot bWxx bWxx
  have bQ := NF.mul bA bA
  have bS := NF.sub bDWxxWxx bQ
  exact ⟨_, iOf17p cs n hn c3 u0 x0 hu0 hl0 hx0 hxl0 u1 x1 hu1 hl1 hx1 hxl1, rOf17p cs n hn c3 u0 x0 hu0 hl0 hx0 hxl0 u1 x1 hu1 hl1 hx1 hxl1, one_fin (FinP.of bS (by first | exact norM_can _ | exact mulM_can _ _) (by decide)), show 1 < 2 ^ 30 by decide⟩
theorem ok17m (cs : List Int) (n : Nat) (hn : n < 2 ^ 40) (c3 : C) (u0 x0 : Nat) (hu0 : u0 < 2 ^ 40) (hl0 : u0 < cs.length) (hx0 : cs.getD u0 0 = (x0 : Int)) (hxl0 : x0 < 2 ^ 40) (u1 x1 : Nat) (hu1 : u1 < 2 ^ 40) (hl1 : u1 < cs.length) (hx1 : cs.getD u1 0 = (x1 : Int)) (hxl1 : x1 < 2 ^ 40) : OfOk 17 [] [(u0 : Int), (u1 : Int)] c3 (-1) [] cs n := by
  have bR0 := NF.var (v := 2 * (n : Int) + u0) (by omega) (by omega)
  have bR1 := NF.var (v := 2 * (n : Int) + u1) (by omega) (by omega)
  have bWxx := NW.way x0 x1 hxl0 hxl1
  have bA := NF.add bR0 bR1
  have bZ := NF.sub bR0 bR1
  have bDWxxWxx := NW.dot bWxx bWxx
  have bQ := NF.mul bZ bZ
  have bS := NF.sub bDWxxWxx bQ
  exact ⟨_, iOf17m cs n hn c3 u0 x0 hu0 hl0 hx0 hxl0 u1 x1 hu1 hl1 hx1 hxl1, rOf17m cs n hn c3 u0 x0 hu0 hl0 hx0 hxl0 u1 x1 hu1 hl1 hx1 hxl1, one_fin (FinP.of bS (by first | exact norM_can _ | exact mulM_can _ _) (by decide)), show 1 < 2 ^ 30 by decide⟩
def kP (k : Nat) : Int := [1, 2, 3, 3, 4, 4, 4, 4, 3, 4, 2, 2, 1, 0, 0, 2, 0].getD (k - 1) 0
def kC (k : Nat) : Int := [0, 0, 0, 0, 0, 0, 0, 0, 0, 0, 0, 0, 1, 1, 2, 1, 2].getD (k - 1) 0
def kN (k : Nat) : Int := [2, 1, 0, 1, 1, 0, 0, 0, 0, 0, 0, 0, 0, 1, 0, 0, 0].getD (k - 1) 0
def kB (k : Nat) : Bool := [false, false, false, true, false, false, false, false, false, false, false, false, false, false, false, true, true].getD (k - 1) false
theorem k17 {k : Nat} (h1 : 1 ≤ k) (h2 : k ≤ 17) : k = 1 ∨ k = 2 ∨ k = 3 ∨ k = 4 ∨ k = 5 ∨ k = 6 ∨ k = 7 ∨ k = 8 ∨ k = 9 ∨ k = 10 ∨ k = 11 ∨ k = 12 ∨ k = 13 ∨ k = 14 ∨ k = 15 ∨ k = 16 ∨ k = 17 := by omega
theorem rowT_at {k : Nat} (h1 : 1 ≤ k) (h2 : k ≤ 17) : ∃ s v e, rowT.getD (k - 1) [] = rowF s (kP k) (kC k) (kN k) v e (kB k) := by
  rcases k17 h1 h2 with rfl | rfl | rfl | rfl | rfl | rfl | rfl | rfl | rfl | rfl | rfl | rfl | rfl | rfl | rfl | rfl | rfl <;> exact ⟨_, _, _, rfl⟩
theorem k58 {k : Nat} (h : 5 ≤ k ∧ k ≤ 8) : kP k = 4 ∧ kB k = false := by
  obtain ⟨h1, h2⟩ := h
  have : k = 5 ∨ k = 6 ∨ k = 7 ∨ k = 8 := by omega
  rcases this with rfl | rfl | rfl | rfl <;> exact ⟨rfl, rfl⟩
theorem cvB_facts {k : Nat} {p c n : Int} {b : Bool} {pts cir : List Int} {m : Nat} {np nc : Int} {e : Nat → Int} {side : Int} (h : cvB k p c n b pts cir m np nc e side = true) :
    (pts.length : Int) = p ∧ (cir.length : Int) = c ∧ (m : Int) = n ∧ wiB pts np = true ∧ wiB cir nc = true ∧ sideB b side = true := by
  unfold cvB at h
  simp only [Bool.and_eq_true,decide_eq_true_eq] at h
  exact ⟨h.1, h.2.1, h.2.2.1, h.2.2.2.1, h.2.2.2.2.1, h.2.2.2.2.2.2.1⟩
theorem wi_get {l : List Int} {n : Int} (h : wiB l n = true) {i : Nat} (hi : i < l.length) : 0 ≤ l.getD i 0 ∧ l.getD i 0 < n := by
  have := all_range.1 h i hi
  simpa using this
theorem cen {l : List Int} {n : Int} (h : wiB l n = true) {i : Nat} (hi : i < l.length) : ∃ x : Nat, l.getD i 0 = (x : Int) ∧ (x : Int) < n := by
  have := wi_get h hi
  exact ⟨(l.getD i 0).toNat, by omega, by omega⟩
theorem wi1 {l : List Int} {n : Int} (h : wiB l n = true) (hl : l.length = 1) : ∃ a : Nat, l = [(a : Int)] ∧ (a : Int) < n := by
  obtain ⟨a, h1, h2⟩ := cen h (i := 0) (by omega)
  match l, hl with
  | [x], _ => exact ⟨a, by rw [← h1]; rfl, h2⟩
theorem wi2 {l : List Int} {n : Int} (h : wiB l n = true) (hl : l.length = 2) : ∃ a b : Nat, l = [(a : Int), (b : Int)] ∧ (a : Int) < n ∧ (b : Int) < n := by
  obtain ⟨a, h1, h2⟩ := cen h (i := 0) (by omega)
  obtain ⟨b, h3, h4⟩ := cen h (i := 1) (by omega)
  match l, hl with
  | [x, y], _ => exact ⟨a, b, by rw [← h1, ← h3]; rfl, h2, h4⟩
theorem wi3 {l : List Int} {n : Int} (h : wiB l n = true) (hl : l.length = 3) : ∃ a b c : Nat, l = [(a : Int), (b : Int), (c : Int)] ∧ (a : Int) < n ∧ (b : Int) < n ∧ (c : Int) < n := by
  obtain ⟨a, h1, h2⟩ := cen h (i := 0) (by omega)
  obtain ⟨b, h3, h4⟩ := cen h (i := 1) (by omega)
  obtain ⟨c, h5, h6⟩ := cen h (i := 2) (by omega)
  match l, hl with
  | [x, y, z], _ => exact ⟨a, b, c, by rw [← h1, ← h3, ← h5]; rfl, h2, h4, h6⟩
theorem wi4 {l : List Int} {n : Int} (h : wiB l n = true) (hl : l.length = 4) : ∃ a b c d : Nat, l = [(a : Int), (b : Int), (c : Int), (d : Int)] ∧ (a : Int) < n ∧ (b : Int) < n ∧ (c : Int) < n ∧ (d : Int) < n := by
  obtain ⟨a, h1, h2⟩ := cen h (i := 0) (by omega)
  obtain ⟨b, h3, h4⟩ := cen h (i := 1) (by omega)
  obtain ⟨c, h5, h6⟩ := cen h (i := 2) (by omega)
  obtain ⟨d, h7, h8⟩ := cen h (i := 3) (by omega)
  match l, hl with
  | [x, y, z, w], _ => exact ⟨a, b, c, d, by rw [← h1, ← h3, ← h5, ← h7]; rfl, h2, h4, h6, h8⟩
theorem ql1 {qs : List Rat} (h : qs.length = 1) : ∃ a, qs = [a] := by
  match qs, h with
  | [x], _ => exact ⟨x, rfl⟩
theorem ql2 {qs : List Rat} (h : qs.length = 2) : ∃ a b, qs = [a, b] := by
  match qs, h with
  | [x, y], _ => exact ⟨x, y, rfl⟩
theorem ofOk (k : Nat) (h1 : 1 ≤ k) (h2 : k ≤ 17) {pts cir : List Int} {m : Nat} {er : Nat → Int} {side : Int} {n : Nat} {cs : List Int} (hcv : cvB k (kP k) (kC k) (kN k) (kB k) pts cir m n cs.length er side = true) (hn : n ≤ 12) (hcs : cs.length ≤ 4) (hc : wiB cs n = true)
    {qs : List Rat} (hq : ∀ q ∈ qs, qm q ≤ 4) (hqm : qs.length = m) (c3 : C) : OfOk k pts cir c3 side qs cs n := by
  obtain ⟨f1, f2, f3, f4, f5, f6⟩ := cvB_facts hcv
  clear hcv
  rcases k17 h1 h2 with rfl | rfl | rfl | rfl | rfl | rfl | rfl | rfl | rfl | rfl | rfl | rfl | rfl | rfl | rfl | rfl | rfl
  · have f1 : (pts.length : Int) = 1 := f1
    have f2 : (cir.length : Int) = 0 := f2
    have f3 : (m : Int) = 2 := f3
    obtain ⟨a, rfl, ha⟩ := wi1 f4 (by omega)
    obtain rfl : cir = [] := List.eq_nil_of_length_eq_zero (by omega)
    obtain ⟨q0, q1, rfl⟩ := ql2 (qs := qs) (by omega)
    exact ok1 cs n (by omega) c3 side a (by omega) q0 (hq q0 (by simp)) q1 (hq q1 (by simp))
  · have f1 : (pts.length : Int) = 2 := f1
    have f2 : (cir.length : Int) = 0 := f2
    have f3 : (m : Int) = 1 := f3
    obtain ⟨a, b, rfl, ha, hb⟩ := wi2 f4 (by omega)
    obtain rfl : cir = [] := List.eq_nil_of_length_eq_zero (by omega)
    obtain ⟨q0, rfl⟩ := ql1 (qs := qs) (by omega)
    exact ok2 cs n (by omega) c3 side a b (by omega) (by omega) q0 (hq q0 (by simp))
  · have f1 : (pts.length : Int) = 3 := f1
    have f2 : (cir.length : Int) = 0 := f2
    have f3 : (m : Int) = 0 := f3
    obtain ⟨a, b, c, rfl, ha, hb, hc⟩ := wi3 f4 (by omega)
    obtain rfl : cir = [] := List.eq_nil_of_length_eq_zero (by omega)
    obtain rfl : qs = [] := List.eq_nil_of_length_eq_zero (by omega)
    exact ok3 cs n (by omega) c3 side a b c (by omega) (by omega) (by omega)
  · have f1 : (pts.length : Int) = 3 := f1
    have f2 : (cir.length : Int) = 0 := f2
    have f3 : (m : Int) = 1 := f3
    obtain ⟨a, b, c, rfl, ha, hb, hc⟩ := wi3 f4 (by omega)
    obtain rfl : cir = [] := List.eq_nil_of_length_eq_zero (by omega)
    obtain ⟨q0, rfl⟩ := ql1 (qs := qs) (by omega)
    exact ok4 cs n (by omega) c3 side a b c (by omega) (by omega) (by omega) q0 (hq q0 (by simp))
  · have f1 : (pts.length : Int) = 4 := f1
    have f2 : (cir.length : Int) = 0 := f2
    have f3 : (m : Int) = 1 := f3
    obtain ⟨a, b, c, d, rfl, ha, hb, hc, hd⟩ := wi4 f4 (by omega)
    obtain rfl : cir = [] := List.eq_nil_of_length_eq_zero (by omega)
    obtain ⟨q0, rfl⟩ := ql1 (qs := qs) (by omega)
    exact ok5 cs n (by omega) c3 side a b c d (by omega) (by omega) (by omega) (by omega) q0 (hq q0 (by simp))
  · have f1 : (pts.length : Int) = 4 := f1
    have f2 : (cir.length : Int) = 0 := f2
    have f3 : (m : Int) = 0 := f3
    obtain ⟨a, b, c, d, rfl, ha, hb, hc, hd⟩ := wi4 f4 (by omega)
    obtain rfl : cir = [] := List.eq_nil_of_length_eq_zero (by omega)
    obtain rfl : qs = [] := List.eq_nil_of_length_eq_zero (by omega)
    exact ok6 cs n (by omega) c3 side a b c d (by omega) (by omega) (by omega) (by omega)
  · have f1 : (pts.length : Int) = 4 := f1
    have f2 : (cir.length : Int) = 0 := f2
    have f3 : (m : Int) = 0 := f3
    obtain ⟨a, b, c, d, rfl, ha, hb, hc, hd⟩ := wi4 f4 (by omega)
    obtain rfl : cir = [] := List.eq_nil_of_length_eq_zero (by omega)
    obtain rfl : qs = [] := List.eq_nil_of_length_eq_zero (by omega)
    exact ok7 cs n (by omega) c3 side a b c d (by omega) (by omega) (by omega) (by omega)
  · have f1 : (pts.length : Int) = 4 := f1
    have f2 : (cir.length : Int) = 0 := f2
    have f3 : (m : Int) = 0 := f3
    obtain ⟨a, b, c, d, rfl, ha, hb, hc, hd⟩ := wi4 f4 (by omega)
    obtain rfl : cir = [] := List.eq_nil_of_length_eq_zero (by omega)
    obtain rfl : qs = [] := List.eq_nil_of_length_eq_zero (by omega)
    exact ok8 cs n (by omega) c3 side a b c d (by omega) (by omega) (by omega) (by omega)
  · have f1 : (pts.length : Int) = 3 := f1
    have f2 : (cir.length : Int) = 0 := f2
    have f3 : (m : Int) = 0 := f3
    obtain ⟨a, b, c, rfl, ha, hb, hc⟩ := wi3 f4 (by omega)
    obtain rfl : cir = [] := List.eq_nil_of_length_eq_zero (by omega)
    obtain rfl : qs = [] := List.eq_nil_of_length_eq_zero (by omega)
    exact ok9 cs n (by omega) c3 side a b c (by omega) (by omega) (by omega)
  · have f1 : (pts.length : Int) = 4 := f1
    have f2 : (cir.length : Int) = 0 := f2
    have f3 : (m : Int) = 0 := f3
    obtain ⟨a, b, c, d, rfl, ha, hb, hc, hd⟩ := wi4 f4 (by omega)
    obtain rfl : cir = [] := List.eq_nil_of_length_eq_zero (by omega)
    obtain rfl : qs = [] := List.eq_nil_of_length_eq_zero (by omega)
    exact ok10 cs n (by omega) c3 side a b c d (by omega) (by omega) (by omega) (by omega)
  · have f1 : (pts.length : Int) = 2 := f1
    have f2 : (cir.length : Int) = 0 := f2
    have f3 : (m : Int) = 0 := f3
    obtain ⟨a, b, rfl, ha, hb⟩ := wi2 f4 (by omega)
    obtain rfl : cir = [] := List.eq_nil_of_length_eq_zero (by omega)
    obtain rfl : qs = [] := List.eq_nil_of_length_eq_zero (by omega)
    exact ok11 cs n (by omega) c3 side a b (by omega) (by omega)
  · have f1 : (pts.length : Int) = 2 := f1
    have f2 : (cir.length : Int) = 0 := f2
    have f3 : (m : Int) = 0 := f3
    obtain ⟨a, b, rfl, ha, hb⟩ := wi2 f4 (by omega)
    obtain rfl : cir = [] := List.eq_nil_of_length_eq_zero (by omega)
    obtain rfl : qs = [] := List.eq_nil_of_length_eq_zero (by omega)
    exact ok12 cs n (by omega) c3 side a b (by omega) (by omega)
  · have f1 : (pts.length : Int) = 1 := f1
    have f2 : (cir.length : Int) = 1 := f2
    have f3 : (m : Int) = 0 := f3
    obtain ⟨a, rfl, ha⟩ := wi1 f4 (by omega)
    obtain ⟨u0, rfl, hu0⟩ := wi1 f5 (by omega)
    obtain ⟨x0, hx0, hxl0⟩ := cen hc (i := u0) (by omega)
    obtain rfl : qs = [] := List.eq_nil_of_length_eq_zero (by omega)
    exact ok13 cs n (by omega) c3 side a (by omega) u0 x0 (by omega) (by omega) hx0 (by omega)
  · have f1 : (pts.length : Int) = 0 := f1
    have f2 : (cir.length : Int) = 1 := f2
    have f3 : (m : Int) = 1 := f3
    obtain rfl : pts = [] := List.eq_nil_of_length_eq_zero (by omega)
    obtain ⟨u0, rfl, hu0⟩ := wi1 f5 (by omega)
    obtain ⟨x0, hx0, hxl0⟩ := cen hc (i := u0) (by omega)
    obtain ⟨q0, rfl⟩ := ql1 (qs := qs) (by omega)
    exact ok14 cs n (by omega) c3 side q0 (hq q0 (by simp)) u0 x0 (by omega) (by omega) hx0 (by omega)
  · have f1 : (pts.length : Int) = 0 := f1
    have f2 : (cir.length : Int) = 2 := f2
    have f3 : (m : Int) = 0 := f3
    obtain rfl : pts = [] := List.eq_nil_of_length_eq_zero (by omega)
    obtain ⟨u0, u1, rfl, hu0, hu1⟩ := wi2 f5 (by omega)
    obtain ⟨x0, hx0, hxl0⟩ := cen hc (i := u0) (by omega)
    obtain ⟨x1, hx1, hxl1⟩ := cen hc (i := u1) (by omega)
    obtain rfl : qs = [] := List.eq_nil_of_length_eq_zero (by omega)
    exact ok15 cs n (by omega) c3 side u0 x0 (by omega) (by omega) hx0 (by omega) u1 x1 (by omega) (by omega) hx1 (by omega)
  · have f1 : (pts.length : Int) = 2 := f1
    have f2 : (cir.length : Int) = 1 := f2
    have f3 : (m : Int) = 0 := f3
    obtain ⟨a, b, rfl, ha, hb⟩ := wi2 f4 (by omega)
    obtain ⟨u0, rfl, hu0⟩ := wi1 f5 (by omega)
    obtain ⟨x0, hx0, hxl0⟩ := cen hc (i := u0) (by omega)
    obtain rfl : qs = [] := List.eq_nil_of_length_eq_zero (by omega)
    exact ok16 cs n (by omega) c3 side a b (by omega) (by omega) u0 x0 (by omega) (by omega) hx0 (by omega)
  · have f1 : (pts.length : Int) = 0 := f1
    have f2 : (cir.length : Int) = 2 := f2
    have f3 : (m : Int) = 0 := f3
    obtain rfl : pts = [] := List.eq_nil_of_length_eq_zero (by omega)
    obtain ⟨u0, u1, rfl, hu0, hu1⟩ := wi2 f5 (by omega)
    obtain ⟨x0, hx0, hxl0⟩ := cen hc (i := u0) (by omega)
    obtain ⟨x1, hx1, hxl1⟩ := cen hc (i := u1) (by omega)
    obtain rfl : qs = [] := List.eq_nil_of_length_eq_zero (by omega)
    have f6 : side = 1 ∨ side = -1 := by have : sideB true side = true := f6; unfold sideB at this; rw [if_pos rfl] at this; simpa using this
    rcases f6 with rfl | rfl
    · exact ok17p cs n (by omega) c3 u0 x0 (by omega) (by omega) hx0 (by omega) u1 x1 (by omega) (by omega) hx1 (by omega)
    · exact ok17m cs n (by omega) c3 u0 x0 (by omega) (by omega) hx0 (by omega) u1 x1 (by omega) (by omega) hx1 (by omega)
open Go Go.Eng
theorem cValid_out (k : Int) (h : k < 1 ∨ 17 < k) (pts cir : List Int) (m : Nat) (f : Nat → Nat → C) (side np nc : Int) :
    Pr Tryz.prog 15 [.agg [.int .i64 k, .ints .i64 pts, .ints .i64 cir, .rows 7 m f, .int .i64 side], .one (.int .i64 np), .one (.int .i64 nc)] (.one (.bool false)) := by
  have ko := kOf_out k h
  unfold rowF at ko
  refine pv T_ok mixed Tryz.func15 rfl (by decide) _ (by simp [Tryz.ntmps15]) ⟨[0, 1, 2, 3, 6, 7, 8, 9, 10, 11, 57, 62, 71, 93, 97, 98], []⟩ (by kernel_rfl) _ ?_
  show vc T _ _ (Option.get! Tryz.f15.body) _ _
  simp only [Tryz.f15,Tryz.ntmps15,Option.get!,iS,iM,eO,J1]
  simp only [vx,T,K5,J0,K6,K7,↓reduceIte,J1,J2,J3,J4,J5,J6,J7,J8,J9,reduceCtorEq,K1,K2,K3,K4]
  refine Cg ko ?_
  simp only [vx,T,K5,J0,K6,K7,↓reduceIte,J1,J2,J3,J4,J5,J6,J7,J8,J9,reduceCtorEq,K1,K2,K3,K4]
  exact Ve rfl
structure RQ where
  s : Bool
  xs : List Int
  t : Bool
  ys : List Int
deriving Inhabited
def rqC (r : RQ) : Nat → C
  | 0 => .bool r.s
  | 1 => .ints .u32 r.xs
  | 2 => .bool r.t
  | 3 => .ints .u32 r.ys
  | _ => .any
def RQs (l : List RQ) : C := .rows 4 l.length (fun i => rqC (l.getD i default))
structure RQOk (r : RQ) : Prop where
  x : InR r.xs
  y : InR r.ys
  xl : r.xs.length < 2 ^ 30
  yl : r.ys.length < 2 ^ 30
def fewB (r : RQ) : Bool := decide ((r.xs.length : Int) ≤ 4) && (decide ((r.ys.length : Int) ≤ 4) && okQ r.s r.xs r.t r.ys)
theorem few_list {l : List RQ} (h : (List.range l.length).all (fun i => fewB (l.getD i default)) = true) : ∃ qs : List Rat, (∀ q ∈ qs, qm q ≤ 4) ∧ qs.length = l.length ∧ CLe (RQs l) (QsC qs) := by
  obtain ⟨g, hg⟩ := Classical.axiomOfChoice (r := fun (i : Nat) (q : Rat) => i < l.length → qm q ≤ 4 ∧ ∀ j, j < 4 → rqC (l.getD i default) j = qC q j) (fun i => by
    by_cases hi : i < l.length
    · have h1 := all_range.1 h i hi
      unfold fewB at h1
      simp only [Bool.and_eq_true,decide_eq_true_eq] at h1
      obtain ⟨h2, h3, h4⟩ := h1
      obtain ⟨q, e1, e2, e3, e4⟩ := okQ_ex h4
      have hl1 : (zm q.num).length ≤ 4 := by rw [← e2]; omega
      have hl2 : (zm (q.den : Int)).length ≤ 4 := by rw [← e4]; omega
      rw [zm_length] at hl1 hl2
      refine ⟨q, fun _ => ⟨?_, fun j hj => ?_⟩⟩
      · unfold qm
        have : zn (q.den : Int) = nl q.den := rfl
        omega
      · match j, hj with
        | 0, _ => show C.bool _ = _; rw [e1]; rfl
        | 1, _ => show C.ints .u32 _ = _; rw [e2]; rfl
        | 2, _ => show C.bool _ = _; rw [e3]; rfl
        | 3, _ => show C.ints .u32 _ = _; rw [e4]; rfl
    · exact ⟨0, fun h => absurd h hi⟩)
  refine ⟨(List.range l.length).map g, fun q hq => ?_, by simp, CLe.rows (by simp) fun i j hi hj => CLe.of_eq ?_⟩
  · obtain ⟨i, hi, rfl⟩ := List.mem_map.1 hq
    exact (hg i (List.mem_range.1 hi)).1
  · have e : ((List.range l.length).map g).getD i default = g i := by
      rw [X7, List.getElem?_map, List.getElem?_range hi]; rfl
    rw [e]
    exact (hg i hi).2 j hj
def caseL (k : Int) (pts cir : List Int) (m : Nat) (f : Nat → Nat → C) (side : Int) (rq : List RQ) (cs : List Int) (np : Int) : List C := [.int .i64 k, .ints .i64 pts, .ints .i64 cir, .rows 7 m f, .int .i64 side, RQs rq, .ints .i64 cs, .int .i64 np]
def fitB (pts cir : List Int) (m : Nat) (rq : List RQ) (cs : List Int) (np : Int) : Bool :=
  decide (0 ≤ np) && (decide (np ≤ 12) && (decide (cs.length ≤ 4) && (decide (pts.length ≤ 8) && (decide (cir.length ≤ 4) && (decide (m ≤ 4) && (decide (rq.length = m) && (wiB cs np && (List.range rq.length).all (fun i => fewB (rq.getD i default)))))))))
theorem fits_spec (k : Int) (pts cir : List Int) (m : Nat) (f : Nat → Nat → C) (side : Int) (rq : List RQ) (cs : List Int) (np : Int) (hpl : pts.length < 2 ^ 40) (hcl : cir.length < 2 ^ 40) (hm : m < 2 ^ 40) (hrl : rq.length < 2 ^ 40) (hsl : cs.length < 2 ^ 40) (hrq : ∀ r ∈ rq, RQOk r) (b : Bool)
    (hv : Pr Tryz.prog 15 [.agg [.int .i64 k, .ints .i64 pts, .ints .i64 cir, .rows 7 m f, .int .i64 side], .one (.int .i64 np), .one (.int .i64 cs.length)] (.one (.bool b))) :
    Pr Tryz.prog 5 [.agg (caseL k pts cir m f side rq cs np)] (.one (.bool (fitB pts cir m rq cs np && b))) := by
  have hfew : ∀ i, i < rq.length → Pr Tryz.prog 14 [.agg [.bool (rq.getD i default).s, .ints .u32 (rq.getD i default).xs, .bool (rq.getD i default).t, .ints .u32 (rq.getD i default).ys], .one (.int .i64 4)] (.one (.bool (fewB (rq.getD i default)))) := fun i hi => by
    have h := hrq (rq.getD i default) (by rw [X7, X8 hi]; exact List.getElem_mem _)
    exact Few_spec _ _ _ _ 4 h.x h.y (by have := h.xl; omega) (by have := h.yl; omega)
  unfold caseL
  refine pv T_ok mixed Tryz.func5 rfl (by decide) _ (by simp [Tryz.ntmps5]) ⟨[0, 1, 2, 4, 6, 51, 53, 54, 55, 56, 66, 69, 70, 71, 72, 77], []⟩ (by kernel_rfl) _ ?_
  show vc T _ _ (Option.get! Tryz.f5.body) _ _
  simp only [Tryz.f5,Tryz.ntmps5,Option.get!,iS,iM,eO,J1]
  simp only [vx,T,K5,J0,K6,K7,↓reduceIte,J1,J2,J3,J4,J5,J6,J7,J8,J9,reduceCtorEq,K1,K2,K3,K4,RQs]
  refine ⟨fun g1 => Lg ?_, fun g1 => Lg ?_⟩
  · simp only [vx,T,K5,J0,K6,K7,↓reduceIte,J1,J2,J3,J4,J5,J6,J7,J8,J9,reduceCtorEq,K1,K2,K3,K4,RQs]
    exact vb (by unfold fitB; rw [decide_eq_false (p := 0 ≤ np) (by omega)]; rfl)
  · simp only [vx,T,K5,J0,K6,K7,↓reduceIte,J1,J2,J3,J4,J5,J6,J7,J8,J9,reduceCtorEq,K1,K2,K3,K4,RQs]
    refine ⟨fun g2 => Lg ?_, fun g2 => Lg ?_⟩
    · simp only [vx,T,K5,J0,K6,K7,↓reduceIte,J1,J2,J3,J4,J5,J6,J7,J8,J9,reduceCtorEq,K1,K2,K3,K4,RQs]
      exact vb (by unfold fitB; rw [decide_eq_false (p := np ≤ 12) (by omega), Bool.false_and, Bool.and_false]; rfl)
    · simp only [vx,T,K5,J0,K6,K7,↓reduceIte,J1,J2,J3,J4,J5,J6,J7,J8,J9,reduceCtorEq,K1,K2,K3,K4,RQs]
      refine ⟨fun g3 => Lg ?_, fun g3 => Lg ?_⟩
      · simp only [vx,T,K5,J0,K6,K7,↓reduceIte,J1,J2,J3,J4,J5,J6,J7,J8,J9,reduceCtorEq,K1,K2,K3,K4,RQs]
        exact vb (by unfold fitB; rw [decide_eq_false (p := cs.length ≤ 4) (by omega), Bool.false_and, Bool.and_false, Bool.and_false]; rfl)
      · simp only [vx,T,K5,J0,K6,K7,↓reduceIte,J1,J2,J3,J4,J5,J6,J7,J8,J9,reduceCtorEq,K1,K2,K3,K4,RQs]
        refine ⟨fun g4 => Lg ?_, fun g4 => Lg ?_⟩
        · simp only [vx,T,K5,J0,K6,K7,↓reduceIte,J1,J2,J3,J4,J5,J6,J7,J8,J9,reduceCtorEq,K1,K2,K3,K4,RQs]
          exact vb (by unfold fitB; rw [decide_eq_false (p := pts.length ≤ 8) (by omega), Bool.false_and, Bool.and_false, Bool.and_false, Bool.and_false]; rfl)
        · simp only [vx,T,K5,J0,K6,K7,↓reduceIte,J1,J2,J3,J4,J5,J6,J7,J8,J9,reduceCtorEq,K1,K2,K3,K4,RQs]
          refine ⟨fun g5 => Lg ?_, fun g5 => Lg ?_⟩
          · simp only [vx,T,K5,J0,K6,K7,↓reduceIte,J1,J2,J3,J4,J5,J6,J7,J8,J9,reduceCtorEq,K1,K2,K3,K4,RQs]
            exact vb (by unfold fitB; rw [decide_eq_false (p := cir.length ≤ 4) (by omega), Bool.false_and, Bool.and_false, Bool.and_false, Bool.and_false, Bool.and_false]; rfl)
          · simp only [vx,T,K5,J0,K6,K7,↓reduceIte,J1,J2,J3,J4,J5,J6,J7,J8,J9,reduceCtorEq,K1,K2,K3,K4,RQs]
            refine ⟨fun g6 => Lg ?_, fun g6 => Lg ?_⟩
            · simp only [vx,T,K5,J0,K6,K7,↓reduceIte,J1,J2,J3,J4,J5,J6,J7,J8,J9,reduceCtorEq,K1,K2,K3,K4,RQs]
              exact vb (by unfold fitB; rw [decide_eq_false (p := m ≤ 4) (by omega), Bool.false_and, Bool.and_false, Bool.and_false, Bool.and_false, Bool.and_false, Bool.and_false]; rfl)
            · simp only [vx,T,K5,J0,K6,K7,↓reduceIte,J1,J2,J3,J4,J5,J6,J7,J8,J9,reduceCtorEq,K1,K2,K3,K4,RQs]
              refine ⟨fun g7 => Lg ?_, fun g7 => Lg ?_⟩
              · simp only [vx,T,K5,J0,K6,K7,↓reduceIte,J1,J2,J3,J4,J5,J6,J7,J8,J9,reduceCtorEq,K1,K2,K3,K4,RQs]
                exact vb (by unfold fitB; rw [decide_eq_false (p := rq.length = m) (by omega), Bool.false_and, Bool.and_false, Bool.and_false, Bool.and_false, Bool.and_false, Bool.and_false, Bool.and_false]; rfl)
              · simp only [vx,T,K5,J0,K6,K7,↓reduceIte,J1,J2,J3,J4,J5,J6,J7,J8,J9,reduceCtorEq,K1,K2,K3,K4,RQs]
                have ef : fitB pts cir m rq cs np = (wiB cs np && (List.range rq.length).all (fun i => fewB (rq.getD i default))) := by
                  unfold fitB
                  rw [decide_eq_true (p := 0 ≤ np) (by omega), decide_eq_true (p := np ≤ 12) (by omega), decide_eq_true (p := cs.length ≤ 4) (by omega), decide_eq_true (p := pts.length ≤ 8) (by omega), decide_eq_true (p := cir.length ≤ 4) (by omega), decide_eq_true (p := m ≤ 4) (by omega), decide_eq_true (p := rq.length = m) (by omega)]
                  simp only [Bool.true_and]
                rw [ef]
                refine Lk (fun y : {i : Nat // i ≤ cs.length ∧ ∀ j, j < i → 0 ≤ cs.getD j 0 ∧ cs.getD j 0 < np} => ⟨[(1, .one (.ptr 1 0)), (2, .one (.bool false)), (53, .one (.ints .i64 cs)), (54, .one (.int .i64 cs.length)), (55, .one (.int .i64 y.1))], [(1, ⟨.var [.int .i64 k, .ints .i64 pts, .ints .i64 cir, .rows 7 m f, .int .i64 side, RQs rq, .ints .i64 cs, .int .i64 np], true⟩)], 52, 87⟩) (fun y => cs.length - y.1) ⟨0, Nat.zero_le _, fun j h => absurd h (Nat.not_lt_zero _)⟩ ?_ (fun ⟨i, hi, hz⟩ => ?_)
                · refine Sa ?_; simp only [rx,Y0,Y1,Y2,Y3,Y4,Y5,Y6,Y7,ren,↓reduceIte,J1,J2,J3,J4,J5,J6,J7,J8,J9,reduceCtorEq,K1,K2,K3,K4,Y8,Y9,X2,X3,X4,RQs]
                have i1 := wI i (by omega)
                simp only [vx,T,K5,J0,K6,K7,↓reduceIte,J1,J2,J3,J4,J5,J6,J7,J8,J9,reduceCtorEq,K1,K2,K3,K4,RQs]
                refine ⟨fun l1 => Lg ?_, fun l1 => Lg ?_⟩
                · have hil : i < cs.length := by omega
                  obtain ⟨x, hx⟩ : ∃ x, x = cs.getD i 0 := ⟨_, rfl⟩
                  simp only [vx,T,K5,J0,K6,K7,↓reduceIte,J1,J2,J3,J4,J5,J6,J7,J8,J9,reduceCtorEq,K1,K2,K3,K4,RQs,← hx]
                  refine ⟨⟨by omega, by omega⟩, fun l2 => Lg ?_, fun l2 => Lg ?_⟩
                  · simp only [vx,T,K5,J0,K6,K7,↓reduceIte,J1,J2,J3,J4,J5,J6,J7,J8,J9,reduceCtorEq,K1,K2,K3,K4,RQs]
                    exact vb (by rw [show wiB cs np = false from all_range_f hil (by rw [← hx]; simp; omega)]; rfl)
                  · simp only [vx,T,K5,J0,K6,K7,↓reduceIte,J1,J2,J3,J4,J5,J6,J7,J8,J9,reduceCtorEq,K1,K2,K3,K4,RQs]
                    refine ⟨fun l3 => Lg ?_, fun l3 => Lg ?_⟩
                    · simp only [vx,T,K5,J0,K6,K7,↓reduceIte,J1,J2,J3,J4,J5,J6,J7,J8,J9,reduceCtorEq,K1,K2,K3,K4,RQs]
                      exact vb (by rw [show wiB cs np = false from all_range_f hil (by rw [← hx]; simp; omega)]; rfl)
                    · simp only [vx,T,K5,J0,K6,K7,↓reduceIte,J1,J2,J3,J4,J5,J6,J7,J8,J9,reduceCtorEq,K1,K2,K3,K4,RQs]
                      simp only [i1]
                      refine Lq ⟨i + 1, by omega, fun j hj => ?_⟩ ?_ ?_
                      · by_cases hji : j < i
                        · exact hz j hji
                        · rw [show j = i by omega, ← hx]; omega
                      · refine Sa ?_; simp only [rx,Y0,Y1,Y2,Y3,Y4,Y5,Y6,Y7,ren,↓reduceIte,J1,J2,J3,J4,J5,J6,J7,J8,J9,reduceCtorEq,K1,K2,K3,K4,Y8,Y9,X2,X3,X4,RQs]
                      · simp only; omega
                · have ew : wiB cs np = true := all_range.2 fun j hj => by
                    have := hz j (by omega)
                    simp only [Bool.and_eq_true,decide_eq_true_eq]
                    exact this
                  rw [ew, Bool.true_and]
                  clear ef ew hz
                  simp only [vx,T,K5,J0,K6,K7,↓reduceIte,J1,J2,J3,J4,J5,J6,J7,J8,J9,reduceCtorEq,K1,K2,K3,K4,RQs]
                  refine Lk (fun y : {i : Nat // i ≤ rq.length ∧ ∀ j, j < i → fewB (rq.getD j default) = true} => ⟨[(1, .one (.ptr 1 0)), (2, .one (.bool false)), (69, .one (RQs rq)), (70, .one (.int .i64 rq.length)), (71, .one (.int .i64 y.1))], [(1, ⟨.var [.int .i64 k, .ints .i64 pts, .ints .i64 cir, .rows 7 m f, .int .i64 side, RQs rq, .ints .i64 cs, .int .i64 np], true⟩)], 57, 87⟩) (fun y => rq.length - y.1) ⟨0, Nat.zero_le _, fun j h => absurd h (Nat.not_lt_zero _)⟩ ?_ (fun ⟨i, hi, hz⟩ => ?_)
                  · refine Sa ?_; simp only [rx,Y0,Y1,Y2,Y3,Y4,Y5,Y6,Y7,ren,↓reduceIte,J1,J2,J3,J4,J5,J6,J7,J8,J9,reduceCtorEq,K1,K2,K3,K4,Y8,Y9,X2,X3,X4,RQs]
                  have i1 := wI i (by omega)
                  simp only [vx,T,K5,J0,K6,K7,↓reduceIte,J1,J2,J3,J4,J5,J6,J7,J8,J9,reduceCtorEq,K1,K2,K3,K4,RQs]
                  refine ⟨fun l2 => Lg ?_, fun l2 => Lg ?_⟩
                  · have hil : i < rq.length := by omega
                    have hfi := hfew i hil
                    obtain ⟨x, hx⟩ : ∃ x, x = rq.getD i default := ⟨_, rfl⟩
                    rw [← hx] at hfi
                    simp only [vx,T,K5,J0,K6,K7,↓reduceIte,J1,J2,J3,J4,J5,J6,J7,J8,J9,reduceCtorEq,K1,K2,K3,K4,RQs,← hx,rqC]
                    refine ⟨⟨by omega, by omega⟩, Cg hfi ?_⟩
                    simp only [vx,T,K5,J0,K6,K7,↓reduceIte,J1,J2,J3,J4,J5,J6,J7,J8,J9,reduceCtorEq,K1,K2,K3,K4,RQs]
                    refine ⟨fun l3 => Lg ?_, fun l3 => Lg ?_⟩
                    · have l3 : fewB x = false := by simpa using l3
                      simp only [vx,T,K5,J0,K6,K7,↓reduceIte,J1,J2,J3,J4,J5,J6,J7,J8,J9,reduceCtorEq,K1,K2,K3,K4,RQs]
                      exact vb (by rw [show (List.range rq.length).all (fun i => fewB (rq.getD i default)) = false from all_range_f hil (by rw [← hx]; exact l3)]; rfl)
                    · have l3 : fewB x = true := by simpa using l3
                      simp only [vx,T,K5,J0,K6,K7,↓reduceIte,J1,J2,J3,J4,J5,J6,J7,J8,J9,reduceCtorEq,K1,K2,K3,K4,RQs]
                      simp only [i1]
                      refine Lq ⟨i + 1, by omega, fun j hj => ?_⟩ ?_ ?_
                      · by_cases hji : j < i
                        · exact hz j hji
                        · rw [show j = i by omega, ← hx]; exact l3
                      · refine Sa ?_; simp only [rx,Y0,Y1,Y2,Y3,Y4,Y5,Y6,Y7,ren,↓reduceIte,J1,J2,J3,J4,J5,J6,J7,J8,J9,reduceCtorEq,K1,K2,K3,K4,Y8,Y9,X2,X3,X4,RQs]
                      · simp only; omega
                  · have er : (List.range rq.length).all (fun i => fewB (rq.getD i default)) = true := all_range.2 fun j hj => hz j (by omega)
                    rw [er, Bool.true_and]
                    simp only [vx,T,K5,J0,K6,K7,↓reduceIte,J1,J2,J3,J4,J5,J6,J7,J8,J9,reduceCtorEq,K1,K2,K3,K4,RQs]
                    refine Cg hv ?_
                    simp only [vx,T,K5,J0,K6,K7,↓reduceIte,J1,J2,J3,J4,J5,J6,J7,J8,J9,reduceCtorEq,K1,K2,K3,K4,RQs]
                    exact Ve rfl
theorem lawOf_false (k : Int) (pts cir : List Int) (m : Nat) (f : Nat → Nat → C) (side : Int) (rq : List RQ) (cs : List Int) (np : Int)
    (hf : Pr Tryz.prog 5 [.agg (caseL k pts cir m f side rq cs np)] (.one (.bool false))) :
    Pr Tryz.prog 3 [.agg (caseL k pts cir m f side rq cs np)] (.one (.bool true)) := by
  unfold caseL at hf ⊢
  refine pv T_ok mixed Tryz.func3 rfl (by decide) _ (by simp [Tryz.ntmps3]) ⟨[0, 1, 2, 3, 5, 12, 23, 24, 25, 26, 31], []⟩ (by kernel_rfl) _ ?_
  show vc T _ _ (Option.get! Tryz.f3.body) _ _
  simp only [Tryz.f3,Tryz.ntmps3,Option.get!,iS,iM,eO,J1]
  simp only [vx,T,K5,J0,K6,K7,↓reduceIte,J1,J2,J3,J4,J5,J6,J7,J8,J9,reduceCtorEq,K1,K2,K3,K4]
  refine Cg awake_spec ?_
  simp only [vx,T,K5,J0,K6,K7,↓reduceIte,J1,J2,J3,J4,J5,J6,J7,J8,J9,reduceCtorEq,K1,K2,K3,K4]
  refine Cg hf ?_
  simp only [vx,T,K5,J0,K6,K7,↓reduceIte,J1,J2,J3,J4,J5,J6,J7,J8,J9,reduceCtorEq,K1,K2,K3,K4]
  refine Cg awake_spec ?_
  simp only [vx,T,K5,J0,K6,K7,↓reduceIte,J1,J2,J3,J4,J5,J6,J7,J8,J9,reduceCtorEq,K1,K2,K3,K4]
  exact Ve rfl
theorem lawOf_true (k : Int) (pts cir : List Int) (m : Nat) (f : Nat → Nat → C) (side : Int) (rq : List RQ) (cs : List Int) (np : Int)
    (hf : Pr Tryz.prog 5 [.agg (caseL k pts cir m f side rq cs np)] (.one (.bool true))) (ps : List (List Mono)) (hl : ps.length < 2 ^ 30) (hp : ∀ p ∈ ps, FinP p)
    (hi : Pr Tryz.prog 6 [.agg [.int .i64 k, .ints .i64 pts, .ints .i64 cir, .rows 7 m f, .int .i64 side], .one (RQs rq), .one (.ints .i64 cs), .one (.int .i64 np)] (LV ps))
    (hr : Pr Tryz.prog 9 [.agg [.int .i64 k, .ints .i64 pts, .ints .i64 cir, .rows 7 m f, .int .i64 side], .one (RQs rq), .one (.ints .i64 cs), .one (.int .i64 np)] (LV ps)) :
    Pr Tryz.prog 3 [.agg (caseL k pts cir m f side rq cs np)] (.one (.bool true)) := by
  have hs := sameAll_true ps (fun p h => (hp p h).pok) hl
  unfold caseL at hf ⊢
  refine pv T_ok mixed Tryz.func3 rfl (by decide) _ (by simp [Tryz.ntmps3]) ⟨[0, 1, 2, 3, 5, 12, 23, 24, 25, 26, 31], []⟩ (by kernel_rfl) _ ?_
  show vc T _ _ (Option.get! Tryz.f3.body) _ _
  simp only [Tryz.f3,Tryz.ntmps3,Option.get!,iS,iM,eO,J1]
  simp only [vx,T,K5,J0,K6,K7,↓reduceIte,J1,J2,J3,J4,J5,J6,J7,J8,J9,reduceCtorEq,K1,K2,K3,K4]
  refine Cg awake_spec ?_
  simp only [vx,T,K5,J0,K6,K7,↓reduceIte,J1,J2,J3,J4,J5,J6,J7,J8,J9,reduceCtorEq,K1,K2,K3,K4]
  refine Cg hf ?_
  simp only [vx,T,K5,J0,K6,K7,↓reduceIte,J1,J2,J3,J4,J5,J6,J7,J8,J9,reduceCtorEq,K1,K2,K3,K4]
  refine Cg hi ?_
  simp only [vx,T,K5,J0,K6,K7,↓reduceIte,J1,J2,J3,J4,J5,J6,J7,J8,J9,reduceCtorEq,K1,K2,K3,K4,LV,LC,RQs]
  refine Lk (fun y : {i : Nat // i ≤ ps.length} => ⟨[(1, .one (.ptr 1 0)), (2, .one (.bool false)), (3, LV ps), (23, LV ps), (24, .one (.int .i64 ps.length)), (25, .one (.int .i64 y.1))], [(1, ⟨.var [.int .i64 k, .ints .i64 pts, .ints .i64 cir, .rows 7 m f, .int .i64 side, RQs rq, .ints .i64 cs, .int .i64 np], true⟩)], 23, 44⟩) (fun y => ps.length - y.1) ⟨0, Nat.zero_le _⟩ ?_ (fun ⟨i, hi⟩ => ?_)
  · refine Sa ?_; simp only [rx,Y0,Y1,Y2,Y3,Y4,Y5,Y6,Y7,ren,↓reduceIte,J1,J2,J3,J4,J5,J6,J7,J8,J9,reduceCtorEq,K1,K2,K3,K4,Y8,Y9,X2,X3,X4,LV,LC,RQs]
  have i1 := wI i (by omega)
  simp only [vx,T,K5,J0,K6,K7,↓reduceIte,J1,J2,J3,J4,J5,J6,J7,J8,J9,reduceCtorEq,K1,K2,K3,K4,LV,LC,RQs]
  refine ⟨fun l1 => Lg ?_, fun l1 => Lg ?_⟩
  · have hil : i < ps.length := by omega
    have hpi : FinP (ps.getD i default) := hp _ (by rw [X7, X8 hil]; exact List.getElem_mem _)
    obtain ⟨p, hpe⟩ : ∃ p, p = ps.getD i default := ⟨_, rfl⟩
    rw [← hpe] at hpi
    simp only [vx,T,K5,J0,K6,K7,↓reduceIte,J1,J2,J3,J4,J5,J6,J7,J8,J9,reduceCtorEq,K1,K2,K3,K4,LV,LC,RQs,← hpe,PC]
    refine ⟨by omega, Cg hpi.valid ?_⟩
    simp only [vx,T,K5,J0,K6,K7,↓reduceIte,J1,J2,J3,J4,J5,J6,J7,J8,J9,reduceCtorEq,K1,K2,K3,K4,LV,LC,RQs]
    simp only [i1]
    refine Lq ⟨i + 1, by omega⟩ ?_ ?_
    · refine Sa ?_; simp only [rx,Y0,Y1,Y2,Y3,Y4,Y5,Y6,Y7,ren,↓reduceIte,J1,J2,J3,J4,J5,J6,J7,J8,J9,reduceCtorEq,K1,K2,K3,K4,Y8,Y9,X2,X3,X4,LV,LC,RQs]
    · simp only; omega
  · simp only [vx,T,K5,J0,K6,K7,↓reduceIte,J1,J2,J3,J4,J5,J6,J7,J8,J9,reduceCtorEq,K1,K2,K3,K4,LV,LC,RQs]
    refine Cg hr ?_
    simp only [vx,T,K5,J0,K6,K7,↓reduceIte,J1,J2,J3,J4,J5,J6,J7,J8,J9,reduceCtorEq,K1,K2,K3,K4,LV,LC,RQs]
    refine Cg hs ?_
    simp only [vx,T,K5,J0,K6,K7,↓reduceIte,J1,J2,J3,J4,J5,J6,J7,J8,J9,reduceCtorEq,K1,K2,K3,K4,LV,LC,RQs]
    exact Ve rfl
open Go Go.Eng
def LeL : List C → List C → Prop
  | [], [] => True
  | a :: x, b :: y => CLe a b ∧ LeL x y
  | _, _ => False
theorem LeL.rep {ok : Nat → Prop} {w : World} : ∀ {a b : List C} {vs : List Value}, LeL a b → RepL loc0 dom0 ok w a vs → RepL loc0 dom0 ok w b vs
  | [], [], _, _, h => h
  | _ :: _, _ :: _, [], _, h => h.elim
  | _ :: _, _ :: _, _ :: _, ha, h => ⟨RepC.of_repI (ha.1 _ _ _ (RepI.of_loc0 h.1)), LeL.rep ha.2 h.2⟩
  | [], _ :: _, _, ha, _ => ha.elim
  | _ :: _, [], _, ha, _ => ha.elim
theorem VLeN_agg {a b : List C} (h : LeL a b) : VLeN (.agg a) (.agg b) := fun ok w v hr => by
  obtain ⟨vs, e, hl⟩ := hr
  exact ⟨vs, e, h.rep hl⟩
set_option maxRecDepth 100000 in
theorem closed2 : closedB Tryz.prog [28, 25, 26, 23, 44, 41, 39, 4, 37, 113, 22, 3, 9] = true := by kernel_rfl
set_option maxRecDepth 100000 in
theorem okb_rats {B n : Nat} {cs : List C} (h : OkC Tryz.prog B n 26 cs) : ∃ (c : C) (rq : List RQ), cs = [c] ∧ CLe c (RQs rq) ∧ rq.length ≤ B ∧ ∀ r ∈ rq, (InR r.xs ∧ r.xs.length ≤ B) ∧ InR r.ys ∧ r.ys.length ≤ B := by
  cases n with
  | zero => exact h.elim
  | succ n =>
    simp only [OkC,Tryz.underlying26,Tryz.underlying41] at h
    obtain ⟨m, f, rfl, hB, hm⟩ := h
    have h4 : Tryz.prog.cellsOf 41 = 4 := by kernel_rfl
    rw [h4] at hm ⊢
    obtain ⟨g, hg⟩ := Classical.axiomOfChoice (r := fun (i : Nat) (a : RQ) => i < m → (List.range 4).map (f i) = (List.range 4).map (rqC a) ∧ (InR a.xs ∧ a.xs.length ≤ B) ∧ InR a.ys ∧ a.ys.length ≤ B) (fun i => by
      by_cases hi : i < m
      · obtain ⟨s, xs, t, ys, h1, h2, h3⟩ := okb_rat (hm i hi); exact ⟨⟨s, xs, t, ys⟩, fun _ => ⟨h1, h2, h3⟩⟩
      · exact ⟨default, fun h => absurd h hi⟩)
    refine ⟨_, (List.range m).map g, rfl, CLe.rows (by simp) fun i j hi hj => CLe.of_eq ?_, by simpa using hB, fun a ha => ?_⟩
    · have h1 := congrArg (fun l : List C => l[j]?) (hg i hi).1
      simp only [List.getElem?_map,List.getElem?_range hj,Option.map_some,Option.some.injEq] at h1
      rw [h1]
      congr 1
      rw [X7, List.getElem?_map, List.getElem?_range hi]; rfl
    · obtain ⟨i, hi, rfl⟩ := List.mem_map.1 ha
      exact (hg i (List.mem_range.1 hi)).2
structure ConOk (B : Nat) (pts cir : List Int) (m : Nat) (f : Nat → Nat → C) : Prop where
  hp : pts.length ≤ B
  hc : cir.length ≤ B
  hm : m ≤ B
  hf : ∃ j, ∀ i, i < m → OkC Tryz.prog B j 44 [f i 0, f i 1, f i 2, f i 3, f i 4, f i 5, f i 6]
set_option maxRecDepth 100000 in
theorem okb_con {B n : Nat} {cs : List C} (h : OkC Tryz.prog B n 25 cs) : ∃ k pts cir m f side, cs = [.int .i64 k, .ints .i64 pts, .ints .i64 cir, .rows 7 m f, .int .i64 side] ∧ ConOk B pts cir m f := by
  cases n with
  | zero => exact h.elim
  | succ n =>
    simp only [OkC,Tryz.underlying25] at h
    obtain ⟨c1, r1, rfl, h1, c2, r2, rfl, h2, c3, r3, rfl, h3, c4, r4, rfl, h4, c5, r5, rfl, h5, h6⟩ := h
    have h6 : r5 = [] := h6
    subst h6
    obtain ⟨k, rfl, _⟩ := okb_i64 h1
    obtain ⟨pts, rfl, hp⟩ := okb_i64s h2
    obtain ⟨cir, rfl, hc⟩ := okb_i64s h3
    obtain ⟨side, rfl, _⟩ := okb_i64 h5
    cases n with
    | zero => exact h4.elim
    | succ j =>
      simp only [OkC,Tryz.underlying23,Tryz.underlying44] at h4
      obtain ⟨m, f, rfl, hm, hf⟩ := h4
      have h7 : Tryz.prog.cellsOf 44 = 7 := by kernel_rfl
      rw [h7] at hf ⊢
      exact ⟨k, pts, cir, m, f, side, rfl, ⟨hp, hc, hm, j, hf⟩⟩
structure CaseOk (B : Nat) (pts cir : List Int) (m : Nat) (f : Nat → Nat → C) (rq : List RQ) (cs : List Int) : Prop where
  hcon : ConOk B pts cir m f
  hr : rq.length ≤ B ∧ ∀ r ∈ rq, (InR r.xs ∧ r.xs.length ≤ B) ∧ InR r.ys ∧ r.ys.length ≤ B
  hs : cs.length ≤ B
set_option maxRecDepth 100000 in
theorem okb_case {B n : Nat} {cells : List C} (h : OkC Tryz.prog B n 28 cells) : ∃ k pts cir m f side rq cs np, LeL cells (caseL k pts cir m f side rq cs np) ∧ CaseOk B pts cir m f rq cs := by
  cases n with
  | zero => exact h.elim
  | succ n =>
    simp only [OkC,Tryz.underlying28] at h
    obtain ⟨c1, r1, rfl, h1, c2, r2, rfl, h2, c3, r3, rfl, h3, c4, r4, rfl, h4, h5⟩ := h
    have h5 : r4 = [] := h5
    subst h5
    obtain ⟨k, pts, cir, m, f, side, rfl, hcon⟩ := okb_con h1
    obtain ⟨c, rq, rfl, hle, hr⟩ := okb_rats h2
    obtain ⟨cs, rfl, hs⟩ := okb_i64s h3
    obtain ⟨np, rfl, _⟩ := okb_i64 h4
    exact ⟨k, pts, cir, m, f, side, rq, cs, np, ⟨.refl _, .refl _, .refl _, .refl _, .refl _, hle, .refl _, .refl _, trivial⟩, ⟨hcon, hr, hs⟩⟩
theorem lawOf_spec {B n : Nat} (hB : B ≤ 2 ^ 20) {cells : List C} (h : OkC Tryz.prog B n 28 cells) : Pr Tryz.prog 3 [.agg cells] (.one (.bool true)) := by
  obtain ⟨k, pts, cir, m, f, side, rq, cs, np, hle, hok⟩ := okb_case h
  refine Pr.args (ys := [.agg (caseL k pts cir m f side rq cs np)]) ?_ ⟨VLeN_agg hle, trivial⟩
  clear hle h
  obtain ⟨⟨hp, hc, hm, j, hf⟩, ⟨hr, hrq⟩, hs⟩ := hok
  have hrq : ∀ r ∈ rq, RQOk r := fun r h => by
    have := hrq r h
    exact ⟨this.1.1, this.2.1, by omega, by omega⟩
  by_cases hk : 1 ≤ k ∧ k ≤ 17
  · obtain ⟨kn, rfl⟩ : ∃ kn : Nat, k = kn := ⟨k.toNat, by omega⟩
    have k1 : 1 ≤ kn := by omega
    have k2 : kn ≤ 17 := by omega
    obtain ⟨er, he⟩ := Classical.axiomOfChoice (r := fun (i : Nat) (x : Int) => i < m → Pr Tryz.prog 55 [.agg [f i 0, f i 1, f i 2, f i 3, f i 4, f i 5, f i 6]] (.one (.int .i64 x))) (fun i => by
      by_cases hi : i < m
      · obtain ⟨b, hb⟩ := xValid_ex (B := B) (by omega) j _ (hf i hi); exact ⟨b, fun _ => hb⟩
      · exact ⟨0, fun h => absurd h hi⟩)
    obtain ⟨s, v, e, hrow⟩ := rowT_at k1 k2
    have hv := cValid_spec kn k1 k2 hrow k58 pts cir (by omega) (by omega) m (by omega) f side np cs.length (fun i hi => ExAt.of (hf i hi)) er he
    have hfit := fits_spec kn pts cir m f side rq cs np (by omega) (by omega) (by omega) (by omega) (by omega) hrq _ hv
    cases hb : (fitB pts cir m rq cs np && cvB kn (kP kn) (kC kn) (kN kn) (kB kn) pts cir m np cs.length er side) with
    | false =>
      rw [hb] at hfit
      exact lawOf_false _ _ _ _ _ _ _ _ _ hfit
    | true =>
      rw [hb] at hfit
      obtain ⟨h1, h2⟩ := (Bool.and_eq_true _ _).mp hb
      unfold fitB at h1
      simp only [Bool.and_eq_true,decide_eq_true_eq] at h1
      obtain ⟨a1, a2, a3, a4, a5, a6, a7, a8, a9⟩ := h1
      obtain ⟨np', rfl⟩ : ∃ x : Nat, np = x := ⟨np.toNat, by omega⟩
      obtain ⟨qs, q1, q2, q3⟩ := few_list a9
      obtain ⟨ps, p1, p2, p3, p4⟩ := ofOk kn k1 k2 h2 (by omega) a3 a8 q1 (by omega) (.rows 7 m f)
      have al : VLeA [.agg [.int .i64 (kn : Int), .ints .i64 pts, .ints .i64 cir, .rows 7 m f, .int .i64 side], .one (RQs rq), .one (.ints .i64 cs), .one (.int .i64 (np' : Int))] [.agg [.int .i64 (kn : Int), .ints .i64 pts, .ints .i64 cir, .rows 7 m f, .int .i64 side], .one (QsC qs), .one (.ints .i64 cs), .one (.int .i64 (np' : Int))] := ⟨.refl _, .cell q3, .refl _, .refl _, trivial⟩
      exact lawOf_true _ _ _ _ _ _ _ _ _ hfit ps p4 p3 (p1.args al) (p2.args al)
  · have hv := cValid_out k (by omega) pts cir m f side np cs.length
    have hfit := fits_spec k pts cir m f side rq cs np (by omega) (by omega) (by omega) (by omega) (by omega) hrq _ hv
    rw [Bool.and_false] at hfit
    exact lawOf_false _ _ _ _ _ _ _ _ _ hfit
end Go.Proofs.YtllnmicmblbfaaaGreat
/-
  EquationOf, where what it reads is of bulk at most 1048576: the law returns true, and its argument reads afterwards as it read before. No condition beyond the given row's own cells.
-/
namespace Go.Proofs.YtllnmicmblbfaaaGreat
open Go Go.Proofs Go.Eng Go.ChangeShapes Go.WideShapes Go.ChangeAt Go.RowKit
theorem Tryz.own : ownKnob Tryz.prog.godebug = none := by kernel_rfl
theorem Tryz.laidOut : laidOutB Tryz.prog = true := by kernel_rfl
theorem bulk_one {H : Type} (d : DataW H) : 1 ≤ Rows.uptoBulk d := by
  cases d with
  | lit l => cases l <;> simp [Rows.uptoBulk]
  | nil => simp [Rows.uptoBulk]
  | ptr d => simp [Rows.uptoBulk]
  | slice elems spare => simp [Rows.uptoBulk]
  | agg parts => simp [Rows.uptoBulk]
  | iface t d => simp [Rows.uptoBulk]
  | map entries => simp [Rows.uptoBulk]
  | held h => simp [Rows.uptoBulk]
theorem bulk_len {H : Type} : ∀ l : List (DataW H), l.length ≤ Rows.uptoBulkAll l
  | [] => Nat.zero_le _
  | d :: r => by
    have h1 := bulk_one d
    have h2 := bulk_len r
    simp only [Rows.uptoBulkAll,List.length_cons]
    omega
theorem bulk_mem {H : Type} : ∀ {l : List (DataW H)} {d : DataW H}, d ∈ l → Rows.uptoBulk d ≤ Rows.uptoBulkAll l
  | x :: r, d, h => by
    simp only [Rows.uptoBulkAll]
    rcases List.mem_cons.1 h with rfl | h
    · omega
    · have := bulk_mem h
      omega
theorem bulkOk {H : Type} : BulkOk (Rows.uptoBulk (H := H)) where
  str s := by simp only [Rows.uptoBulk]; omega
  sl el sp := by
    have h1 := bulk_len el
    refine ⟨by simp only [Rows.uptoBulk]; omega, fun d hd => ?_⟩
    have h2 := bulk_mem hd
    simp only [Rows.uptoBulk]; omega
  agg ps d hd := by
    have h2 := bulk_mem hd
    simp only [Rows.uptoBulk]; omega
set_option maxRecDepth 100000 in
theorem equationOf_lifted (os : Os) (started : os.Started) (H : Type) (enc : TypeId × Value → H) (F : Stop.Interp) :
    ReturnsInHanded {} Tryz.checked os 3 .any ((Rows.OpenSpec.upto Rows.equationOfSpec).pre6 enc Tryz.prog Tryz.f3 Rows.equationOfUptoRow.domain false) (((Rows.OpenSpec.upto Rows.equationOfSpec).at F).post enc Tryz.prog Tryz.f3 false true false false) := by
  refine returnsInHanded_of_cond (C := Tryz.checked) (s := Rows.OpenSpec.upto Rows.equationOfSpec) (k := Rows.uptoSmall) rfl Tryz.own started (by kernel_rfl) Tryz.func3
    (OpenSpec.witness (enc := enc) (C := Tryz.checked) (s := Rows.OpenSpec.upto Rows.equationOfSpec) (k := Rows.uptoSmall) rfl false ⟨#[], #[.agg #[.int .i64 0, .slice none 0 0, .slice none 0 0, .slice none 0 0, .int .i64 0, .slice none 0 0, .slice none 0 0, .int .i64 0]], []⟩ 8 (by kernel_rfl) (by kernel_rfl) (by kernel_rfl)
      (x := ([.agg [.agg [.lit (.int .i64 0), .nil, .nil, .nil, .lit (.int .i64 0)], .nil, .nil, .lit (.int .i64 0)]], [], [])) (by kernel_rfl) rfl (by kernel_rfl)) ?_
  intro W base args ds gs before hval0 hW _ hk _
  have hval : ∀ (j : Nat) t v, Tryz.f3.params[j]? = some t → args[j]? = some v → Value.okWide Tryz.prog W .any base t v := hval0
  have hW' : DataW.Whole enc Tryz.prog Tryz.f3.params.toList Rows.equationOfSpec.vars false W args.toList ds gs before := hW
  obtain ⟨p, q, hA0, hV, rfl, hfz, hnd⟩ := hW
  have hA : DataW.TrodAll enc Tryz.prog W 0 (fun _ => true) true Tryz.f3.params.toList args.toList ds p := hA0
  rw [Tryz.params3] at hA hval
  obtain ⟨v0, d0, rfl, rfl, h0⟩ := trodAll_one hA
  obtain ⟨rfl, rfl⟩ := trodVars_none hV
  clear hA0 hval0
  simp only [List.append_nil] at hW'
  have hlt := fun x hx => hW'.lt x hx
  obtain ⟨us, rfl, hsz⟩ := okWide_struct Tryz.underlying28 (hval 0 28 v0 rfl rfl)
  have s0 := fun W' hb => arg_stays (W' := W') Tryz.laidOut (by kernel_rfl) (of_decide_eq_true (by kernel_rfl)) h0 hb (fun x hx => hlt x (hx))
  have hb : Rows.uptoBulk d0 ≤ 1048576 := by
    have := of_decide_eq_true hk
    simp only [List.append_nil,Rows.uptoBulkAll] at this
    omega
  obtain ⟨n, cs, hc, hr⟩ := open_argSB closed2 (by decide) h0 (.inr ⟨bulkOk, hb⟩)
  have hcon := lawOf_spec (by decide) hc
  have hargs : RepVL loc0 dom0 (fun g => g < W.heap.size) W [.agg cs] [.agg us] := ⟨hr, trivial⟩
  refine ((hcon.2 (fun g => g < W.heap.size) W #[.agg us] (fun _ h => h) hargs).mono ?_)
  rintro e W' ⟨v, rfl, hB, hv⟩
  have hv : v = .bool true := hv
  subst hv
  exact ⟨_, rfl, law_post (s := Rows.equationOfSpec) hW' rfl rfl Tryz.underlying4 rfl (trodAll_mk1 (s0 W' hB)) rfl hB⟩
theorem equationOf_holds : Rows.EquationOfUptoSaid :=
  OpenClaim.holds_of_cond 3 Tryz.f3 rfl rfl rfl rfl rfl rfl rfl ⟨rfl, rfl, rfl, rfl, rfl⟩ rfl rfl rfl rfl rfl (by kernel_rfl) Tryz.func3 (by kernel_rfl)
    (of_decide_eq_true (by kernel_rfl)) (by unfold Func.isWrapper; first | (rw [if_pos (by decide +kernel)]; kernel_rfl) | (rw [if_neg (by decide +kernel)]; exact ⟨rfl, rfl⟩))
    (fun os started H enc _ F => equationOf_lifted os started H enc F)
end Go.Proofs.YtllnmicmblbfaaaGreat
