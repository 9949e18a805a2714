/-
  EquationTranslation, where what it reads is of bulk at most 1048576: the law returns true, and each argument reads afterwards as it read before. No condition beyond the given row's own cells.
  (Text 8 of 9; made by a program out of smaller texts.)
-/
import Derived.Test.YtpogdlmhmafjlaaGreatP7
set_option linter.unusedSimpArgs false
set_option linter.unusedVariables false
set_option maxHeartbeats 16000000
set_option maxRecDepth 10000
open Nat renaming reduceAdd → J1, reduceMul → J2, reduceSub → J3, reduceEqDiff → J4, reduceLT → J5, reduceLeDiff → J6, reduceBEq → J7, reduceDiv → J8, reduceMod → J9, reducePow → J0
open Int renaming reduceToNat → K1, reduceLE → K2, reduceLT → K3, reduceEq → K4, reducePow → K5, reduceSub → K6, reduceNeg → K7, natCast_add → X2, natCast_one → X3, natCast_zero → X4
open List renaming getD_cons_zero → X0, getD_cons_succ → X1, length_take → X5, length_append → X6, getD_eq_getElem?_getD → X7, getElem?_eq_getElem → X8
namespace Go.Proofs.YtpogdlmhmafjlaaGreat
open Go Go.Eng
theorem ofc_spec (cs ci : List Int) (i k : Nat) (hi : i < ci.length) (hk : ci.getD i 0 = (k : Int)) (hk2 : k < cs.length) (g g2 : Nat → Nat → C) (hg : g 0 0 = .ints .i64 cs) (hg2 : g2 0 2 = .ints .i64 ci) :
    Pr Tryz.prog 27 [.one (.int .i64 i), .one (.elt (.rows 1 1 g) 1 0 0), .one (.elt (.rows 5 1 g2) 5 0 0)] (.one (.int .i64 (cs.getD k 0))) := by
  refine pv T_ok mixed Tryz.func27 rfl (by decide) _ (by simp [Tryz.ntmps27]) ⟨[0, 1, 2, 4], []⟩ (by kernel_rfl) _ ?_
  show vc T _ _ (Option.get! Tryz.f27.body) _ _
  simp only [Tryz.f27,Tryz.ntmps27,Option.get!,iS,iM,eO,J1]
  simp only [vx,T,K5,J0,K6,K7,↓reduceIte,J1,J2,J3,J4,J5,J6,J7,J8,J9,reduceCtorEq,K1,K2,K3,K4,hg,hg2]
  refine ⟨⟨by omega, by omega⟩, ?_⟩
  rw [hk]
  simp only [vx,T,K5,J0,K6,K7,↓reduceIte,J1,J2,J3,J4,J5,J6,J7,J8,J9,reduceCtorEq,K1,K2,K3,K4]
  refine ⟨⟨by omega, by omega⟩, ?_⟩
  exact Ve rfl
theorem ofr_spec (n : Nat) (ci : List Int) (i k : Nat) (hi : i < ci.length) (hk : ci.getD i 0 = (k : Int)) (hn : n < 2 ^ 40) (hk2 : k < 2 ^ 40) (g g2 : Nat → Nat → C) (hg : g 0 0 = .int .i64 n) (hg2 : g2 0 2 = .ints .i64 ci) :
    Pr Tryz.prog 25 [.one (.int .i64 i), .one (.elt (.rows 1 1 g) 1 0 0), .one (.elt (.rows 5 1 g2) 5 0 0)] (PV (varM (2 * n + k))) := by
  have w1 : IntKind.i64.wrap (2 * (n : Int)) = 2 * (n : Int) := IntWalk.i64_in _ (by omega)
  have w2 : IntKind.i64.wrap (2 * (n : Int) + k) = 2 * (n : Int) + k := IntWalk.i64_in _ (by omega)
  refine pv T_ok mixed Tryz.func25 rfl (by decide) _ (by simp [Tryz.ntmps25]) ⟨[0, 1, 2, 4], []⟩ (by kernel_rfl) _ ?_
  show vc T _ _ (Option.get! Tryz.f25.body) _ _
  simp only [Tryz.f25,Tryz.ntmps25,Option.get!,iS,iM,eO,J1]
  simp only [vx,T,K5,J0,K6,K7,↓reduceIte,J1,J2,J3,J4,J5,J6,J7,J8,J9,reduceCtorEq,K1,K2,K3,K4,hg,hg2,w1]
  refine ⟨⟨by omega, by omega⟩, ?_⟩
  rw [hk, w2]
  refine Cg (var_spec _) ?_
  simp only [vx,T,K5,J0,K6,K7,↓reduceIte,J1,J2,J3,J4,J5,J6,J7,J8,J9,reduceCtorEq,K1,K2,K3,K4,PV,PC]
  exact Ve rfl
theorem iOf2 (cs : List Int) (n : Nat) (hn : n < 2 ^ 40) (c3 : C) (s : Int) (a b : Nat) (ha : a < 2 ^ 40) (hb : b < 2 ^ 40) (q0 : Rat) (hq0 : qm q0 ≤ 4) : Pr Tryz.prog 9 [.agg [.int .i64 2, .ints .i64 [(a : Int), (b : Int)], .ints .i64 [], c3, .int .i64 s], .one (QsC [q0]), .one (.ints .i64 cs), .one (.int .i64 n)] (LV [subM (dotM (wayM a b) (wayM a b)) (mulM (norM [(q0, [])]) (norM [(q0, [])]))]) := by
  have bV0 := NF.num hq0
  have bWab := NW.way a b ha hb
  have bDWabWab := NW.dot bWab bWab
  have bQ := NF.mul bV0 bV0
  have bS := NF.sub bDWabWab bQ
  have cWab := own_way a b ha hb
  have cDWabWab := own_dot bWab bWab (by decide) (by decide)
  have cQ := own_sq bV0 (by decide)
  have cS := own_sub bDWabWab bQ (by decide)
  refine pv T_ok mixed Tryz.func9 rfl (by decide) _ (by simp [Tryz.ntmps9]) ⟨[0, 1, 2, 3, 4, 5, 6, 7, 8, 9, 10, 11, 12, 13, 14, 15, 16, 17, 18, 19, 20, 21, 22, 23, 24, 25, 26, 27, 28, 35, 36, 53, 70, 88, 116, 143, 161, 179, 203, 230, 276, 287, 298, 314, 322, 330, 369], []⟩ (by kernel_rfl) _ ?_
  show vc T _ _ (Option.get! Tryz.f9.body) _ _
  simp only [Tryz.f9,Tryz.ntmps9,Option.get!,iS,iM,eO,J1]
  simp only [vx,T,K5,J0,K6,K7,↓reduceIte,J1,J2,J3,J4,J5,J6,J7,J8,J9,reduceCtorEq,K1,K2,K3,K4,QsC]
  (repeat refine ⟨by omega, ?_⟩)
  refine Cg cWab.1 ?_
  simp only [vx,T,K5,J0,K6,K7,↓reduceIte,J1,J2,J3,J4,J5,J6,J7,J8,J9,reduceCtorEq,K1,K2,K3,K4,VV,PV,PC,LV,LC,X0,X1]
  (repeat refine ⟨by omega, ?_⟩)
  refine Cg cDWabWab.1 ?_
  simp only [vx,T,K5,J0,K6,K7,↓reduceIte,J1,J2,J3,J4,J5,J6,J7,J8,J9,reduceCtorEq,K1,K2,K3,K4,VV,PV,PC,LV,LC,X0,X1]
  (repeat refine ⟨by omega, ?_⟩)
  refine Cg (ofv_spec [q0] 0 (by simp) (by simp) (B := 4) hq0 (by decide) _ rfl) ?_
  simp only [vx,T,K5,J0,K6,K7,↓reduceIte,J1,J2,J3,J4,J5,J6,J7,J8,J9,reduceCtorEq,K1,K2,K3,K4,VV,PV,PC,LV,LC,X0,X1]
  (repeat refine ⟨by omega, ?_⟩)
  refine Cg cQ.1 ?_
  simp only [vx,T,K5,J0,K6,K7,↓reduceIte,J1,J2,J3,J4,J5,J6,J7,J8,J9,reduceCtorEq,K1,K2,K3,K4,VV,PV,PC,LV,LC,X0,X1]
  (repeat refine ⟨by omega, ?_⟩)
  refine Cg cS.1 ?_
  simp only [vx,T,K5,J0,K6,K7,↓reduceIte,J1,J2,J3,J4,J5,J6,J7,J8,J9,reduceCtorEq,K1,K2,K3,K4,VV,PV,PC,LV,LC,X0,X1]
  refine Va ⟨rfl, rfl, fun i' j' hi' hj' => ?_⟩
  obtain rfl : j' = 0 := by omega
  obtain rfl : i' = 0 := by omega
  rfl
theorem iOf13 (cs : List Int) (n : Nat) (hn : n < 2 ^ 40) (c3 : C) (s : Int) (a : Nat) (ha : a < 2 ^ 40) (u0 x0 : Nat) (hu0 : u0 < 2 ^ 40) (hl0 : u0 < cs.length) (hx0 : cs.getD u0 0 = (x0 : Int)) (hxl0 : x0 < 2 ^ 40) : Pr Tryz.prog 9 [.agg [.int .i64 13, .ints .i64 [(a : Int)], .ints .i64 [(u0 : Int)], c3, .int .i64 s], .one (QsC []), .one (.ints .i64 cs), .one (.int .i64 n)] (LV [subM (dotM (wayM x0 a) (wayM x0 a)) (mulM (varM (2 * n + u0)) (varM (2 * n + u0)))]) := by
  have bR0 := NF.var (v := 2 * (n : Int) + u0) (by omega) (by omega)
  have bWx0a := NW.way x0 a hxl0 ha
  have bDWx0aWx0a := NW.dot bWx0a bWx0a
  have bQ := NF.mul bR0 bR0
  have bS := NF.sub bDWx0aWx0a bQ
  have cWx0a := own_way x0 a hxl0 ha
  have cDWx0aWx0a := own_dot bWx0a bWx0a (by decide) (by decide)
  have cQ := own_sq bR0 (by decide)
  have cS := own_sub bDWx0aWx0a bQ (by decide)
  refine pv T_ok mixed Tryz.func9 rfl (by decide) _ (by simp [Tryz.ntmps9]) ⟨[0, 1, 2, 3, 4, 5, 6, 7, 8, 9, 10, 11, 12, 13, 14, 15, 16, 17, 18, 19, 20, 21, 22, 23, 24, 25, 26, 27, 28, 35, 36, 53, 70, 88, 116, 143, 161, 179, 203, 230, 276, 287, 298, 314, 322, 330, 369], []⟩ (by kernel_rfl) _ ?_
  show vc T _ _ (Option.get! Tryz.f9.body) _ _
  simp only [Tryz.f9,Tryz.ntmps9,Option.get!,iS,iM,eO,J1]
  simp only [vx,T,K5,J0,K6,K7,↓reduceIte,J1,J2,J3,J4,J5,J6,J7,J8,J9,reduceCtorEq,K1,K2,K3,K4,QsC]
  (repeat refine ⟨by omega, ?_⟩)
  refine Cg (ofc_spec cs [(u0 : Int)] 0 u0 (by simp) rfl hl0 _ _ rfl rfl) ?_
  rw [hx0]
  simp only [vx,T,K5,J0,K6,K7,↓reduceIte,J1,J2,J3,J4,J5,J6,J7,J8,J9,reduceCtorEq,K1,K2,K3,K4,VV,PV,PC,LV,LC,X0,X1]
  (repeat refine ⟨by omega, ?_⟩)
  refine Cg cWx0a.1 ?_
  simp only [vx,T,K5,J0,K6,K7,↓reduceIte,J1,J2,J3,J4,J5,J6,J7,J8,J9,reduceCtorEq,K1,K2,K3,K4,VV,PV,PC,LV,LC,X0,X1]
  (repeat refine ⟨by omega, ?_⟩)
  refine Cg cDWx0aWx0a.1 ?_
  simp only [vx,T,K5,J0,K6,K7,↓reduceIte,J1,J2,J3,J4,J5,J6,J7,J8,J9,reduceCtorEq,K1,K2,K3,K4,VV,PV,PC,LV,LC,X0,X1]
  (repeat refine ⟨by omega, ?_⟩)
  refine Cg (ofr_spec n [(u0 : Int)] 0 u0 (by simp) rfl hn hu0 _ _ rfl rfl) ?_
  simp only [vx,T,K5,J0,K6,K7,↓reduceIte,J1,J2,J3,J4,J5,J6,J7,J8,J9,reduceCtorEq,K1,K2,K3,K4,VV,PV,PC,LV,LC,X0,X1]
  (repeat refine ⟨by omega, ?_⟩)
  refine Cg cQ.1 ?_
  simp only [vx,T,K5,J0,K6,K7,↓reduceIte,J1,J2,J3,J4,J5,J6,J7,J8,J9,reduceCtorEq,K1,K2,K3,K4,VV,PV,PC,LV,LC,X0,X1]
  (repeat refine ⟨by omega, ?_⟩)
  refine Cg cS.1 ?_
  simp only [vx,T,K5,J0,K6,K7,↓reduceIte,J1,J2,J3,J4,J5,J6,J7,J8,J9,reduceCtorEq,K1,K2,K3,K4,VV,PV,PC,LV,LC,X0,X1]
  refine Va ⟨rfl, rfl, fun i' j' hi' hj' => ?_⟩
  obtain rfl : j' = 0 := by omega
  obtain rfl : i' = 0 := by omega
  rfl
open Go Go.Eng
theorem iOf3 (cs : List Int) (n : Nat) (hn : n < 2 ^ 40) (c3 : C) (s : Int) (a b c : Nat) (ha : a < 2 ^ 40) (hb : b < 2 ^ 40) (hc : c < 2 ^ 40) : Pr Tryz.prog 9 [.agg [.int .i64 3, .ints .i64 [(a : Int), (b : Int), (c : Int)], .ints .i64 [], c3, .int .i64 s], .one (QsC []), .one (.ints .i64 cs), .one (.int .i64 n)] (LV [crossM (wayM b c) (wayM b a)]) := by
  have bWbc := NW.way b c hb hc
  have bWba := NW.way b a hb ha
  have bCWbcWba := NW.cross bWbc bWba
  have cWbc := own_way b c hb hc
  have cWba := own_way b a hb ha
  have cCWbcWba := own_cross bWbc bWba (by decide) (by decide)
  refine pv T_ok mixed Tryz.func9 rfl (by decide) _ (by simp [Tryz.ntmps9]) ⟨[0, 1, 2, 3, 4, 5, 6, 7, 8, 9, 10, 11, 12, 13, 14, 15, 16, 17, 18, 19, 20, 21, 22, 23, 24, 25, 26, 27, 28, 35, 36, 53, 70, 88, 116, 143, 161, 179, 203, 230, 276, 287, 298, 314, 322, 330, 369], []⟩ (by kernel_rfl) _ ?_
  show vc T _ _ (Option.get! Tryz.f9.body) _ _
  simp only [Tryz.f9,Tryz.ntmps9,Option.get!,iS,iM,eO,J1]
  simp only [vx,T,K5,J0,K6,K7,↓reduceIte,J1,J2,J3,J4,J5,J6,J7,J8,J9,reduceCtorEq,K1,K2,K3,K4,QsC]
  (repeat refine ⟨by omega, ?_⟩)
  refine Cg cWbc.1 ?_
  simp only [vx,T,K5,J0,K6,K7,↓reduceIte,J1,J2,J3,J4,J5,J6,J7,J8,J9,reduceCtorEq,K1,K2,K3,K4,VV,PV,PC,LV,LC,X0,X1]
  (repeat refine ⟨by omega, ?_⟩)
  refine Cg cWba.1 ?_
  simp only [vx,T,K5,J0,K6,K7,↓reduceIte,J1,J2,J3,J4,J5,J6,J7,J8,J9,reduceCtorEq,K1,K2,K3,K4,VV,PV,PC,LV,LC,X0,X1]
  (repeat refine ⟨by omega, ?_⟩)
  refine Cg cCWbcWba.1 ?_
  simp only [vx,T,K5,J0,K6,K7,↓reduceIte,J1,J2,J3,J4,J5,J6,J7,J8,J9,reduceCtorEq,K1,K2,K3,K4,VV,PV,PC,LV,LC,X0,X1]
  refine Va ⟨rfl, rfl, fun i' j' hi' hj' => ?_⟩
  obtain rfl : j' = 0 := by omega
  obtain rfl : i' = 0 := by omega
  rfl
theorem iOf4 (cs : List Int) (n : Nat) (hn : n < 2 ^ 40) (c3 : C) (s : Int) (a b c : Nat) (ha : a < 2 ^ 40) (hb : b < 2 ^ 40) (hc : c < 2 ^ 40) (q0 : Rat) (hq0 : qm q0 ≤ 4) : Pr Tryz.prog 9 [.agg [.int .i64 4, .ints .i64 [(a : Int), (b : Int), (c : Int)], .ints .i64 [], c3, .int .i64 s], .one (QsC [q0]), .one (.ints .i64 cs), .one (.int .i64 n)] (LV [subM (mulM (crossM (wayM b c) (wayM b a)) (crossM (wayM b c) (wayM b a))) (mulM (mulM (norM [(q0, [])]) (norM [(q0, [])])) (dotM (wayM b c) (wayM b c)))]) := by
  have bV0 := NF.num hq0
  have bWbc := NW.way b c hb hc
  have bWba := NW.way b a hb ha
  have bCWbcWba := NW.cross bWbc bWba
  have bQ := NF.mul bCWbcWba bCWbcWba
  have bQ2 := NF.mul bV0 bV0
  have bDWbcWbc := NW.dot bWbc bWbc
  have bM := NF.mul bQ2 bDWbcWbc
  have bS := NF.sub bQ bM
  have cWbc := own_way b c hb hc
  have cWba := own_way b a hb ha
  have cCWbcWba := own_cross bWbc bWba (by decide) (by decide)
  have cQ := own_sq bCWbcWba (by decide)
  have cQ2 := own_sq bV0 (by decide)
  have cDWbcWbc := own_dot bWbc bWbc (by decide) (by decide)
  have cM := own_mul bQ2 bDWbcWbc (by decide)
  have cS := own_sub bQ bM (by decide)
  refine pv T_ok mixed Tryz.func9 rfl (by decide) _ (by simp [Tryz.ntmps9]) ⟨[0, 1, 2, 3, 4, 5, 6, 7, 8, 9, 10, 11, 12, 13, 14, 15, 16, 17, 18, 19, 20, 21, 22, 23, 24, 25, 26, 27, 28, 35, 36, 53, 70, 88, 116, 143, 161, 179, 203, 230, 276, 287, 298, 314, 322, 330, 369], []⟩ (by kernel_rfl) _ ?_
  show vc T _ _ (Option.get! Tryz.f9.body) _ _
  simp only [Tryz.f9,Tryz.ntmps9,Option.get!,iS,iM,eO,J1]
  simp only [vx,T,K5,J0,K6,K7,↓reduceIte,J1,J2,J3,J4,J5,J6,J7,J8,J9,reduceCtorEq,K1,K2,K3,K4,QsC]
  (repeat refine ⟨by omega, ?_⟩)
  refine Cg cWbc.1 ?_
  simp only [vx,T,K5,J0,K6,K7,↓reduceIte,J1,J2,J3,J4,J5,J6,J7,J8,J9,reduceCtorEq,K1,K2,K3,K4,VV,PV,PC,LV,LC,X0,X1]
  (repeat refine ⟨by omega, ?_⟩)
  refine Cg cWba.1 ?_
  simp only [vx,T,K5,J0,K6,K7,↓reduceIte,J1,J2,J3,J4,J5,J6,J7,J8,J9,reduceCtorEq,K1,K2,K3,K4,VV,PV,PC,LV,LC,X0,X1]
  (repeat refine ⟨by omega, ?_⟩)
  refine Cg cCWbcWba.1 ?_
  simp only [vx,T,K5,J0,K6,K7,↓reduceIte,J1,J2,J3,J4,J5,J6,J7,J8,J9,reduceCtorEq,K1,K2,K3,K4,VV,PV,PC,LV,LC,X0,X1]
  (repeat refine ⟨by omega, ?_⟩)
  refine Cg cQ.1 ?_
  simp only [vx,T,K5,J0,K6,K7,↓reduceIte,J1,J2,J3,J4,J5,J6,J7,J8,J9,reduceCtorEq,K1,K2,K3,K4,VV,PV,PC,LV,LC,X0,X1]
  (repeat refine ⟨by omega, ?_⟩)
  refine Cg (ofv_spec [q0] 0 (by simp) (by simp) (B := 4) hq0 (by decide) _ rfl) ?_
  simp only [vx,T,K5,J0,K6,K7,↓reduceIte,J1,J2,J3,J4,J5,J6,J7,J8,J9,reduceCtorEq,K1,K2,K3,K4,VV,PV,PC,LV,LC,X0,X1]
  (repeat refine ⟨by omega, ?_⟩)
  refine Cg cQ2.1 ?_
  simp only [vx,T,K5,J0,K6,K7,↓reduceIte,J1,J2,J3,J4,J5,J6,J7,J8,J9,reduceCtorEq,K1,K2,K3,K4,VV,PV,PC,LV,LC,X0,X1]
  (repeat refine ⟨by omega, ?_⟩)
  refine Cg cDWbcWbc.1 ?_
  simp only [vx,T,K5,J0,K6,K7,↓reduceIte,J1,J2,J3,J4,J5,J6,J7,J8,J9,reduceCtorEq,K1,K2,K3,K4,VV,PV,PC,LV,LC,X0,X1]
  (repeat refine ⟨by omega, ?_⟩)
  refine Cg cM.1 ?_
  simp only [vx,T,K5,J0,K6,K7,↓reduceIte,J1,J2,J3,J4,J5,J6,J7,J8,J9,reduceCtorEq,K1,K2,K3,K4,VV,PV,PC,LV,LC,X0,X1]
  (repeat refine ⟨by omega, ?_⟩)
  refine Cg cS.1 ?_
  simp only [vx,T,K5,J0,K6,K7,↓reduceIte,J1,J2,J3,J4,J5,J6,J7,J8,J9,reduceCtorEq,K1,K2,K3,K4,VV,PV,PC,LV,LC,X0,X1]
  refine Va ⟨rfl, rfl, fun i' j' hi' hj' => ?_⟩
  obtain rfl : j' = 0 := by omega
  obtain rfl : i' = 0 := by omega
  rfl
theorem iOf5 (cs : List Int) (n : Nat) (hn : n < 2 ^ 40) (c3 : C) (s : Int) (a b c d : Nat) (ha : a < 2 ^ 40) (hb : b < 2 ^ 40) (hc : c < 2 ^ 40) (hd : d < 2 ^ 40) (q0 : Rat) (hq0 : qm q0 ≤ 4) : Pr Tryz.prog 9 [.agg [.int .i64 5, .ints .i64 [(a : Int), (b : Int), (c : Int), (d : Int)], .ints .i64 [], c3, .int .i64 s], .one (QsC [q0]), .one (.ints .i64 cs), .one (.int .i64 n)] (LV [subM (crossM (wayM a b) (wayM c d)) (mulM (norM [(q0, [])]) (dotM (wayM a b) (wayM c d)))]) := by
  have bV0 := NF.num hq0
  have bWab := NW.way a b ha hb
  have bWcd := NW.way c d hc hd
  have bCWabWcd := NW.cross bWab bWcd
  have bDWabWcd := NW.dot bWab bWcd
  have bM := NF.mul bV0 bDWabWcd
  have bS := NF.sub bCWabWcd bM
  have cWab := own_way a b ha hb
  have cWcd := own_way c d hc hd
  have cCWabWcd := own_cross bWab bWcd (by decide) (by decide)
  have cDWabWcd := own_dot bWab bWcd (by decide) (by decide)
  have cM := own_mul bV0 bDWabWcd (by decide)
  have cS := own_sub bCWabWcd bM (by decide)
  refine pv T_ok mixed Tryz.func9 rfl (by decide) _ (by simp [Tryz.ntmps9]) ⟨[0, 1, 2, 3, 4, 5, 6, 7, 8, 9, 10, 11, 12, 13, 14, 15, 16, 17, 18, 19, 20, 21, 22, 23, 24, 25, 26, 27, 28, 35, 36, 53, 70, 88, 116, 143, 161, 179, 203, 230, 276, 287, 298, 314, 322, 330, 369], []⟩ (by kernel_rfl) _ ?_
  show vc T _ _ (Option.get! Tryz.f9.body) _ _
  simp only [Tryz.f9,Tryz.ntmps9,Option.get!,iS,iM,eO,J1]
  simp only [vx,T,K5,J0,K6,K7,↓reduceIte,J1,J2,J3,J4,J5,J6,J7,J8,J9,reduceCtorEq,K1,K2,K3,K4,QsC]
  (repeat refine ⟨by omega, ?_⟩)
  refine Cg cWab.1 ?_
  simp only [vx,T,K5,J0,K6,K7,↓reduceIte,J1,J2,J3,J4,J5,J6,J7,J8,J9,reduceCtorEq,K1,K2,K3,K4,VV,PV,PC,LV,LC,X0,X1]
  (repeat refine ⟨by omega, ?_⟩)
  refine Cg cWcd.1 ?_
  simp only [vx,T,K5,J0,K6,K7,↓reduceIte,J1,J2,J3,J4,J5,J6,J7,J8,J9,reduceCtorEq,K1,K2,K3,K4,VV,PV,PC,LV,LC,X0,X1]
  (repeat refine ⟨by omega, ?_⟩)
  refine Cg cCWabWcd.1 ?_
  simp only [vx,T,K5,J0,K6,K7,↓reduceIte,J1,J2,J3,J4,J5,J6,J7,J8,J9,reduceCtorEq,K1,K2,K3,K4,VV,PV,PC,LV,LC,X0,X1]
  (repeat refine ⟨by omega, ?_⟩)
  refine Cg (ofv_spec [q0] 0 (by simp) (by simp) (B := 4) hq0 (by decide) _ rfl) ?_
  simp only [vx,T,K5,J0,K6,K7,↓reduceIte,J1,J2,J3,J4,J5,J6,J7,J8,J9,reduceCtorEq,K1,K2,K3,K4,VV,PV,PC,LV,LC,X0,X1]
  (repeat refine ⟨by omega, ?_⟩)
  refine Cg cDWabWcd.1 ?_
  simp only [vx,T,K5,J0,K6,K7,↓reduceIte,J1,J2,J3,J4,J5,J6,J7,J8,J9,reduceCtorEq,K1,K2,K3,K4,VV,PV,PC,LV,LC,X0,X1]
  (repeat refine ⟨by omega, ?_⟩)
  refine Cg cM.1 ?_
  simp only [vx,T,K5,J0,K6,K7,↓reduceIte,J1,J2,J3,J4,J5,J6,J7,J8,J9,reduceCtorEq,K1,K2,K3,K4,VV,PV,PC,LV,LC,X0,X1]
  (repeat refine ⟨by omega, ?_⟩)
  refine Cg cS.1 ?_
  simp only [vx,T,K5,J0,K6,K7,↓reduceIte,J1,J2,J3,J4,J5,J6,J7,J8,J9,reduceCtorEq,K1,K2,K3,K4,VV,PV,PC,LV,LC,X0,X1]
  refine Va ⟨rfl, rfl, fun i' j' hi' hj' => ?_⟩
  obtain rfl : j' = 0 := by omega
  obtain rfl : i' = 0 := by omega
  rfl
theorem iOf6 (cs : List Int) (n : Nat) (hn : n < 2 ^ 40) (c3 : C) (s : Int) (a b c d : Nat) (ha : a < 2 ^ 40) (hb : b < 2 ^ 40) (hc : c < 2 ^ 40) (hd : d < 2 ^ 40) : Pr Tryz.prog 9 [.agg [.int .i64 6, .ints .i64 [(a : Int), (b : Int), (c : Int), (d : Int)], .ints .i64 [], c3, .int .i64 s], .one (QsC []), .one (.ints .i64 cs), .one (.int .i64 n)] (LV [crossM (wayM a b) (wayM c d)]) := by
  have bWab := NW.way a b ha hb
  have bWcd := NW.way c d hc hd
  have bCWabWcd := NW.cross bWab bWcd
  have cWab := own_way a b ha hb
  have cWcd := own_way c d hc hd
  have cCWabWcd := own_cross bWab bWcd (by decide) (by decide)
  refine pv T_ok mixed Tryz.func9 rfl (by decide) _ (by simp [Tryz.ntmps9]) ⟨[0, 1, 2, 3, 4, 5, 6, 7, 8, 9, 10, 11, 12, 13, 14, 15, 16, 17, 18, 19, 20, 21, 22, 23, 24, 25, 26, 27, 28, 35, 36, 53, 70, 88, 116, 143, 161, 179, 203, 230, 276, 287, 298, 314, 322, 330, 369], []⟩ (by kernel_rfl) _ ?_
  show vc T _ _ (Option.get! Tryz.f9.body) _ _
  simp only [Tryz.f9,Tryz.ntmps9,Option.get!,iS,iM,eO,J1]
  simp only [vx,T,K5,J0,K6,K7,↓reduceIte,J1,J2,J3,J4,J5,J6,J7,J8,J9,reduceCtorEq,K1,K2,K3,K4,QsC]
  (repeat refine ⟨by omega, ?_⟩)
  refine Cg cWab.1 ?_
  simp only [vx,T,K5,J0,K6,K7,↓reduceIte,J1,J2,J3,J4,J5,J6,J7,J8,J9,reduceCtorEq,K1,K2,K3,K4,VV,PV,PC,LV,LC,X0,X1]
  (repeat refine ⟨by omega, ?_⟩)
  refine Cg cWcd.1 ?_
  simp only [vx,T,K5,J0,K6,K7,↓reduceIte,J1,J2,J3,J4,J5,J6,J7,J8,J9,reduceCtorEq,K1,K2,K3,K4,VV,PV,PC,LV,LC,X0,X1]
  (repeat refine ⟨by omega, ?_⟩)
  refine Cg cCWabWcd.1 ?_
  simp only [vx,T,K5,J0,K6,K7,↓reduceIte,J1,J2,J3,J4,J5,J6,J7,J8,J9,reduceCtorEq,K1,K2,K3,K4,VV,PV,PC,LV,LC,X0,X1]
  refine Va ⟨rfl, rfl, fun i' j' hi' hj' => ?_⟩
  obtain rfl : j' = 0 := by omega
  obtain rfl : i' = 0 := by omega
  rfl
theorem iOf7 (cs : List Int) (n : Nat) (hn : n < 2 ^ 40) (c3 : C) (s : Int) (a b c d : Nat) (ha : a < 2 ^ 40) (hb : b < 2 ^ 40) (hc : c < 2 ^ 40) (hd : d < 2 ^ 40) : Pr Tryz.prog 9 [.agg [.int .i64 7, .ints .i64 [(a : Int), (b : Int), (c : Int), (d : Int)], .ints .i64 [], c3, .int .i64 s], .one (QsC []), .one (.ints .i64 cs), .one (.int .i64 n)] (LV [dotM (wayM a b) (wayM c d)]) := by
  have bWab := NW.way a b ha hb
  have bWcd := NW.way c d hc hd
  have bDWabWcd := NW.dot bWab bWcd
  have cWab := own_way a b ha hb
  have cWcd := own_way c d hc hd
  have cDWabWcd := own_dot bWab bWcd (by decide) (by decide)
  refine pv T_ok mixed Tryz.func9 rfl (by decide) _ (by simp [Tryz.ntmps9]) ⟨[0, 1, 2, 3, 4, 5, 6, 7, 8, 9, 10, 11, 12, 13, 14, 15, 16, 17, 18, 19, 20, 21, 22, 23, 24, 25, 26, 27, 28, 35, 36, 53, 70, 88, 116, 143, 161, 179, 203, 230, 276, 287, 298, 314, 322, 330, 369], []⟩ (by kernel_rfl) _ ?_
  show vc T _ _ (Option.get! Tryz.f9.body) _ _
  simp only [Tryz.f9,Tryz.ntmps9,Option.get!,iS,iM,eO,J1]
  simp only [vx,T,K5,J0,K6,K7,↓reduceIte,J1,J2,J3,J4,J5,J6,J7,J8,J9,reduceCtorEq,K1,K2,K3,K4,QsC]
  (repeat refine ⟨by omega, ?_⟩)
  refine Cg cWab.1 ?_
  simp only [vx,T,K5,J0,K6,K7,↓reduceIte,J1,J2,J3,J4,J5,J6,J7,J8,J9,reduceCtorEq,K1,K2,K3,K4,VV,PV,PC,LV,LC,X0,X1]
  (repeat refine ⟨by omega, ?_⟩)
  refine Cg cWcd.1 ?_
  simp only [vx,T,K5,J0,K6,K7,↓reduceIte,J1,J2,J3,J4,J5,J6,J7,J8,J9,reduceCtorEq,K1,K2,K3,K4,VV,PV,PC,LV,LC,X0,X1]
  (repeat refine ⟨by omega, ?_⟩)
  refine Cg cDWabWcd.1 ?_
  simp only [vx,T,K5,J0,K6,K7,↓reduceIte,J1,J2,J3,J4,J5,J6,J7,J8,J9,reduceCtorEq,K1,K2,K3,K4,VV,PV,PC,LV,LC,X0,X1]
  refine Va ⟨rfl, rfl, fun i' j' hi' hj' => ?_⟩
  obtain rfl : j' = 0 := by omega
  obtain rfl : i' = 0 := by omega
  rfl
open Go Go.Eng
theorem iOf8 (cs : List Int) (n : Nat) (hn : n < 2 ^ 40) (c3 : C) (s : Int) (a b c d : Nat) (ha : a < 2 ^ 40) (hb : b < 2 ^ 40) (hc : c < 2 ^ 40) (hd : d < 2 ^ 40) : Pr Tryz.prog 9 [.agg [.int .i64 8, .ints .i64 [(a : Int), (b : Int), (c : Int), (d : Int)], .ints .i64 [], c3, .int .i64 s], .one (QsC []), .one (.ints .i64 cs), .one (.int .i64 n)] (LV [subM (dotM (wayM a b) (wayM a b)) (dotM (wayM c d) (wayM c d))]) := by
  have bWab := NW.way a b ha hb
  have bWcd := NW.way c d hc hd
  have bDWabWab := NW.dot bWab bWab
  have bDWcdWcd := NW.dot bWcd bWcd
  have bS := NF.sub bDWabWab bDWcdWcd
  have cWab := own_way a b ha hb
  have cWcd := own_way c d hc hd
  have cDWabWab := own_dot bWab bWab (by decide) (by decide)
  have cDWcdWcd := own_dot bWcd bWcd (by decide) (by decide)
  have cS := own_sub bDWabWab bDWcdWcd (by decide)
  refine pv T_ok mixed Tryz.func9 rfl (by decide) _ (by simp [Tryz.ntmps9]) ⟨[0, 1, 2, 3, 4, 5, 6, 7, 8, 9, 10, 11, 12, 13, 14, 15, 16, 17, 18, 19, 20, 21, 22, 23, 24, 25, 26, 27, 28, 35, 36, 53, 70, 88, 116, 143, 161, 179, 203, 230, 276, 287, 298, 314, 322, 330, 369], []⟩ (by kernel_rfl) _ ?_
  show vc T _ _ (Option.get! Tryz.f9.body) _ _
  simp only [Tryz.f9,Tryz.ntmps9,Option.get!,iS,iM,eO,J1]
  simp only [vx,T,K5,J0,K6,K7,↓reduceIte,J1,J2,J3,J4,J5,J6,J7,J8,J9,reduceCtorEq,K1,K2,K3,K4,QsC]
  (repeat refine ⟨by omega, ?_⟩)
  refine Cg cWab.1 ?_
  simp only [vx,T,K5,J0,K6,K7,↓reduceIte,J1,J2,J3,J4,J5,J6,J7,J8,J9,reduceCtorEq,K1,K2,K3,K4,VV,PV,PC,LV,LC,X0,X1]
  (repeat refine ⟨by omega, ?_⟩)
  refine Cg cWcd.1 ?_
  simp only [vx,T,K5,J0,K6,K7,↓reduceIte,J1,J2,J3,J4,J5,J6,J7,J8,J9,reduceCtorEq,K1,K2,K3,K4,VV,PV,PC,LV,LC,X0,X1]
  (repeat refine ⟨by omega, ?_⟩)
  refine Cg cDWabWab.1 ?_
  simp only [vx,T,K5,J0,K6,K7,↓reduceIte,J1,J2,J3,J4,J5,J6,J7,J8,J9,reduceCtorEq,K1,K2,K3,K4,VV,PV,PC,LV,LC,X0,X1]
  (repeat refine ⟨by omega, ?_⟩)
  refine Cg cDWcdWcd.1 ?_
  simp only [vx,T,K5,J0,K6,K7,↓reduceIte,J1,J2,J3,J4,J5,J6,J7,J8,J9,reduceCtorEq,K1,K2,K3,K4,VV,PV,PC,LV,LC,X0,X1]
  (repeat refine ⟨by omega, ?_⟩)
  refine Cg cS.1 ?_
  simp only [vx,T,K5,J0,K6,K7,↓reduceIte,J1,J2,J3,J4,J5,J6,J7,J8,J9,reduceCtorEq,K1,K2,K3,K4,VV,PV,PC,LV,LC,X0,X1]
  refine Va ⟨rfl, rfl, fun i' j' hi' hj' => ?_⟩
  obtain rfl : j' = 0 := by omega
  obtain rfl : i' = 0 := by omega
  rfl
theorem iOf9 (cs : List Int) (n : Nat) (hn : n < 2 ^ 40) (c3 : C) (s : Int) (a b c : Nat) (ha : a < 2 ^ 40) (hb : b < 2 ^ 40) (hc : c < 2 ^ 40) : Pr Tryz.prog 9 [.agg [.int .i64 9, .ints .i64 [(a : Int), (b : Int), (c : Int)], .ints .i64 [], c3, .int .i64 s], .one (QsC []), .one (.ints .i64 cs), .one (.int .i64 n)] (LV [norM ((wayM b a).1 ++ (wayM c a).1), norM ((wayM b a).2 ++ (wayM c a).2)]) := by
  have bWba := NW.way b a hb ha
  have bWca := NW.way c a hc ha
  have bA1 := NF.add bWba.1 bWca.1
  have bA2 := NF.add bWba.2 bWca.2
  have cWba := own_way b a hb ha
  have cWca := own_way c a hc ha
  have cA1 := own_add bWba.1 bWca.1 (by decide)
  have cA2 := own_add bWba.2 bWca.2 (by decide)
  refine pv T_ok mixed Tryz.func9 rfl (by decide) _ (by simp [Tryz.ntmps9]) ⟨[0, 1, 2, 3, 4, 5, 6, 7, 8, 9, 10, 11, 12, 13, 14, 15, 16, 17, 18, 19, 20, 21, 22, 23, 24, 25, 26, 27, 28, 35, 36, 53, 70, 88, 116, 143, 161, 179, 203, 230, 276, 287, 298, 314, 322, 330, 369], []⟩ (by kernel_rfl) _ ?_
  show vc T _ _ (Option.get! Tryz.f9.body) _ _
  simp only [Tryz.f9,Tryz.ntmps9,Option.get!,iS,iM,eO,J1]
  simp only [vx,T,K5,J0,K6,K7,↓reduceIte,J1,J2,J3,J4,J5,J6,J7,J8,J9,reduceCtorEq,K1,K2,K3,K4,QsC]
  (repeat refine ⟨by omega, ?_⟩)
  refine Cg cWba.1 ?_
  simp only [vx,T,K5,J0,K6,K7,↓reduceIte,J1,J2,J3,J4,J5,J6,J7,J8,J9,reduceCtorEq,K1,K2,K3,K4,VV,PV,PC,LV,LC,X0,X1]
  (repeat refine ⟨by omega, ?_⟩)
  refine Cg cWca.1 ?_
  simp only [vx,T,K5,J0,K6,K7,↓reduceIte,J1,J2,J3,J4,J5,J6,J7,J8,J9,reduceCtorEq,K1,K2,K3,K4,VV,PV,PC,LV,LC,X0,X1]
  (repeat refine ⟨by omega, ?_⟩)
  refine Cg cA1.1 ?_
  simp only [vx,T,K5,J0,K6,K7,↓reduceIte,J1,J2,J3,J4,J5,J6,J7,J8,J9,reduceCtorEq,K1,K2,K3,K4,VV,PV,PC,LV,LC,X0,X1]
  (repeat refine ⟨by omega, ?_⟩)
  refine Cg cA2.1 ?_
  simp only [vx,T,K5,J0,K6,K7,↓reduceIte,J1,J2,J3,J4,J5,J6,J7,J8,J9,reduceCtorEq,K1,K2,K3,K4,VV,PV,PC,LV,LC,X0,X1]
  refine Va ⟨rfl, rfl, fun i' j' hi' hj' => ?_⟩
  obtain rfl : j' = 0 := by omega
  match i', hi' with
  | 0, _ => rfl
  | 1, _ => rfl
theorem iOf10 (cs : List Int) (n : Nat) (hn : n < 2 ^ 40) (c3 : C) (s : Int) (a b c d : Nat) (ha : a < 2 ^ 40) (hb : b < 2 ^ 40) (hc : c < 2 ^ 40) (hd : d < 2 ^ 40) : Pr Tryz.prog 9 [.agg [.int .i64 10, .ints .i64 [(a : Int), (b : Int), (c : Int), (d : Int)], .ints .i64 [], c3, .int .i64 s], .one (QsC []), .one (.ints .i64 cs), .one (.int .i64 n)] (LV [crossM (norM ((wayM c a).1 ++ (wayM c b).1), norM ((wayM c a).2 ++ (wayM c b).2)) (wayM c d), dotM (wayM a b) (wayM c d)]) := by
  have bWca := NW.way c a hc ha
  have bWcb := NW.way c b hc hb
  have bWcd := NW.way c d hc hd
  have bWab := NW.way a b ha hb
  have bA1 := NF.add bWca.1 bWcb.1
  have bA2 := NF.add bWca.2 bWcb.2
  have bU := NW.plus bWca bWcb
  have bCUWcd := NW.cross bU bWcd
  have bDWabWcd := NW.dot bWab bWcd
  have cWca := own_way c a hc ha
  have cWcb := own_way c b hc hb
  have cWcd := own_way c d hc hd
  have cWab := own_way a b ha hb
  have cA1 := own_add bWca.1 bWcb.1 (by decide)
  have cA2 := own_add bWca.2 bWcb.2 (by decide)
  have cCUWcd := own_cross bU bWcd (by decide) (by decide)
  have cDWabWcd := own_dot bWab bWcd (by decide) (by decide)
  refine pv T_ok mixed Tryz.func9 rfl (by decide) _ (by simp [Tryz.ntmps9]) ⟨[0, 1, 2, 3, 4, 5, 6, 7, 8, 9, 10, 11, 12, 13, 14, 15, 16, 17, 18, 19, 20, 21, 22, 23, 24, 25, 26, 27, 28, 35, 36, 53, 70, 88, 116, 143, 161, 179, 203, 230, 276, 287, 298, 314, 322, 330, 369], []⟩ (by kernel_rfl) _ ?_
  show vc T _ _ (Option.get! Tryz.f9.body) _ _
  simp only [Tryz.f9,Tryz.ntmps9,Option.get!,iS,iM,eO,J1]
  simp only [vx,T,K5,J0,K6,K7,↓reduceIte,J1,J2,J3,J4,J5,J6,J7,J8,J9,reduceCtorEq,K1,K2,K3,K4,QsC]
  (repeat refine ⟨by omega, ?_⟩)
  refine Cg cWca.1 ?_
  simp only [vx,T,K5,J0,K6,K7,↓reduceIte,J1,J2,J3,J4,J5,J6,J7,J8,J9,reduceCtorEq,K1,K2,K3,K4,VV,PV,PC,LV,LC,X0,X1]
  (repeat refine ⟨by omega, ?_⟩)
  refine Cg cWcb.1 ?_
  simp only [vx,T,K5,J0,K6,K7,↓reduceIte,J1,J2,J3,J4,J5,J6,J7,J8,J9,reduceCtorEq,K1,K2,K3,K4,VV,PV,PC,LV,LC,X0,X1]
  (repeat refine ⟨by omega, ?_⟩)
  refine Cg cWcd.1 ?_
  simp only [vx,T,K5,J0,K6,K7,↓reduceIte,J1,J2,J3,J4,J5,J6,J7,J8,J9,reduceCtorEq,K1,K2,K3,K4,VV,PV,PC,LV,LC,X0,X1]
  (repeat refine ⟨by omega, ?_⟩)
  refine Cg cA1.1 ?_
  simp only [vx,T,K5,J0,K6,K7,↓reduceIte,J1,J2,J3,J4,J5,J6,J7,J8,J9,reduceCtorEq,K1,K2,K3,K4,VV,PV,PC,LV,LC,X0,X1]
  (repeat refine ⟨by omega, ?_⟩)
  refine Cg cA2.1 ?_
  simp only [vx,T,K5,J0,K6,K7,↓reduceIte,J1,J2,J3,J4,J5,J6,J7,J8,J9,reduceCtorEq,K1,K2,K3,K4,VV,PV,PC,LV,LC,X0,X1]
  (repeat refine ⟨by omega, ?_⟩)
  refine Cg cCUWcd.1 ?_
  simp only [vx,T,K5,J0,K6,K7,↓reduceIte,J1,J2,J3,J4,J5,J6,J7,J8,J9,reduceCtorEq,K1,K2,K3,K4,VV,PV,PC,LV,LC,X0,X1]
  (repeat refine ⟨by omega, ?_⟩)
  refine Cg cWab.1 ?_
  simp only [vx,T,K5,J0,K6,K7,↓reduceIte,J1,J2,J3,J4,J5,J6,J7,J8,J9,reduceCtorEq,K1,K2,K3,K4,VV,PV,PC,LV,LC,X0,X1]
  (repeat refine ⟨by omega, ?_⟩)
  refine Cg cDWabWcd.1 ?_
  simp only [vx,T,K5,J0,K6,K7,↓reduceIte,J1,J2,J3,J4,J5,J6,J7,J8,J9,reduceCtorEq,K1,K2,K3,K4,VV,PV,PC,LV,LC,X0,X1]
  refine Va ⟨rfl, rfl, fun i' j' hi' hj' => ?_⟩
  obtain rfl : j' = 0 := by omega
  match i', hi' with
  | 0, _ => rfl
  | 1, _ => rfl
theorem iOf11 (cs : List Int) (n : Nat) (hn : n < 2 ^ 40) (c3 : C) (s : Int) (a b : Nat) (ha : a < 2 ^ 40) (hb : b < 2 ^ 40) : Pr Tryz.prog 9 [.agg [.int .i64 11, .ints .i64 [(a : Int), (b : Int)], .ints .i64 [], c3, .int .i64 s], .one (QsC []), .one (.ints .i64 cs), .one (.int .i64 n)] (LV [(wayM b a).2]) := by
  have bWba := NW.way b a hb ha
  have bS := NF.sub (NF.var (v := 2 * (a : Int) + 1) (by omega) (by omega)) (NF.var (v := 2 * (b : Int) + 1) (by omega) (by omega))
  have cWba := own_way b a hb ha
  refine pv T_ok mixed Tryz.func9 rfl (by decide) _ (by simp [Tryz.ntmps9]) ⟨[0, 1, 2, 3, 4, 5, 6, 7, 8, 9, 10, 11, 12, 13, 14, 15, 16, 17, 18, 19, 20, 21, 22, 23, 24, 25, 26, 27, 28, 35, 36, 53, 70, 88, 116, 143, 161, 179, 203, 230, 276, 287, 298, 314, 322, 330, 369], []⟩ (by kernel_rfl) _ ?_
  show vc T _ _ (Option.get! Tryz.f9.body) _ _
  simp only [Tryz.f9,Tryz.ntmps9,Option.get!,iS,iM,eO,J1]
  simp only [vx,T,K5,J0,K6,K7,↓reduceIte,J1,J2,J3,J4,J5,J6,J7,J8,J9,reduceCtorEq,K1,K2,K3,K4,QsC]
  (repeat refine ⟨by omega, ?_⟩)
  refine Cg cWba.1 ?_
  simp only [vx,T,K5,J0,K6,K7,↓reduceIte,J1,J2,J3,J4,J5,J6,J7,J8,J9,reduceCtorEq,K1,K2,K3,K4,VV,PV,PC,LV,LC,X0,X1]
  refine Va ⟨rfl, rfl, fun i' j' hi' hj' => ?_⟩
  obtain rfl : j' = 0 := by omega
  obtain rfl : i' = 0 := by omega
  rfl
theorem iOf12 (cs : List Int) (n : Nat) (hn : n < 2 ^ 40) (c3 : C) (s : Int) (a b : Nat) (ha : a < 2 ^ 40) (hb : b < 2 ^ 40) : Pr Tryz.prog 9 [.agg [.int .i64 12, .ints .i64 [(a : Int), (b : Int)], .ints .i64 [], c3, .int .i64 s], .one (QsC []), .one (.ints .i64 cs), .one (.int .i64 n)] (LV [(wayM b a).1]) := by
  have bWba := NW.way b a hb ha
  have bS := NF.sub (NF.var (v := 2 * (a : Int)) (by omega) (by omega)) (NF.var (v := 2 * (b : Int)) (by omega) (by omega))
  have cWba := own_way b a hb ha
  refine pv T_ok mixed Tryz.func9 rfl (by decide) _ (by simp [Tryz.ntmps9]) ⟨[0, 1, 2, 3, 4, 5, 6, 7, 8, 9, 10, 11, 12, 13, 14, 15, 16, 17, 18, 19, 20, 21, 22, 23, 24, 25, 26, 27, 28, 35, 36, 53, 70, 88, 116, 143, 161, 179, 203, 230, 276, 287, 298, 314, 322, 330, 369], []⟩ (by kernel_rfl) _ ?_
  show vc T _ _ (Option.get! Tryz.f9.body) _ _
  simp only [Tryz.f9,Tryz.ntmps9,Option.get!,iS,iM,eO,J1]
  simp only [vx,T,K5,J0,K6,K7,↓reduceIte,J1,J2,J3,J4,J5,J6,J7,J8,J9,reduceCtorEq,K1,K2,K3,K4,QsC]
  (repeat refine ⟨by omega, ?_⟩)
  refine Cg cWba.1 ?_
  simp only [vx,T,K5,J0,K6,K7,↓reduceIte,J1,J2,J3,J4,J5,J6,J7,J8,J9,reduceCtorEq,K1,K2,K3,K4,VV,PV,PC,LV,LC,X0,X1]
  refine Va ⟨rfl, rfl, fun i' j' hi' hj' => ?_⟩
  obtain rfl : j' = 0 := by omega
  obtain rfl : i' = 0 := by omega
  rfl
open Go Go.Eng
theorem iOf14 (cs : List Int) (n : Nat) (hn : n < 2 ^ 40) (c3 : C) (s : Int) (q0 : Rat) (hq0 : qm q0 ≤ 4) (u0 x0 : Nat) (hu0 : u0 < 2 ^ 40) (hl0 : u0 < cs.length) (hx0 : cs.getD u0 0 = (x0 : Int)) (hxl0 : x0 < 2 ^ 40) : Pr Tryz.prog 9 [.agg [.int .i64 14, .ints .i64 [], .ints .i64 [(u0 : Int)], c3, .int .i64 s], .one (QsC [q0]), .one (.ints .i64 cs), .one (.int .i64 n)] (LV [subM (varM (2 * n + u0)) (norM [(q0, [])])]) := by
  have bR0 := NF.var (v := 2 * (n : Int) + u0) (by omega) (by omega)
  have bV0 := NF.num hq0
  have bS := NF.sub bR0 bV0
  have cS := own_sub bR0 bV0 (by decide)
  refine pv T_ok mixed Tryz.func9 rfl (by decide) _ (by simp [Tryz.ntmps9]) ⟨[0, 1, 2, 3, 4, 5, 6, 7, 8, 9, 10, 11, 12, 13, 14, 15, 16, 17, 18, 19, 20, 21, 22, 23, 24, 25, 26, 27, 28, 35, 36, 53, 70, 88, 116, 143, 161, 179, 203, 230, 276, 287, 298, 314, 322, 330, 369], []⟩ (by kernel_rfl) _ ?_
  show vc T _ _ (Option.get! Tryz.f9.body) _ _
  simp only [Tryz.f9,Tryz.ntmps9,Option.get!,iS,iM,eO,J1]
  simp only [vx,T,K5,J0,K6,K7,↓reduceIte,J1,J2,J3,J4,J5,J6,J7,J8,J9,reduceCtorEq,K1,K2,K3,K4,QsC]
  (repeat refine ⟨by omega, ?_⟩)
  refine Cg (ofr_spec n [(u0 : Int)] 0 u0 (by simp) rfl hn hu0 _ _ rfl rfl) ?_
  simp only [vx,T,K5,J0,K6,K7,↓reduceIte,J1,J2,J3,J4,J5,J6,J7,J8,J9,reduceCtorEq,K1,K2,K3,K4,VV,PV,PC,LV,LC,X0,X1]
  (repeat refine ⟨by omega, ?_⟩)
  refine Cg (ofv_spec [q0] 0 (by simp) (by simp) (B := 4) hq0 (by decide) _ rfl) ?_
  simp only [vx,T,K5,J0,K6,K7,↓reduceIte,J1,J2,J3,J4,J5,J6,J7,J8,J9,reduceCtorEq,K1,K2,K3,K4,VV,PV,PC,LV,LC,X0,X1]
  (repeat refine ⟨by omega, ?_⟩)
  refine Cg cS.1 ?_
  simp only [vx,T,K5,J0,K6,K7,↓reduceIte,J1,J2,J3,J4,J5,J6,J7,J8,J9,reduceCtorEq,K1,K2,K3,K4,VV,PV,PC,LV,LC,X0,X1]
  refine Va ⟨rfl, rfl, fun i' j' hi' hj' => ?_⟩
  obtain rfl : j' = 0 := by omega
  obtain rfl : i' = 0 := by omega
  rfl
theorem iOf15 (cs : List Int) (n : Nat) (hn : n < 2 ^ 40) (c3 : C) (s : Int) (u0 x0 : Nat) (hu0 : u0 < 2 ^ 40) (hl0 : u0 < cs.length) (hx0 : cs.getD u0 0 = (x0 : Int)) (hxl0 : x0 < 2 ^ 40) (u1 x1 : Nat) (hu1 : u1 < 2 ^ 40) (hl1 : u1 < cs.length) (hx1 : cs.getD u1 0 = (x1 : Int)) (hxl1 : x1 < 2 ^ 40) : Pr Tryz.prog 9 [.agg [.int .i64 15, .ints .i64 [], .ints .i64 [(u0 : Int), (u1 : Int)], c3, .int .i64 s], .one (QsC []), .one (.ints .i64 cs), .one (.int .i64 n)] (LV [subM (varM (2 * n + u0)) (varM (2 * n + u1))]) := by
  have bR0 := NF.var (v := 2 * (n : Int) + u0) (by omega) (by omega)
  have bR1 := NF.var (v := 2 * (n : Int) + u1) (by omega) (by omega)
  have bS := NF.sub bR0 bR1
  have cS := own_sub bR0 bR1 (by decide)
  refine pv T_ok mixed Tryz.func9 rfl (by decide) _ (by simp [Tryz.ntmps9]) ⟨[0, 1, 2, 3, 4, 5, 6, 7, 8, 9, 10, 11, 12, 13, 14, 15, 16, 17, 18, 19, 20, 21, 22, 23, 24, 25, 26, 27, 28, 35, 36, 53, 70, 88, 116, 143, 161, 179, 203, 230, 276, 287, 298, 314, 322, 330, 369], []⟩ (by kernel_rfl) _ ?_
  show vc T _ _ (Option.get! Tryz.f9.body) _ _
  simp only [Tryz.f9,Tryz.ntmps9,Option.get!,iS,iM,eO,J1]
  simp only [vx,T,K5,J0,K6,K7,↓reduceIte,J1,J2,J3,J4,J5,J6,J7,J8,J9,reduceCtorEq,K1,K2,K3,K4,QsC]
  (repeat refine ⟨by omega, ?_⟩)
  refine Cg (ofr_spec n [(u0 : Int), (u1 : Int)] 0 u0 (by simp) rfl hn hu0 _ _ rfl rfl) ?_
  simp only [vx,T,K5,J0,K6,K7,↓reduceIte,J1,J2,J3,J4,J5,J6,J7,J8,J9,reduceCtorEq,K1,K2,K3,K4,VV,PV,PC,LV,LC,X0,X1]
  (repeat refine ⟨by omega, ?_⟩)
  refine Cg (ofr_spec n [(u0 : Int), (u1 : Int)] 1 u1 (by simp) rfl hn hu1 _ _ rfl rfl) ?_
  simp only [vx,T,K5,J0,K6,K7,↓reduceIte,J1,J2,J3,J4,J5,J6,J7,J8,J9,reduceCtorEq,K1,K2,K3,K4,VV,PV,PC,LV,LC,X0,X1]
  (repeat refine ⟨by omega, ?_⟩)
  refine Cg cS.1 ?_
  simp only [vx,T,K5,J0,K6,K7,↓reduceIte,J1,J2,J3,J4,J5,J6,J7,J8,J9,reduceCtorEq,K1,K2,K3,K4,VV,PV,PC,LV,LC,X0,X1]
  refine Va ⟨rfl, rfl, fun i' j' hi' hj' => ?_⟩
  obtain rfl : j' = 0 := by omega
  obtain rfl : i' = 0 := by omega
  rfl
theorem iOf16 (cs : List Int) (n : Nat) (hn : n < 2 ^ 40) (c3 : C) (s : Int) (a b : Nat) (ha : a < 2 ^ 40) (hb : b < 2 ^ 40) (u0 x0 : Nat) (hu0 : u0 < 2 ^ 40) (hl0 : u0 < cs.length) (hx0 : cs.getD u0 0 = (x0 : Int)) (hxl0 : x0 < 2 ^ 40) : Pr Tryz.prog 9 [.agg [.int .i64 16, .ints .i64 [(a : Int), (b : Int)], .ints .i64 [(u0 : Int)], c3, .int .i64 s], .one (QsC []), .one (.ints .i64 cs), .one (.int .i64 n)] (LV [subM (mulM (crossM (wayM a b) (wayM a x0)) (crossM (wayM a b) (wayM a x0))) (mulM (mulM (varM (2 * n + u0)) (varM (2 * n + u0))) (dotM (wayM a b) (wayM a b)))]) := by
  have bR0 := NF.var (v := 2 * (n : Int) + u0) (by omega) (by omega)
  have bWab := NW.way a b ha hb
  have bWax0 := NW.way a x0 ha hxl0
  have bCWabWax0 := NW.cross bWab bWax0
  have bQ := NF.mul bCWabWax0 bCWabWax0
  have bQ2 := NF.mul bR0 bR0
  have bDWabWab := NW.dot bWab bWab
  have bM := NF.mul bQ2 bDWabWab
  have bS := NF.sub bQ bM
  have cWab := own_way a b ha hb
  have cWax0 := own_way a x0 ha hxl0
  have cCWabWax0 := own_cross bWab bWax0 (by decide) (by decide)
  have cQ := own_sq bCWabWax0 (by decide)
  have cQ2 := own_sq bR0 (by decide)
  have cDWabWab := own_dot bWab bWab (by decide) (by decide)
  have cM := own_mul bQ2 bDWabWab (by decide)
  have cS := own_sub bQ bM (by decide)
  refine pv T_ok mixed Tryz.func9 rfl (by decide) _ (by simp [Tryz.ntmps9]) ⟨[0, 1, 2, 3, 4, 5, 6, 7, 8, 9, 10, 11, 12, 13, 14, 15, 16, 17, 18, 19, 20, 21, 22, 23, 24, 25, 26, 27, 28, 35, 36, 53, 70, 88, 116, 143, 161, 179, 203, 230, 276, 287, 298, 314, 322, 330, 369], []⟩ (by kernel_rfl) _ ?_
  show vc T _ _ (Option.get! Tryz.f9.body) _ _
  simp only [Tryz.f9,Tryz.ntmps9,Option.get!,iS,iM,eO,J1]
  simp only [vx,T,K5,J0,K6,K7,↓reduceIte,J1,J2,J3,J4,J5,J6,J7,J8,J9,reduceCtorEq,K1,K2,K3,K4,QsC]
  (repeat refine ⟨by omega, ?_⟩)
  refine Cg cWab.1 ?_
  simp only [vx,T,K5,J0,K6,K7,↓reduceIte,J1,J2,J3,J4,J5,J6,J7,J8,J9,reduceCtorEq,K1,K2,K3,K4,VV,PV,PC,LV,LC,X0,X1]
  (repeat refine ⟨by omega, ?_⟩)
  refine Cg (ofc_spec cs [(u0 : Int)] 0 u0 (by simp) rfl hl0 _ _ rfl rfl) ?_
  rw [hx0]
  simp only [vx,T,K5,J0,K6,K7,↓reduceIte,J1,J2,J3,J4,J5,J6,J7,J8,J9,reduceCtorEq,K1,K2,K3,K4,VV,PV,PC,LV,LC,X0,X1]
  (repeat refine ⟨by omega, ?_⟩)
  refine Cg cWax0.1 ?_
  simp only [vx,T,K5,J0,K6,K7,↓reduceIte,J1,J2,J3,J4,J5,J6,J7,J8,J9,reduceCtorEq,K1,K2,K3,K4,VV,PV,PC,LV,LC,X0,X1]
  (repeat refine ⟨by omega, ?_⟩)
  refine Cg cCWabWax0.1 ?_
  simp only [vx,T,K5,J0,K6,K7,↓reduceIte,J1,J2,J3,J4,J5,J6,J7,J8,J9,reduceCtorEq,K1,K2,K3,K4,VV,PV,PC,LV,LC,X0,X1]
  (repeat refine ⟨by omega, ?_⟩)
  refine Cg cQ.1 ?_
  simp only [vx,T,K5,J0,K6,K7,↓reduceIte,J1,J2,J3,J4,J5,J6,J7,J8,J9,reduceCtorEq,K1,K2,K3,K4,VV,PV,PC,LV,LC,X0,X1]
  (repeat refine ⟨by omega, ?_⟩)
  refine Cg (ofr_spec n [(u0 : Int)] 0 u0 (by simp) rfl hn hu0 _ _ rfl rfl) ?_
  simp only [vx,T,K5,J0,K6,K7,↓reduceIte,J1,J2,J3,J4,J5,J6,J7,J8,J9,reduceCtorEq,K1,K2,K3,K4,VV,PV,PC,LV,LC,X0,X1]
  (repeat refine ⟨by omega, ?_⟩)
  refine Cg cQ2.1 ?_
  simp only [vx,T,K5,J0,K6,K7,↓reduceIte,J1,J2,J3,J4,J5,J6,J7,J8,J9,reduceCtorEq,K1,K2,K3,K4,VV,PV,PC,LV,LC,X0,X1]
  (repeat refine ⟨by omega, ?_⟩)
  refine Cg cDWabWab.1 ?_
  simp only [vx,T,K5,J0,K6,K7,↓reduceIte,J1,J2,J3,J4,J5,J6,J7,J8,J9,reduceCtorEq,K1,K2,K3,K4,VV,PV,PC,LV,LC,X0,X1]
  (repeat refine ⟨by omega, ?_⟩)
  refine Cg cM.1 ?_
  simp only [vx,T,K5,J0,K6,K7,↓reduceIte,J1,J2,J3,J4,J5,J6,J7,J8,J9,reduceCtorEq,K1,K2,K3,K4,VV,PV,PC,LV,LC,X0,X1]
  (repeat refine ⟨by omega, ?_⟩)
  refine Cg cS.1 ?_
  simp only [vx,T,K5,J0,K6,K7,↓reduceIte,J1,J2,J3,J4,J5,J6,J7,J8,J9,reduceCtorEq,K1,K2,K3,K4,VV,PV,PC,LV,LC,X0,X1]
  refine Va ⟨rfl, rfl, fun i' j' hi' hj' => ?_⟩
  obtain rfl : j' = 0 := by omega
  obtain rfl : i' = 0 := by omega
  rfl
theorem iOf17p (cs : List Int) (n : Nat) (hn : n < 2 ^ 40) (c3 : C) (u0 x0 : Nat) (hu0 : u0 < 2 ^ 40) (hl0 : u0 < cs.length) (hx0 : cs.getD u0 0 = (x0 : Int)) (hxl0 : x0 < 2 ^ 40) (u1 x1 : Nat) (hu1 : u1 < 2 ^ 40) (hl1 : u1 < cs.length) (hx1 : cs.getD u1 0 = (x1 : Int)) (hxl1 : x1 < 2 ^ 40) : Pr Tryz.prog 9 [.agg [.int .i64 17, .ints .i64 [], .ints .i64 [(u0 : Int), (u1 : Int)], c3, .int .i64 1], .one (QsC []), .one (.ints .i64 cs), .one (.int .i64 n)] (LV [subM (dotM (wayM x0 x1) (wayM x0 x1)) (mulM (norM ((varM (2 * n + u0)) ++ (varM (2 * n + u1)))) (norM ((varM (2 * n + u0)) ++ (varM (2 * n + u1)))))]) := by
  have bR0 := NF.var (v := 2 * (n : Int) + u0) (by omega) (by omega)
  have bR1 := NF.var (v := 2 * (n : Int) + u1) (by omega) (by omega)
  have bWxx := NW.way x0 x1 hxl0 hxl1
  have bA := NF.add bR0 bR1
  have bDWxxWxx := NW.dot bWxx bWxx
  have bQ := NF.mul bA bA
  have bS := NF.sub bDWxxWxx bQ
  have cWxx := own_way x0 x1 hxl0 hxl1
  have cA := own_add bR0 bR1 (by decide)
  have cDWxxWxx := own_dot bWxx bWxx (by decide) (by decide)
  have cQ := own_sq bA (by decide)
  have cS := own_sub bDWxxWxx bQ (by decide)
  refine pv T_ok mixed Tryz.func9 rfl (by decide) _ (by simp [Tryz.ntmps9]) ⟨[0, 1, 2, 3, 4, 5, 6, 7, 8, 9, 10, 11, 12, 13, 14, 15, 16, 17, 18, 19, 20, 21, 22, 23, 24, 25, 26, 27, 28, 35, 36, 53, 70, 88, 116, 143, 161, 179, 203, 230, 276, 287, 298, 314, 322, 330, 369], []⟩ (by kernel_rfl) _ ?_
  show vc T _ _ (Option.get! Tryz.f9.body) _ _
  simp only [Tryz.f9,Tryz.ntmps9,Option.get!,iS,iM,eO,J1]
  simp only [vx,T,K5,J0,K6,K7,↓reduceIte,J1,J2,J3,J4,J5,J6,J7,J8,J9,reduceCtorEq,K1,K2,K3,K4,QsC]
  (repeat refine ⟨by omega, ?_⟩)
  refine Cg (ofc_spec cs [(u0 : Int), (u1 : Int)] 0 u0 (by simp) rfl hl0 _ _ rfl rfl) ?_
  rw [hx0]
  simp only [vx,T,K5,J0,K6,K7,↓reduceIte,J1,J2,J3,J4,J5,J6,J7,J8,J9,reduceCtorEq,K1,K2,K3,K4,VV,PV,PC,LV,LC,X0,X1]
  (repeat refine ⟨by omega, ?_⟩)
  refine Cg (ofc_spec cs [(u0 : Int), (u1 : Int)] 1 u1 (by simp) rfl hl1 _ _ rfl rfl) ?_
  rw [hx1]
  simp only [vx,T,K5,J0,K6,K7,↓reduceIte,J1,J2,J3,J4,J5,J6,J7,J8,J9,reduceCtorEq,K1,K2,K3,K4,VV,PV,PC,LV,LC,X0,X1]
  (repeat refine ⟨by omega, ?_⟩)
  refine Cg cWxx.1 ?_
  simp only [vx,T,K5,J0,K6,K7,↓reduceIte,J1,J2,J3,J4,J5,J6,J7,J8,J9,reduceCtorEq,K1,K2,K3,K4,VV,PV,PC,LV,LC,X0,X1]
  (repeat refine ⟨by omega, ?_⟩)
  refine Cg (ofr_spec n [(u0 : Int), (u1 : Int)] 0 u0 (by simp) rfl hn hu0 _ _ rfl rfl) ?_
  simp only [vx,T,K5,J0,K6,K7,↓reduceIte,J1,J2,J3,J4,J5,J6,J7,J8,J9,reduceCtorEq,K1,K2,K3,K4,VV,PV,PC,LV,LC,X0,X1]
  (repeat refine ⟨by omega, ?_⟩)
  refine Cg (ofr_spec n [(u0 : Int), (u1 : Int)] 1 u1 (by simp) rfl hn hu1 _ _ rfl rfl) ?_
  simp only [vx,T,K5,J0,K6,K7,↓reduceIte,J1,J2,J3,J4,J5,J6,J7,J8,J9,reduceCtorEq,K1,K2,K3,K4,VV,PV,PC,LV,LC,X0,X1]
  (repeat refine ⟨by omega, ?_⟩)
  refine Cg cA.1 ?_
  simp only [vx,T,K5,J0,K6,K7,↓reduceIte,J1,J2,J3,J4,J5,J6,J7,J8,J9,reduceCtorEq,K1,K2,K3,K4,VV,PV,PC,LV,LC,X0,X1]
  (repeat refine ⟨by omega, ?_⟩)
  refine Cg cDWxxWxx.1 ?_
  simp only [vx,T,K5,J0,K6,K7,↓reduceIte,J1,J2,J3,J4,J5,J6,J7,J8,J9,reduceCtorEq,K1,K2,K3,K4,VV,PV,PC,LV,LC,X0,X1]
  (repeat refine ⟨by omega, ?_⟩)
  refine Cg cQ.1 ?_
  simp only [vx,T,K5,J0,K6,K7,↓reduceIte,J1,J2,J3,J4,J5,J6,J7,J8,J9,reduceCtorEq,K1,K2,K3,K4,VV,PV,PC,LV,LC,X0,X1]
  (repeat refine ⟨by omega, ?_⟩)
  refine Cg cS.1 ?_
  simp only [vx,T,K5,J0,K6,K7,↓reduceIte,J1,J2,J3,J4,J5,J6,J7,J8,J9,reduceCtorEq,K1,K2,K3,K4,VV,PV,PC,LV,LC,X0,X1]
  refine Va ⟨rfl, rfl, fun i' j' hi' hj' => ?_⟩
  obtain rfl : j' = 0 := by omega
  obtain rfl : i' = 0 := by omega
  rfl
theorem iOf17m (cs : List Int) (n : Nat) (hn : n < 2 ^ 40) (c3 : C) (u0 x0 : Nat) (hu0 : u0 < 2 ^ 40) (hl0 : u0 < cs.length) (hx0 : cs.getD u0 0 = (x0 : Int)) (hxl0 : x0 < 2 ^ 40) (u1 x1 : Nat) (hu1 : u1 < 2 ^ 40) (hl1 : u1 < cs.length) (hx1 : cs.getD u1 0 = (x1 : Int)) (hxl1 : x1 < 2 ^ 40) : Pr Tryz.prog 9 [.agg [.int .i64 17, .ints .i64 [], .ints .i64 [(u0 : Int), (u1 : Int)], c3, .int .i64 (-1)], .one (QsC []), .one (.ints .i64 cs), .one (.int .i64 n)] (LV [subM (dotM (wayM x0 x1) (wayM x0 x1)) (mulM (subM (varM (2 * n + u0)) (varM (2 * n + u1))) (subM (varM (2 * n + u0)) (varM (2 * n + u1))))]) := by
  have bR0 := NF.var (v := 2 * (n : Int) + u0) (by omega) (by omega)
  have bR1 := NF.var (v := 2 * (n : Int) + u1) (by omega) (by omega)
  have bWxx := NW.way x0 x1 hxl0 hxl1
  have bA := NF.add bR0 bR1
  have bZ := NF.sub bR0 bR1
  have bDWxxWxx := NW.dot bWxx bWxx
  have bQ := NF.mul bZ bZ
  have bS := NF.sub bDWxxWxx bQ
  have cWxx := own_way x0 x1 hxl0 hxl1
  have cA := own_add bR0 bR1 (by decide)
  have cZ := own_sub bR0 bR1 (by decide)
  have cDWxxWxx := own_dot bWxx bWxx (by decide) (by decide)
  have cQ := own_sq bZ (by decide)
  have cS := own_sub bDWxxWxx bQ (by decide)
  refine pv T_ok mixed Tryz.func9 rfl (by decide) _ (by simp [Tryz.ntmps9]) ⟨[0, 1, 2, 3, 4, 5, 6, 7, 8, 9, 10, 11, 12, 13, 14, 15, 16, 17, 18, 19, 20, 21, 22, 23, 24, 25, 26, 27, 28, 35, 36, 53, 70, 88, 116, 143, 161, 179, 203, 230, 276, 287, 298, 314, 322, 330, 369], []⟩ (by kernel_rfl) _ ?_
  show vc T _ _ (Option.get! Tryz.f9.body) _ _
  simp only [Tryz.f9,Tryz.ntmps9,Option.get!,iS,iM,eO,J1]
  simp only [vx,T,K5,J0,K6,K7,↓reduceIte,J1,J2,J3,J4,J5,J6,J7,J8,J9,reduceCtorEq,K1,K2,K3,K4,QsC]
  (repeat refine ⟨by omega, ?_⟩)
  refine Cg (ofc_spec cs [(u0 : Int), (u1 : Int)] 0 u0 (by simp) rfl hl0 _ _ rfl rfl) ?_
  rw [hx0]
  simp only [vx,T,K5,J0,K6,K7,↓reduceIte,J1,J2,J3,J4,J5,J6,J7,J8,J9,reduceCtorEq,K1,K2,K3,K4,VV,PV,PC,LV,LC,X0,X1]
  (repeat refine ⟨by omega, ?_⟩)
  refine Cg (ofc_spec cs [(u0 : Int), (u1 : Int)] 1 u1 (by simp) rfl hl1 _ _ rfl rfl) ?_
  rw [hx1]
  simp only [vx,T,K5,J0,K6,K7,↓reduceIte,J1,J2,J3,J4,J5,J6,J7,J8,J9,reduceCtorEq,K1,K2,K3,K4,VV,PV,PC,LV,LC,X0,X1]
  (repeat refine ⟨by omega, ?_⟩)
  refine Cg cWxx.1 ?_
  simp only [vx,T,K5,J0,K6,K7,↓reduceIte,J1,J2,J3,J4,J5,J6,J7,J8,J9,reduceCtorEq,K1,K2,K3,K4,VV,PV,PC,LV,LC,X0,X1]
  (repeat refine ⟨by omega, ?_⟩)
  refine Cg (ofr_spec n [(u0 : Int), (u1 : Int)] 0 u0 (by simp) rfl hn hu0 _ _ rfl rfl) ?_
  simp only [vx,T,K5,J0,K6,K7,↓reduceIte,J1,J2,J3,J4,J5,J6,J7,J8,J9,reduceCtorEq,K1,K2,K3,K4,VV,PV,PC,LV,LC,X0,X1]
  (repeat refine ⟨by omega, ?_⟩)
  refine Cg (ofr_spec n [(u0 : Int), (u1 : Int)] 1 u1 (by simp) rfl hn hu1 _ _ rfl rfl) ?_
  simp only [vx,T,K5,J0,K6,K7,↓reduceIte,J1,J2,J3,J4,J5,J6,J7,J8,J9,reduceCtorEq,K1,K2,K3,K4,VV,PV,PC,LV,LC,X0,X1]
  (repeat refine ⟨by omega, ?_⟩)
  refine Cg cA.1 ?_
  simp only [vx,T,K5,J0,K6,K7,↓reduceIte,J1,J2,J3,J4,J5,J6,J7,J8,J9,reduceCtorEq,K1,K2,K3,K4,VV,PV,PC,LV,LC,X0,X1]
  (repeat refine ⟨by omega, ?_⟩)
  refine Cg (ofr_spec n [(u0 : Int), (u1 : Int)] 0 u0 (by simp) rfl hn hu0 _ _ rfl rfl) ?_
  simp only [vx,T,K5,J0,K6,K7,↓reduceIte,J1,J2,J3,J4,J5,J6,J7,J8,J9,reduceCtorEq,K1,K2,K3,K4,VV,PV,PC,LV,LC,X0,X1]
  (repeat refine ⟨by omega, ?_⟩)
  refine Cg (ofr_spec n [(u0 : Int), (u1 : Int)] 1 u1 (by simp) rfl hn hu1 _ _ rfl rfl) ?_
  simp only [vx,T,K5,J0,K6,K7,↓reduceIte,J1,J2,J3,J4,J5,J6,J7,J8,J9,reduceCtorEq,K1,K2,K3,K4,VV,PV,PC,LV,LC,X0,X1]
  (repeat refine ⟨by omega, ?_⟩)
  refine Cg cZ.1 ?_
  simp only [vx,T,K5,J0,K6,K7,↓reduceIte,J1,J2,J3,J4,J5,J6,J7,J8,J9,reduceCtorEq,K1,K2,K3,K4,VV,PV,PC,LV,LC,X0,X1]
  (repeat refine ⟨by omega, ?_⟩)
  refine Cg cDWxxWxx.1 ?_
  simp only [vx,T,K5,J0,K6,K7,↓reduceIte,J1,J2,J3,J4,J5,J6,J7,J8,J9,reduceCtorEq,K1,K2,K3,K4,VV,PV,PC,LV,LC,X0,X1]
  (repeat refine ⟨by omega, ?_⟩)
  refine Cg cQ.1 ?_
  simp only [vx,T,K5,J0,K6,K7,↓reduceIte,J1,J2,J3,J4,J5,J6,J7,J8,J9,reduceCtorEq,K1,K2,K3,K4,VV,PV,PC,LV,LC,X0,X1]
  (repeat refine ⟨by omega, ?_⟩)
  refine Cg cS.1 ?_
  simp only [vx,T,K5,J0,K6,K7,↓reduceIte,J1,J2,J3,J4,J5,J6,J7,J8,J9,reduceCtorEq,K1,K2,K3,K4,VV,PV,PC,LV,LC,X0,X1]
  refine Va ⟨rfl, rfl, fun i' j' hi' hj' => ?_⟩
  obtain rfl : j' = 0 := by omega
  obtain rfl : i' = 0 := by omega
  rfl
end Go.Proofs.YtpogdlmhmafjlaaGreat
/-
  The value of a polynomial at rational numbers.
-/
namespace Go.Eng
def mulV (c : Int → Rat) : List Int → Rat
  | [] => 1
  | v :: r => c v * mulV c r
theorem mulV_append (c : Int → Rat) (a b : List Int) : mulV c (a ++ b) = mulV c a * mulV c b := by
  induction a with
  | nil => exact (Rat.one_mul _).symm
  | cons v r ih => simp only [List.cons_append,mulV,ih,Rat.mul_assoc]
theorem mulV_perm (c : Int → Rat) {a b : List Int} (h : a.Perm b) : mulV c a = mulV c b := by
  induction h with
  | nil => rfl
  | cons x _ ih => simp only [mulV,ih]
  | swap x y l => simp only [mulV]; rw [← Rat.mul_assoc, Rat.mul_comm (c y), Rat.mul_assoc]
  | trans _ _ h1 h2 => exact h1.trans h2
theorem mulV_srtZ (c : Int → Rat) (l : List Int) : mulV c (srtZ l) = mulV c l := mulV_perm c (srtZ_perm l)
def ev (c : Int → Rat) (p : List Mono) : Rat := lin (mulV c) p
theorem ev_norM (c : Int → Rat) (l : List Mono) : ev c (norM l) = ev c l := lin_norM _ l
theorem ev_append (c : Int → Rat) (a b : List Mono) : ev c (a ++ b) = ev c a + ev c b := lin_append _ a b
theorem ev_mulM (c : Int → Rat) (p q : List Mono) : ev c (mulM p q) = ev c p * ev c q := by
  unfold ev
  rw [lin_mulM]
  have h : ∀ v, lin (fun u => mulV c (srtZ (v ++ u))) q = lin (mulV c) q * mulV c v := fun v => by
    rw [Rat.mul_comm, ← lin_smul]
    exact lin_congr fun m _ => by rw [mulV_srtZ, mulV_append]
  rw [lin_congr (h := fun v => lin (mulV c) q * mulV c v) (fun m _ => h m.2), lin_smul, Rat.mul_comm]
theorem ev_sg (c : Int → Rat) (q : Rat) (v : List Int) : ev c [(q, v)] = q * mulV c v := by
  show q * mulV c v + 0 = _
  rw [Rat.add_zero]
def VIn (N : Int) (p : List Mono) : Prop := ∀ m ∈ p, ∀ v ∈ m.2, 0 ≤ v ∧ v < N
theorem VIn.append {N : Int} {a b : List Mono} (ha : VIn N a) (hb : VIn N b) : VIn N (a ++ b) := fun m hm => by
  rcases List.mem_append.1 hm with h | h
  · exact ha m h
  exact hb m h
theorem VIn.norM {N : Int} {l : List Mono} (h : VIn N l) : VIn N (Eng.norM l) := fun m hm => by
  obtain ⟨x, hx, e⟩ := norM_mem hm
  rw [e]; exact h x hx
theorem VIn.mulM {N : Int} {p q : List Mono} (hp : VIn N p) (hq : VIn N q) : VIn N (Eng.mulM p q) := by
  rw [mulM_eq]
  refine VIn.norM fun m hm v hv => ?_
  obtain ⟨x, hx, rfl⟩ := List.mem_map.1 hm
  have hv := (srtZ_perm _).mem_iff.1 hv
  obtain ⟨a, ha, hx⟩ := List.mem_flatMap.1 hx
  obtain ⟨b, hb, rfl⟩ := List.mem_map.1 hx
  rcases List.mem_append.1 hv with h | h
  · exact hp a ha v h
  exact hq b hb v h
theorem VIn.num {N : Int} (q : Rat) : VIn N [(q, [])] := fun m hm v hv => by
  obtain rfl := List.mem_singleton.1 hm
  cases hv
theorem VIn.var {N : Int} {q : Rat} {x : Int} (h : 0 ≤ x ∧ x < N) : VIn N [(q, [x])] := fun m hm v hv => by
  obtain rfl := List.mem_singleton.1 hm
  obtain rfl := List.mem_singleton.1 hv
  exact h
def mvK (c : Int → Rat) (q : Rat) (vs : List Int) (k : Nat) : Rat := q * mulV c (vs.take k)
theorem mvK_zero (c : Int → Rat) (q : Rat) (vs : List Int) : mvK c q vs 0 = q := Rat.mul_one q
theorem mvK_succ (c : Int → Rat) (q : Rat) (vs : List Int) {k : Nat} (h : k < vs.length) : mvK c q vs (k + 1) = mvK c q vs k * c (vs.getD k 0) := by
  unfold mvK
  rw [List.take_add_one, mulV_append, X7, X8 h]
  simp only [Option.toList,mulV,Option.getD,Rat.mul_one,Rat.mul_assoc]
def evK (c : Int → Rat) (p : List Mono) (k : Nat) : Rat := ev c (p.take k)
theorem evK_zero (c : Int → Rat) (p : List Mono) : evK c p 0 = 0 := rfl
theorem evK_all (c : Int → Rat) (p : List Mono) : evK c p p.length = ev c p := by unfold evK; rw [List.take_length]
theorem evK_succ (c : Int → Rat) (p : List Mono) {k : Nat} (h : k < p.length) : evK c p (k + 1) = evK c p k + mvK c (p.getD k default).1 (p.getD k default).2 (p.getD k default).2.length := by
  unfold evK mvK
  rw [List.take_add_one, ev_append, X7, X8 h, List.take_length]
  show _ + ev c [(p[k].1, p[k].2)] = _
  rw [ev_sg]; rfl
theorem qm_mvK {c : Int → Rat} {q : Rat} {vs : List Int} {S B : Nat} (hc : ∀ v ∈ vs, qm (c v) ≤ S) (hq : qm q ≤ B) : ∀ k, k ≤ vs.length → qm (mvK c q vs k) ≤ B + k * (S + 1) := by
  intro k
  induction k with
  | zero => intro _; rw [mvK_zero]; omega
  | succ k ih =>
    intro hk
    have h1 := ih (by omega)
    rw [mvK_succ c q vs (by omega)]
    have h2 := qm_mul (mvK c q vs k) (c (vs.getD k 0))
    have h3 := hc (vs.getD k 0) (by rw [X7, X8 (by omega)]; exact List.getElem_mem _)
    rw [Nat.add_mul]
    omega
theorem qm_evK {c : Int → Rat} {p : List Mono} {n d B S : Nat} (h : PB p n d B) (hc : ∀ m ∈ p, ∀ v ∈ m.2, qm (c v) ≤ S) : ∀ k, k ≤ p.length → qm (evK c p k) ≤ 2 + k * (B + d * (S + 1) + 1) := by
  intro k
  induction k with
  | zero =>
    intro _
    rw [evK_zero]
    have : qm (0 : Rat) ≤ 2 := by decide +kernel
    omega
  | succ k ih =>
    intro hk
    have h1 := ih (by omega)
    have hk' : k < p.length := by omega
    have hm : p.getD k default ∈ p := by rw [X7, X8 hk']; exact List.getElem_mem _
    rw [evK_succ c p hk']
    have h2 := qm_add (evK c p k) (mvK c (p.getD k default).1 (p.getD k default).2 (p.getD k default).2.length)
    have h3 := qm_mvK (S := S) (hc _ hm) (h.m _ hm).1 _ (Nat.le_refl _)
    have h4 := Nat.mul_le_mul_right (S + 1) (h.m _ hm).2.1
    rw [Nat.add_mul]
    omega
end Go.Eng
namespace Go.Proofs.YtpogdlmhmafjlaaGreat
open Go Go.Eng
theorem ev_var (c : Int → Rat) (v : Int) : ev c (varM v) = c v := by
  unfold varM
  rw [ev_sg]
  show (1 : Rat) * (c v * 1) = _
  rw [Rat.mul_one, Rat.one_mul]
theorem ev_sub (c : Int → Rat) (p q : List Mono) : ev c (subM p q) = ev c p + -1 * ev c q := by
  unfold subM negM
  rw [ev_norM, ev_append, ev_mulM, ev_norM, ev_sg]
  show _ + (-1 : Rat) * 1 * _ = _
  rw [Rat.mul_one]
structure Shift (n : Nat) (c d : Int → Rat) : Prop where
  pt : ∃ x y : Rat, ∀ i : Nat, i < n → d (2 * i) = c (2 * i) + x ∧ d (2 * i + 1) = c (2 * i + 1) + y
  rad : ∀ v : Int, 2 * n ≤ v → d v = c v
theorem shift_dif (a b x : Rat) : (a + x) + -1 * (b + x) = a + -1 * b := by grind
theorem Shift.way1 {n : Nat} {c d : Int → Rat} (s : Shift n c d) {i k : Nat} (hi : i < n) (hk : k < n) : ev d (wayM i k).1 = ev c (wayM i k).1 := by
  obtain ⟨x, y, h⟩ := s.pt
  show ev d (subM (varM (2 * k)) (varM (2 * i))) = ev c (subM (varM (2 * k)) (varM (2 * i)))
  rw [ev_sub, ev_sub, ev_var, ev_var, ev_var, ev_var, (h k hk).1, (h i hi).1, shift_dif]
theorem Shift.way2 {n : Nat} {c d : Int → Rat} (s : Shift n c d) {i k : Nat} (hi : i < n) (hk : k < n) : ev d (wayM i k).2 = ev c (wayM i k).2 := by
  obtain ⟨x, y, h⟩ := s.pt
  show ev d (subM (varM (2 * k + 1)) (varM (2 * i + 1))) = ev c (subM (varM (2 * k + 1)) (varM (2 * i + 1)))
  rw [ev_sub, ev_sub, ev_var, ev_var, ev_var, ev_var, (h k hk).2, (h i hi).2, shift_dif]
theorem Shift.var {n : Nat} {c d : Int → Rat} (s : Shift n c d) (u : Nat) : ev d (varM (2 * n + u)) = ev c (varM (2 * n + u)) := by
  rw [ev_var, ev_var, s.rad _ (by omega)]
theorem VIn.neg {N : Int} {q : List Mono} (h : VIn N q) : VIn N (negM q) := VIn.mulM (VIn.norM (VIn.num _)) h
theorem VIn.sub {N : Int} {p q : List Mono} (hp : VIn N p) (hq : VIn N q) : VIn N (subM p q) := VIn.norM (VIn.append hp (VIn.neg hq))
theorem VIn.add {N : Int} {p q : List Mono} (hp : VIn N p) (hq : VIn N q) : VIn N (Go.Eng.norM (p ++ q)) := VIn.norM (VIn.append hp hq)
theorem VIn.mul {N : Int} {p q : List Mono} (hp : VIn N p) (hq : VIn N q) : VIn N (Go.Eng.mulM p q) := VIn.mulM hp hq
def VW (N : Int) (a : List Mono × List Mono) : Prop := VIn N a.1 ∧ VIn N a.2
theorem VW.way {N : Int} (i k : Nat) (hi : 2 * (i : Int) + 1 < N) (hk : 2 * (k : Int) + 1 < N) : VW N (wayM i k) :=
  ⟨VIn.sub (VIn.var ⟨by omega, by omega⟩) (VIn.var ⟨by omega, by omega⟩), VIn.sub (VIn.var ⟨by omega, by omega⟩) (VIn.var ⟨by omega, by omega⟩)⟩
theorem VW.dot {N : Int} {a b : List Mono × List Mono} (ha : VW N a) (hb : VW N b) : VIn N (dotM a b) := VIn.add (VIn.mul ha.1 hb.1) (VIn.mul ha.2 hb.2)
theorem VW.cross {N : Int} {a b : List Mono × List Mono} (ha : VW N a) (hb : VW N b) : VIn N (crossM a b) := VIn.sub (VIn.mul ha.1 hb.2) (VIn.mul ha.2 hb.1)
theorem VW.plus {N : Int} {a b : List Mono × List Mono} (ha : VW N a) (hb : VW N b) : VW N (norM (a.1 ++ b.1), norM (a.2 ++ b.2)) := ⟨VIn.add ha.1 hb.1, VIn.add ha.2 hb.2⟩
structure FinT (N : Int) (l : List Mono) : Prop where
  v : VIn N l
  nf : ∃ n d B, NF l n d B ∧ n < 2 ^ 30 ∧ d < 2 ^ 30 ∧ B < 2 ^ 32 ∧ n * (B + d * 17 + 1) < 2 ^ 33
def TrP (n : Nat) (N : Int) (p : List Mono) : Prop := FinT N p ∧ ∀ c d : Int → Rat, Shift n c d → ev d p = ev c p
theorem TrP.of {n : Nat} {N : Int} {l : List Mono} {m d B : Nat} (h : NF l m d B) (hv : VIn N l) (hb : m < 2 ^ 30 ∧ d < 2 ^ 30 ∧ B < 2 ^ 32 ∧ m * (B + d * 17 + 1) < 2 ^ 33) (he : ∀ c d : Int → Rat, Shift n c d → ev d l = ev c l) : TrP n N l := ⟨⟨hv, m, d, B, h, hb⟩, he⟩
def TrOk (k : Int) (pts cir : List Int) (c3 : C) (s : Int) (qs : List Rat) (cs : List Int) (n : Nat) : Prop :=
  ∃ ps : List (List Mono), Pr Tryz.prog 9 [.agg [.int .i64 k, .ints .i64 pts, .ints .i64 cir, c3, .int .i64 s], .one (QsC qs), .one (.ints .i64 cs), .one (.int .i64 n)] (LV ps) ∧ (∀ p ∈ ps, TrP n (2 * n + cs.length) p) ∧ ps.length < 2 ^ 30
theorem one_tr {n : Nat} {N : Int} {p : List Mono} (h : TrP n N p) : ∀ x ∈ [p], TrP n N x := fun x hx => by obtain rfl := List.mem_singleton.1 hx; exact h
theorem two_tr {n : Nat} {N : Int} {p q : List Mono} (h : TrP n N p) (h2 : TrP n N q) : ∀ x ∈ [p, q], TrP n N x := fun x hx => by
  rcases List.mem_cons.1 hx with rfl | hx
  · exact h
  obtain rfl := List.mem_singleton.1 hx; exact h2
theorem tr2 (cs : List Int) (n : Nat) (hn : n ≤ 12) (hcs : cs.length ≤ 4) (c3 : C) (s : Int) (a b : Nat) (ha : a < n) (hb : b < n) (q0 : Rat) (hq0 : qm q0 ≤ 4) : TrOk 2 [(a : Int), (b : Int)] [] c3 s [q0] cs n := by
  have bV0 := NF.num hq0
  have vV0 : VIn (2 * n + cs.length) (norM [(q0, [])]) := VIn.norM (VIn.num q0)
  have bWab := NW.way a b (by omega) (by omega)
  have vWab : VW (2 * n + cs.length) _ := VW.way a b (by omega) (by omega)
  have bDWabWab := NW.dot bWab bWab
  have vDWabWab := VW.dot vWab vWab
  have bQ := NF.mul bV0 bV0
  have vQ := VIn.mul vV0 vV0
  have bS := NF.sub bDWabWab bQ
  have vS := VIn.sub vDWabWab vQ
  exact ⟨_, iOf2 cs n (by omega) c3 s a b (show a < 2 ^ 40 by omega) (show b < 2 ^ 40 by omega) q0 hq0, one_tr (TrP.of bS vS (by decide) (fun c d s => by simp only [dotM,crossM,ev_sub,ev_mulM,ev_norM,ev_append,ev_sg,mulV,s.way1 ha hb,s.way2 ha hb])), show 1 < 2 ^ 30 by decide⟩
theorem tr3 (cs : List Int) (n : Nat) (hn : n ≤ 12) (hcs : cs.length ≤ 4) (c3 : C) (s : Int) (a b c : Nat) (ha : a < n) (hb : b < n) (hc : c < n) : TrOk 3 [(a : Int), (b : Int), (c : Int)] [] c3 s [] cs n := by
  have bWbc := NW.way b c (by omega) (by omega)
  have vWbc : VW (2 * n + cs.length) _ := VW.way b c (by omega) (by omega)
  have bWba := NW.way b a (by omega) (by omega)
  have vWba : VW (2 * n + cs.length) _ := VW.way b a (by omega) (by omega)
  have bCWbcWba := NW.cross bWbc bWba
  have vCWbcWba := VW.cross vWbc vWba
  exact ⟨_, iOf3 cs n (by omega) c3 s a b c (show a < 2 ^ 40 by omega) (show b < 2 ^ 40 by omega) (show c < 2 ^ 40 by omega), one_tr (TrP.of bCWbcWba vCWbcWba (by decide) (fun c d s => by simp only [dotM,crossM,ev_sub,ev_mulM,ev_norM,ev_append,ev_sg,mulV,s.way1 hb hc,s.way2 hb hc,s.way1 hb ha,s.way2 hb ha])), show 1 < 2 ^ 30 by decide⟩
theorem tr4 (cs : List Int) (n : Nat) (hn : n ≤ 12) (hcs : cs.length ≤ 4) (c3 : C) (s : Int) (a b c : Nat) (ha : a < n) (hb : b < n) (hc : c < n) (q0 : Rat) (hq0 : qm q0 ≤ 4) : TrOk 4 [(a : Int), (b : Int), (c : Int)] [] c3 s [q0] cs n := by
  have bV0 := NF.num hq0
  have vV0 : VIn (2 * n + cs.length) (norM [(q0, [])]) := VIn.norM (VIn.num q0)
  have bWbc := NW.way b c (by omega) (by omega)
  have vWbc : VW (2 * n + cs.length) _ := VW.way b c (by omega) (by omega)
  have bWba := NW.way b a (by omega) (by omega)
  have vWba : VW (2 * n + cs.length) _ := VW.way b a (by omega) (by omega)
  have bCWbcWba := NW.cross bWbc bWba
  have vCWbcWba := VW.cross vWbc vWba
  have bQ := NF.mul bCWbcWba bCWbcWba
  have vQ := VIn.mul vCWbcWba vCWbcWba
  have bQ2 := NF.mul bV0 bV0
  have vQ2 := VIn.mul vV0 vV0
  have bDWbcWbc := NW.dot bWbc bWbc
  have vDWbcWbc := VW.dot vWbc vWbc
  have bM := NF.mul bQ2 bDWbcWbc
  have vM := VIn.mul vQ2 vDWbcWbc
  have bS := NF.sub bQ bM
  have vS := VIn.sub vQ vM
  exact ⟨_, iOf4 cs n (by omega) c3 s a b c (show a < 2 ^ 40 by omega) (show b < 2 ^ 40 by omega) (show c < 2 ^ 40 by omega) q0 hq0, one_tr (TrP.of bS vS (by decide) (fun c d s => by simp only [dotM,crossM,ev_sub,ev_mulM,ev_norM,ev_append,ev_sg,mulV,s.way1 hb hc,s.way2 hb hc,s.way1 hb ha,s.way2 hb ha])), show 1 < 2 ^ 30 by decide⟩
theorem tr5 (cs : List Int) (n : Nat) (hn : n ≤ 12) (hcs : cs.length ≤ 4) (c3 : C) (s : Int) (a b c d : Nat) (ha : a < n) (hb : b < n) (hc : c < n) (hd : d < n) (q0 : Rat) (hq0 : qm q0 ≤ 4) : TrOk 5 [(a : Int), (b : Int), (c : Int), (d : Int)] [] c3 s [q0] cs n := by
  have bV0 := NF.num hq0
  have vV0 : VIn (2 * n + cs.length) (norM [(q0, [])]) := VIn.norM (VIn.num q0)
  have bWab := NW.way a b (by omega) (by omega)
  have vWab : VW (2 * n + cs.length) _ := VW.way a b (by omega) (by omega)
  have bWcd := NW.way c d (by omega) (by omega)
  have vWcd : VW (2 * n + cs.length) _ := VW.way c d (by omega) (by omega)
  have bCWabWcd := NW.cross bWab bWcd
  have vCWabWcd := VW.cross vWab vWcd
  have bDWabWcd := NW.dot bWab bWcd
  have vDWabWcd := VW.dot vWab vWcd
  have bM := NF.mul bV0 bDWabWcd
  have vM := VIn.mul vV0 vDWabWcd
  have bS := NF.sub bCWabWcd bM
  have vS := VIn.sub vCWabWcd vM
  exact ⟨_, iOf5 cs n (by omega) c3 s a b c d (show a < 2 ^ 40 by omega) (show b < 2 ^ 40 by omega) (show c < 2 ^ 40 by omega) (show d < 2 ^ 40 by omega) q0 hq0, one_tr (TrP.of bS vS (by decide) (fun c d s => by simp only [dotM,crossM,ev_sub,ev_mulM,ev_norM,ev_append,ev_sg,mulV,s.way1 ha hb,s.way2 ha hb,s.way1 hc hd,s.way2 hc hd])), show 1 < 2 ^ 30 by decide⟩
theorem tr6 (cs : List Int) (n : Nat) (hn : n ≤ 12) (hcs : cs.length ≤ 4) (c3 : C) (s : Int) (a b c d : Nat) (ha : a < n) (hb : b < n) (hc : c < n) (hd : d < n) : TrOk 6 [(a : Int), (b : Int), (c : Int), (d : Int)] [] c3 s [] cs n := by
  have bWab := NW.way a b (by omega) (by omega)
  have vWab : VW (2 * n + cs.length) _ := VW.way a b (by omega) (by omega)
  have bWcd := NW.way c d (by omega) (by omega)
  have vWcd : VW (2 * n + cs.length) _ := VW.way c d (by omega) (by omega)
  have bCWabWcd := NW.cross bWab bWcd
  have vCWabWcd := VW.cross vWab vWcd
  exact ⟨_, iOf6 cs n (by omega) c3 s a b c d (show a < 2 ^ 40 by omega) (show b < 2 ^ 40 by omega) (show c < 2 ^ 40 by omega) (show d < 2 ^ 40 by omega), one_tr (TrP.of bCWabWcd vCWabWcd (by decide) (fun c d s => by simp only [dotM,crossM,ev_sub,ev_mulM,ev_norM,ev_append,ev_sg,mulV,s.way1 ha hb,s.way2 ha hb,s.way1 hc hd,s.way2 hc hd])), show 1 < 2 ^ 30 by decide⟩
theorem tr7 (cs : List Int) (n : Nat) (hn : n ≤ 12) (hcs : cs.length ≤ 4) (c3 : C) (s : Int) (a b c d : Nat) (ha : a < n) (hb : b < n) (hc : c < n) (hd : d < n) : TrOk 7 [(a : Int), (b : Int), (c : Int), (d : Int)] [] c3 s [] cs n := by
  have bWab := NW.way a b (by omega) (by omega)
  have vWab : VW (2 * n + cs.length) _ := VW.way a b (by omega) (by omega)
  have bWcd := NW.way c d (by omega) (by omega)
  have vWcd : VW (2 * n + cs.length) _ := VW.way c d (by omega) (by omega)
  have bDWabWcd := NW.dot bWab bWcd
  have vDWabWcd := VW.dot vWab vWcd
  exact ⟨_, iOf7 cs n (by omega) c3 s a b c d (show a < 2 ^ 40 by omega) (show b < 2 ^ 40 by omega) (show c < 2 ^ 40 by omega) (show d < 2 ^ 40 by omega), one_tr (TrP.of bDWabWcd vDWabWcd (by decide) (fun c d s => by simp only [dotM,crossM,ev_sub,ev_mulM,ev_norM,ev_append,ev_sg,mulV,s.way1 ha hb,s.way2 ha hb,s.way1 hc hd,s.way2 hc hd])), show 1 < 2 ^ 30 by decide⟩
theorem tr8 (cs : List Int) (n : Nat) (hn : n ≤ 12) (hcs : cs.length ≤ 4) (c3 : C) (s : Int) (a b c d : Nat) (ha : a < n) (hb : b < n) (hc : c < n) (hd : d < n) : TrOk 8 [(a : Int), (b : Int), (c : Int), (d : Int)] [] c3 s [] cs n := by
  have bWab := NW.way a b (by omega) (by omega)
  have vWab : VW (2 * n + cs.length) _ := VW.way a b (by omega) (by omega)
  have bWcd := NW.way c d (by omega) (by omega)
  have vWcd : VW (2 * n + cs.length) _ := VW.way c d (by omega) (by omega)
  have bDWabWab := NW.dot bWab bWab
  have vDWabWab := VW.dot vWab vWab
  have bDWcdWcd := NW.dot bWcd bWcd
  have vDWcdWcd := VW.dot vWcd vWcd
  have bS := NF.sub bDWabWab bDWcdWcd
  have vS := VIn.sub vDWabWab vDWcdWcd
  exact ⟨_, iOf8 cs n (by omega) c3 s a b c d (show a < 2 ^ 40 by omega) (show b < 2 ^ 40 by omega) (show c < 2 ^ 40 by omega) (show d < 2 ^ 40 by omega), one_tr (TrP.of bS vS (by decide) (fun c d s => by simp only [dotM,crossM,ev_sub,ev_mulM,ev_norM,ev_append,ev_sg,mulV,s.way1 ha hb,s.way2 ha hb,s.way1 hc hd,s.way2 hc hd])), show 1 < 2 ^ 30 by decide⟩
theorem tr9 (cs : List Int) (n : Nat) (hn : n ≤ 12) (hcs : cs.length ≤ 4) (c3 : C) (s : Int) (a b c : Nat) (ha : a < n) (hb : b < n) (hc : c < n) : TrOk 9 [(a : Int), (b : Int), (c : Int)] [] c3 s [] cs n := by
  have bWba := NW.way b a (by omega) (by omega)
  have vWba : VW (2 * n + cs.length) _ := VW.way b a (by omega) (by omega)
  have bWca := NW.way c a (by omega) (by omega)
  have vWca : VW (2 * n + cs.length) _ := VW.way c a (by omega) (by omega)
  have bA1 := NF.add bWba.1 bWca.1
  have vA1 := VIn.add vWba.1 vWca.1
  have bA2 := NF.add bWba.2 bWca.2
  have vA2 := VIn.add vWba.2 vWca.2
  exact ⟨_, iOf9 cs n (by omega) c3 s a b c (show a < 2 ^ 40 by omega) (show b < 2 ^ 40 by omega) (show c < 2 ^ 40 by omega), two_tr (TrP.of bA1 vA1 (by decide) (fun c d s => by simp only [dotM,crossM,ev_sub,ev_mulM,ev_norM,ev_append,ev_sg,mulV,s.way1 hb ha,s.way2 hb ha,s.way1 hc ha,s.way2 hc ha])) (TrP.of bA2 vA2 (by decide) (fun c d s => by simp only [dotM,crossM,ev_sub,ev_mulM,ev_norM,ev_append,ev_sg,mulV,s.way1 hb ha,s.way2 hb ha,s.way1 hc ha,s.way2 hc ha])), show 2 < 2 ^ 30 by decide⟩
theorem tr10 (cs : List Int) (n : Nat) (hn : n ≤ 12) (hcs : cs.length ≤ 4) (c3 : C) (s : Int) (a b c d : Nat) (ha : a < n) (hb : b < n) (hc : c < n) (hd : d < n) : TrOk 10 [(a : Int), (b : Int), (c : Int), (d : Int)] [] c3 s [] cs n := by
  have bWca := NW.way c a (by omega) (by omega)
  have vWca : VW (2 * n + cs.length) _ := VW.way c a (by omega) (by omega)
  have bWcb := NW.way c b (by omega) (by omega)
  have vWcb : VW (2 * n + cs.length) _ := VW.way c b (by omega) (by omega)
  have bWcd := NW.way c d (by omega) (by omega)
  have vWcd : VW (2 * n + cs.length) _ := VW.way c d (by omega) (by omega)
  have bWab := NW.way a b (by omega) (by omega)
  have vWab : VW (2 * n + cs.length) _ := VW.way a b (by omega) (by omega)
  have bA1 := NF.add bWca.1 bWcb.1
  have vA1 := VIn.add vWca.1 vWcb.1
  have bA2 := NF.add bWca.2 bWcb.2
  have vA2 := VIn.add vWca.2 vWcb.2
  have bU := NW.plus bWca bWcb
  have vU := VW.plus vWca vWcb
  have bCUWcd := NW.cross bU bWcd
  have vCUWcd := VW.cross vU vWcd
  have bDWabWcd := NW.dot bWab bWcd
  have vDWabWcd := VW.dot vWab vWcd
  exact ⟨_, iOf10 cs n (by omega) c3 s a b c d (show a < 2 ^ 40 by omega) (show b < 2 ^ 40 by omega) (show c < 2 ^ 40 by omega) (show d < 2 ^ 40 by omega), two_tr (TrP.of bCUWcd vCUWcd (by decide) (fun c d s => by simp only [dotM,crossM,ev_sub,ev_mulM,ev_norM,ev_append,ev_sg,mulV,s.way1 hc ha,s.way2 hc ha,s.way1 hc hb,s.way2 hc hb,s.way1 hc hd,s.way2 hc hd,s.way1 ha hb,s.way2 ha hb])) (TrP.of bDWabWcd vDWabWcd (by decide) (fun c d s => by simp only [dotM,crossM,ev_sub,ev_mulM,ev_norM,ev_append,ev_sg,mulV,s.way1 hc ha,s.way2 hc ha,s.way1 hc hb,s.way2 hc hb,s.way1 hc hd,s.way2 hc hd,s.way1 ha hb,s.way2 ha hb])), show 2 < 2 ^ 30 by decide⟩
theorem tr11 (cs : List Int) (n : Nat) (hn : n ≤ 12) (hcs : cs.length ≤ 4) (c3 : C) (s : Int) (a b : Nat) (ha : a < n) (hb : b < n) : TrOk 11 [(a : Int), (b : Int)] [] c3 s [] cs n := by
  have bWba := NW.way b a (by omega) (by omega)
  have vWba : VW (2 * n + cs.length) _ := VW.way b a (by omega) (by omega)
  have bS := NF.sub (NF.var (v := 2 * (a : Int) + 1) (by omega) (by omega)) (NF.var (v := 2 * (b : Int) + 1) (by omega) (by omega))
  exact ⟨_, iOf11 cs n (by omega) c3 s a b (show a < 2 ^ 40 by omega) (show b < 2 ^ 40 by omega), one_tr (TrP.of bWba.2 vWba.2 (by decide) (fun c d s => by simp only [dotM,crossM,ev_sub,ev_mulM,ev_norM,ev_append,ev_sg,mulV,s.way1 hb ha,s.way2 hb ha])), show 1 < 2 ^ 30 by decide⟩
theorem tr12 (cs : List Int) (n : Nat) (hn : n ≤ 12) (hcs : cs.length ≤ 4) (c3 : C) (s : Int) (a b : Nat) (ha : a < n) (hb : b < n) : TrOk 12 [(a : Int), (b : Int)] [] c3 s [] cs n := by
  have bWba := NW.way b a (by omega) (by omega)
  have vWba : VW (2 * n + cs.length) _ := VW.way b a (by omega) (by omega)
  have bS := NF.sub (NF.var (v := 2 * (a : Int)) (by omega) (by omega)) (NF.var (v := 2 * (b : Int)) (by omega) (by omega))
  exact ⟨_, iOf12 cs n (by omega) c3 s a b (show a < 2 ^ 40 by omega) (show b < 2 ^ 40 by omega), one_tr (TrP.of bWba.1 vWba.1 (by decide) (fun c d s => by simp only [dotM,crossM,ev_sub,ev_mulM,ev_norM,ev_append,ev_sg,mulV,s.way1 hb ha,s.way2 hb ha])), show 1 < 2 ^ 30 by decide⟩
theorem tr13 (cs : List Int) (n : Nat) (hn : n ≤ 12) (hcs : cs.length ≤ 4) (c3 : C) (s : Int) (a : Nat) (ha : a < n) (u0 x0 : Nat) (hl0 : u0 < cs.length) (hx0 : cs.getD u0 0 = (x0 : Int)) (hxl0 : x0 < n) : TrOk 13 [(a : Int)] [(u0 : Int)] c3 s [] cs n := by
  have bR0 := NF.var (v := 2 * (n : Int) + u0) (by omega) (by omega)
  have vR0 : VIn (2 * n + cs.length) (varM (2 * (n : Int) + u0)) := VIn.var ⟨by omega, by omega⟩
  have bWx0a := NW.way x0 a (by omega) (by omega)
  have vWx0a : VW (2 * n + cs.length) _ := VW.way x0 a (by omega) (by omega)
  have bDWx0aWx0a := NW.dot bWx0a bWx0a
  have vDWx0aWx0a := VW.dot vWx0a vWx0a
  have bQ := NF.mul bR0 bR0
  have vQ := VIn.mul vR0 vR0
  have bS := NF.sub bDWx0aWx0a bQ
  have vS := VIn.sub vDWx0aWx0a vQ
  exact ⟨_, iOf13 cs n (by omega) c3 s a (show a < 2 ^ 40 by omega) u0 x0 (by omega) hl0 hx0 (show x0 < 2 ^ 40 by omega), one_tr (TrP.of bS vS (by decide) (fun c d s => by simp only [dotM,crossM,ev_sub,ev_mulM,ev_norM,ev_append,ev_sg,mulV,s.way1 hxl0 ha,s.way2 hxl0 ha,s.var u0])), show 1 < 2 ^ 30 by decide⟩
theorem tr14 (cs : List Int) (n : Nat) (hn : n ≤ 12) (hcs : cs.length ≤ 4) (c3 : C) (s : Int) (q0 : Rat) (hq0 : qm q0 ≤ 4) (u0 x0 : Nat) (hl0 : u0 < cs.length) (hx0 : cs.getD u0 0 = (x0 : Int)) (hxl0 : x0 < n) : TrOk 14 [] [(u0 : Int)] c3 s [q0] cs n := by
  have bR0 := NF.var (v := 2 * (n : Int) + u0) (by omega) (by omega)
  have vR0 : VIn (2 * n + cs.length) (varM (2 * (n : Int) + u0)) := VIn.var ⟨by omega, by omega⟩
  have bV0 := NF.num hq0
  have vV0 : VIn (2 * n + cs.length) (norM [(q0, [])]) := VIn.norM (VIn.num q0)
  have bS := NF.sub bR0 bV0
  have vS := VIn.sub vR0 vV0
  exact ⟨_, iOf14 cs n (by omega) c3 s q0 hq0 u0 x0 (by omega) hl0 hx0 (show x0 < 2 ^ 40 by omega), one_tr (TrP.of bS vS (by decide) (fun c d s => by simp only [dotM,crossM,ev_sub,ev_mulM,ev_norM,ev_append,ev_sg,mulV,s.var u0])), show 1 < 2 ^ 30 by decide⟩
theorem tr15 (cs : List Int) (n : Nat) (hn : n ≤ 12) (hcs : cs.length ≤ 4) (c3 : C) (s : Int) (u0 x0 : Nat) (hl0 : u0 < cs.length) (hx0 : cs.getD u0 0 = (x0 : Int)) (hxl0 : x0 < n) (u1 x1 : Nat) (hl1 : u1 < cs.length) (hx1 : cs.getD u1 0 = (x1 : Int)) (hxl1 : x1 < n) : TrOk 15 [] [(u0 : Int), (u1 : Int)] c3 s [] cs n := by
  have bR0 := NF.var (v := 2 * (n : Int) + u0) (by omega) (by omega)
  have vR0 : VIn (2 * n + cs.length) (varM (2 * (n : Int) + u0)) := VIn.var ⟨by omega, by omega⟩
  have bR1 := NF.var (v := 2 * (n : Int) + u1) (by omega) (by omega)
  have vR1 : VIn (2 * n + cs.length) (varM (2 * (n : Int) + u1)) := VIn.var ⟨by omega, by omega⟩
  have bS := NF.sub bR0 bR1
  have vS := VIn.sub vR0 vR1
  exact ⟨_, iOf15 cs n (by omega) c3 s u0 x0 (by omega) hl0 hx0 (show x0 < 2 ^ 40 by omega) u1 x1 (by omega) hl1 hx1 (show x1 < 2 ^ 40 by omega), one_tr (TrP.of bS vS (by decide) (fun c d s => by simp only [dotM,crossM,ev_sub,ev_mulM,ev_norM,ev_append,ev_sg,mulV,s.var u0,s.var u1])), show 1 < 2 ^ 30 by decide⟩
theorem tr16 (cs : List Int) (n : Nat) (hn : n ≤ 12) (hcs : cs.length ≤ 4) (c3 : C) (s : Int) (a b : Nat) (ha : a < n) (hb : b < n) (u0 x0 : Nat) (hl0 : u0 < cs.length) (hx0 : cs.getD u0 0 = (x0 : Int)) (hxl0 : x0 < n) : TrOk 16 [(a : Int), (b : Int)] [(u0 : Int)] c3 s [] cs n := by
  have bR0 := NF.var (v := 2 * (n : Int) + u0) (by omega) (by omega)
  have vR0 : VIn (2 * n + cs.length) (varM (2 * (n : Int) + u0)) := VIn.var ⟨by omega, by omega⟩
  have bWab := NW.way a b (by omega) (by omega)
  have vWab : VW (2 * n + cs.length) _ := VW.way a b (by omega) (by omega)
  have bWax0 := NW.way a x0 (by omega) (by omega)
  have vWax0 : VW (2 * n + cs.length) _ := VW.way a x0 (by omega) (by omega)
  have bCWabWax0 := NW.cross bWab bWax0
  have vCWabWax0 := VW.cross vWab vWax0
  have bQ := NF.mul bCWabWax0 bCWabWax0
  have vQ := VIn.mul vCWabWax0 vCWabWax0
  have bQ2 := NF.mul bR0 bR0
  have vQ2 := VIn.mul vR0 vR0
  have bDWabWab := NW.dot bWab bWab
  have vDWabWab := VW.dot vWab vWab
  have bM := NF.mul bQ2 bDWabWab
  have vM := VIn.mul vQ2 vDWabWab
  have bS := NF.sub bQ bM
  have vS := VIn.sub vQ vM
  exact ⟨_, iOf16 cs n (by omega) c3 s a b (show a < 2 ^ 40 by omega) (show b < 2 ^ 40 by omega) u0 x0 (by omega) hl0 hx0 (show x0 < 2 ^ 40 by omega), one_tr (TrP.of bS vS (by decide) (fun c d s => by simp only [dotM,crossM,ev_sub,ev_mulM,ev_norM,ev_append,ev_sg,mulV,s.way1 ha hb,s.way2 ha hb,s.way1 ha hxl0,s.way2 ha hxl0,s.var u0])), show 1 < 2 ^ 30 by decide⟩
theorem tr17p (cs : List Int) (n : Nat) (hn : n ≤ 12) (hcs : cs.length ≤ 4) (c3 : C) (u0 x0 : Nat) (hl0 : u0 < cs.length) (hx0 : cs.getD u0 0 = (x0 : Int)) (hxl0 : x0 < n) (u1 x1 : Nat) (hl1 : u1 < cs.length) (hx1 : cs.getD u1 0 = (x1 : Int)) (hxl1 : x1 < n) : TrOk 17 [] [(u0 : Int), (u1 : Int)] c3 1 [] cs n := by
  have bR0 := NF.var (v := 2 * (n : Int) + u0) (by omega) (by omega)
  have vR0 : VIn (2 * n + cs.length) (varM (2 * (n : Int) + u0)) := VIn.var ⟨by omega, by omega⟩
  have bR1 := NF.var (v := 2 * (n : Int) + u1) (by omega) (by omega)
  have vR1 : VIn (2 * n + cs.length) (varM (2 * (n : Int) + u1)) := VIn.var ⟨by omega, by omega⟩
  have bWxx := NW.way x0 x1 (by omega) (by omega)
  have vWxx : VW (2 * n + cs.length) _ := VW.way x0 x1 (by omega) (by omega)
  have bA := NF.add bR0 bR1
  have vA := VIn.add vR0 vR1
  have bDWxxWxx := NW.dot bWxx bWxx
  have vDWxxWxx := VW.dot vWxx vWxx
  have bQ := NF.mul bA bA
  have vQ := VIn.mul vA vA
  have bS := NF.sub bDWxxWxx bQ
  have vS := VIn.sub vDWxxWxx vQ
  exact ⟨_, iOf17p cs n (by omega) c3 u0 x0 (by omega) hl0 hx0 (show x0 < 2 ^ 40 by omega) u1 x1 (by omega) hl1 hx1 (show x1 < 2 ^ 40 by omega), one_tr (TrP.of bS vS (by decide) (fun c d s => by simp only [dotM,crossM,ev_sub,ev_mulM,ev_norM,ev_append,ev_sg,mulV,s.way1 hxl0 hxl1,s.way2 hxl0 hxl1,s.var u0,s.var u1])), show 1 < 2 ^ 30 by decide⟩
theorem tr17m (cs : List Int) (n : Nat) (hn : n ≤ 12) (hcs : cs.length ≤ 4) (c3 : C) (u0 x0 : Nat) (hl0 : u0 < cs.length) (hx0 : cs.getD u0 0 = (x0 : Int)) (hxl0 : x0 < n) (u1 x1 : Nat) (hl1 : u1 < cs.length) (hx1 : cs.getD u1 0 = (x1 : Int)) (hxl1 : x1 < n) : TrOk 17 [] [(u0 : Int), (u1 : Int)] c3 (-1) [] cs n := by
  have bR0 := NF.var (v := 2 * (n : Int) + u0) (by omega) (by omega)
  have vR0 : VIn (2 * n + cs.length) (varM (2 * (n : Int) + u0)) := VIn.var ⟨by omega, by omega⟩
  have bR1 := NF.var (v := 2 * (n : Int) + u1) (by omega) (by omega)
  have vR1 : VIn (2 * n + cs.length) (varM (2 * (n : Int) + u1)) := VIn.var ⟨by omega, by omega⟩
  have bWxx := NW.way x0 x1 (by omega) (by omega)
  have vWxx : VW (2 * n + cs.length) _ := VW.way x0 x1 (by omega) (by omega)
  have bA := NF.add bR0 bR1
  have vA := VIn.add vR0 vR1
  have bZ := NF.sub bR0 bR1
  have vZ := VIn.sub vR0 vR1
  have bDWxxWxx := NW.dot bWxx bWxx
  have vDWxxWxx := VW.dot vWxx vWxx
  have bQ := NF.mul bZ bZ
  have vQ := VIn.mul vZ vZ
  have bS := NF.sub bDWxxWxx bQ
  have vS := VIn.sub vDWxxWxx vQ
  exact ⟨_, iOf17m cs n (by omega) c3 u0 x0 (by omega) hl0 hx0 (show x0 < 2 ^ 40 by omega) u1 x1 (by omega) hl1 hx1 (show x1 < 2 ^ 40 by omega), one_tr (TrP.of bS vS (by decide) (fun c d s => by simp only [dotM,crossM,ev_sub,ev_mulM,ev_norM,ev_append,ev_sg,mulV,s.way1 hxl0 hxl1,s.way2 hxl0 hxl1,s.var u0,s.var u1])), show 1 < 2 ^ 30 by decide⟩
theorem trOk (k : Nat) (h1 : 1 ≤ k) (h2 : k ≤ 17) (hne : k ≠ 1) {pts cir : List Int} {m : Nat} {er : Nat → Int} {side : Int} {n : Nat} {cs : List Int} (hcv : cvB k (kP k) (kC k) (kN k) (kB k) pts cir m n cs.length er side = true) (hn : n ≤ 12) (hcs : cs.length ≤ 4) (hc : wiB cs n = true)
    {qs : List Rat} (hq : ∀ q ∈ qs, qm q ≤ 4) (hqm : qs.length = m) (c3 : C) : TrOk k pts cir c3 side qs cs n := by
  obtain ⟨f1, f2, f3, f4, f5, f6⟩ := cvB_facts hcv
  clear hcv
  rcases k17 h1 h2 with rfl | rfl | rfl | rfl | rfl | rfl | rfl | rfl | rfl | rfl | rfl | rfl | rfl | rfl | rfl | rfl | rfl
  · exact absurd rfl hne
  · have f1 : (pts.length : Int) = 2 := f1
    have f2 : (cir.length : Int) = 0 := f2
    have f3 : (m : Int) = 1 := f3
    obtain ⟨a, b, rfl, ha, hb⟩ := wi2 f4 (by omega)
    obtain rfl : cir = [] := List.eq_nil_of_length_eq_zero (by omega)
    obtain ⟨q0, rfl⟩ := ql1 (qs := qs) (by omega)
    exact tr2 cs n hn hcs c3 side a b (by omega) (by omega) q0 (hq q0 (by simp))
  · have f1 : (pts.length : Int) = 3 := f1
    have f2 : (cir.length : Int) = 0 := f2
    have f3 : (m : Int) = 0 := f3
    obtain ⟨a, b, c, rfl, ha, hb, hc⟩ := wi3 f4 (by omega)
    obtain rfl : cir = [] := List.eq_nil_of_length_eq_zero (by omega)
    obtain rfl : qs = [] := List.eq_nil_of_length_eq_zero (by omega)
    exact tr3 cs n hn hcs c3 side a b c (by omega) (by omega) (by omega)
  · have f1 : (pts.length : Int) = 3 := f1
    have f2 : (cir.length : Int) = 0 := f2
    have f3 : (m : Int) = 1 := f3
    obtain ⟨a, b, c, rfl, ha, hb, hc⟩ := wi3 f4 (by omega)
    obtain rfl : cir = [] := List.eq_nil_of_length_eq_zero (by omega)
    obtain ⟨q0, rfl⟩ := ql1 (qs := qs) (by omega)
    exact tr4 cs n hn hcs c3 side a b c (by omega) (by omega) (by omega) q0 (hq q0 (by simp))
  · have f1 : (pts.length : Int) = 4 := f1
    have f2 : (cir.length : Int) = 0 := f2
    have f3 : (m : Int) = 1 := f3
    obtain ⟨a, b, c, d, rfl, ha, hb, hc, hd⟩ := wi4 f4 (by omega)
    obtain rfl : cir = [] := List.eq_nil_of_length_eq_zero (by omega)
    obtain ⟨q0, rfl⟩ := ql1 (qs := qs) (by omega)
    exact tr5 cs n hn hcs c3 side a b c d (by omega) (by omega) (by omega) (by omega) q0 (hq q0 (by simp))
  · have f1 : (pts.length : Int) = 4 := f1
    have f2 : (cir.length : Int) = 0 := f2
    have f3 : (m : Int) = 0 := f3
    obtain ⟨a, b, c, d, rfl, ha, hb, hc, hd⟩ := wi4 f4 (by omega)
    obtain rfl : cir = [] := List.eq_nil_of_length_eq_zero (by omega)
    obtain rfl : qs = [] := List.eq_nil_of_length_eq_zero (by omega)
    exact tr6 cs n hn hcs c3 side a b c d (by omega) (by omega) (by omega) (by omega)
  · have f1 : (pts.length : Int) = 4 := f1
    have f2 : (cir.length : Int) = 0 := f2
    have f3 : (m : Int) = 0 := f3
    obtain ⟨a, b, c, d, rfl, ha, hb, hc, hd⟩ := wi4 f4 (by omega)
    obtain rfl : cir = [] := List.eq_nil_of_length_eq_zero (by omega)
    obtain rfl : qs = [] := List.eq_nil_of_length_eq_zero (by omega)
    exact tr7 cs n hn hcs c3 side a b c d (by omega) (by omega) (by omega) (by omega)
  · have f1 : (pts.length : Int) = 4 := f1
    have f2 : (cir.length : Int) = 0 := f2
    have f3 : (m : Int) = 0 := f3
    obtain ⟨a, b, c, d, rfl, ha, hb, hc, hd⟩ := wi4 f4 (by omega)
    obtain rfl : cir = [] := List.eq_nil_of_length_eq_zero (by omega)
    obtain rfl : qs = [] := List.eq_nil_of_length_eq_zero (by omega)
    exact tr8 cs n hn hcs c3 side a b c d (by omega) (by omega) (by omega) (by omega)
  · have f1 : (pts.length : Int) = 3 := f1
    have f2 : (cir.length : Int) = 0 := f2
    have f3 : (m : Int) = 0 := f3
    obtain ⟨a, b, c, rfl, ha, hb, hc⟩ := wi3 f4 (by omega)
    obtain rfl : cir = [] := List.eq_nil_of_length_eq_zero (by omega)
    obtain rfl : qs = [] := List.eq_nil_of_length_eq_zero (by omega)
    exact tr9 cs n hn hcs c3 side a b c (by omega) (by omega) (by omega)
  · have f1 : (pts.length : Int) = 4 := f1
    have f2 : (cir.length : Int) = 0 := f2
    have f3 : (m : Int) = 0 := f3
    obtain ⟨a, b, c, d, rfl, ha, hb, hc, hd⟩ := wi4 f4 (by omega)
    obtain rfl : cir = [] := List.eq_nil_of_length_eq_zero (by omega)
    obtain rfl : qs = [] := List.eq_nil_of_length_eq_zero (by omega)
    exact tr10 cs n hn hcs c3 side a b c d (by omega) (by omega) (by omega) (by omega)
  · have f1 : (pts.length : Int) = 2 := f1
    have f2 : (cir.length : Int) = 0 := f2
    have f3 : (m : Int) = 0 := f3
    obtain ⟨a, b, rfl, ha, hb⟩ := wi2 f4 (by omega)
    obtain rfl : cir = [] := List.eq_nil_of_length_eq_zero (by omega)
    obtain rfl : qs = [] := List.eq_nil_of_length_eq_zero (by omega)
    exact tr11 cs n hn hcs c3 side a b (by omega) (by omega)
  · have f1 : (pts.length : Int) = 2 := f1
    have f2 : (cir.length : Int) = 0 := f2
    have f3 : (m : Int) = 0 := f3
    obtain ⟨a, b, rfl, ha, hb⟩ := wi2 f4 (by omega)
    obtain rfl : cir = [] := List.eq_nil_of_length_eq_zero (by omega)
    obtain rfl : qs = [] := List.eq_nil_of_length_eq_zero (by omega)
    exact tr12 cs n hn hcs c3 side a b (by omega) (by omega)
  · have f1 : (pts.length : Int) = 1 := f1
    have f2 : (cir.length : Int) = 1 := f2
    have f3 : (m : Int) = 0 := f3
    obtain ⟨a, rfl, ha⟩ := wi1 f4 (by omega)
    obtain ⟨u0, rfl, hu0⟩ := wi1 f5 (by omega)
    obtain ⟨x0, hx0, hxl0⟩ := cen hc (i := u0) (by omega)
    obtain rfl : qs = [] := List.eq_nil_of_length_eq_zero (by omega)
    exact tr13 cs n hn hcs c3 side a (by omega) u0 x0 (by omega) hx0 (by omega)
  · have f1 : (pts.length : Int) = 0 := f1
    have f2 : (cir.length : Int) = 1 := f2
    have f3 : (m : Int) = 1 := f3
    obtain rfl : pts = [] := List.eq_nil_of_length_eq_zero (by omega)
    obtain ⟨u0, rfl, hu0⟩ := wi1 f5 (by omega)
    obtain ⟨x0, hx0, hxl0⟩ := cen hc (i := u0) (by omega)
    obtain ⟨q0, rfl⟩ := ql1 (qs := qs) (by omega)
    exact tr14 cs n hn hcs c3 side q0 (hq q0 (by simp)) u0 x0 (by omega) hx0 (by omega)
  · have f1 : (pts.length : Int) = 0 := f1
    have f2 : (cir.length : Int) = 2 := f2
    have f3 : (m : Int) = 0 := f3
    obtain rfl : pts = [] := List.eq_nil_of_length_eq_zero (by omega)
    obtain ⟨u0, u1, rfl, hu0, hu1⟩ := wi2 f5 (by omega)
    obtain ⟨x0, hx0, hxl0⟩ := cen hc (i := u0) (by omega)
    obtain ⟨x1, hx1, hxl1⟩ := cen hc (i := u1) (by omega)
    obtain rfl : qs = [] := List.eq_nil_of_length_eq_zero (by omega)
    exact tr15 cs n hn hcs c3 side u0 x0 (by omega) hx0 (by omega) u1 x1 (by omega) hx1 (by omega)
  · have f1 : (pts.length : Int) = 2 := f1
    have f2 : (cir.length : Int) = 1 := f2
    have f3 : (m : Int) = 0 := f3
    obtain ⟨a, b, rfl, ha, hb⟩ := wi2 f4 (by omega)
    obtain ⟨u0, rfl, hu0⟩ := wi1 f5 (by omega)
    obtain ⟨x0, hx0, hxl0⟩ := cen hc (i := u0) (by omega)
    obtain rfl : qs = [] := List.eq_nil_of_length_eq_zero (by omega)
    exact tr16 cs n hn hcs c3 side a b (by omega) (by omega) u0 x0 (by omega) hx0 (by omega)
  have f1 : (pts.length : Int) = 0 := f1
  have f2 : (cir.length : Int) = 2 := f2
  have f3 : (m : Int) = 0 := f3
  obtain rfl : pts = [] := List.eq_nil_of_length_eq_zero (by omega)
  obtain ⟨u0, u1, rfl, hu0, hu1⟩ := wi2 f5 (by omega)
  obtain ⟨x0, hx0, hxl0⟩ := cen hc (i := u0) (by omega)
  obtain ⟨x1, hx1, hxl1⟩ := cen hc (i := u1) (by omega)
  obtain rfl : qs = [] := List.eq_nil_of_length_eq_zero (by omega)
  have f6 : side = 1 ∨ side = -1 := by have : sideB true side = true := f6; unfold sideB at this; rw [if_pos rfl] at this; simpa using this
  rcases f6 with rfl | rfl
  · exact tr17p cs n hn hcs c3 u0 x0 (by omega) hx0 (by omega) u1 x1 (by omega) hx1 (by omega)
  exact tr17m cs n hn hcs c3 u0 x0 (by omega) hx0 (by omega) u1 x1 (by omega) hx1 (by omega)
end Go.Proofs.YtpogdlmhmafjlaaGreat
/-
  THE REAL NUMBERS: Cauchy sequences of rational numbers; a ring with an order, inverses and square roots.
-/
namespace Go.Re
def Nr (x e : Rat) : Prop := -e < x ∧ x < e
theorem Nr.mono {x e f : Rat} (h : Nr x e) (hf : e ≤ f) : Nr x f := by unfold Nr at *; grind
theorem Nr.add {x y e f : Rat} (h : Nr x e) (k : Nr y f) : Nr (x + y) (e + f) := by unfold Nr at *; grind
theorem Nr.neg {x e : Rat} (h : Nr x e) : Nr (-x) e := by unfold Nr at *; grind
theorem Nr.symm {x y e : Rat} (h : Nr (x - y) e) : Nr (y - x) e := by unfold Nr at *; grind
theorem Nr.mul {x y e f : Rat} (h : Nr x e) (k : Nr y f) : Nr (x * y) (e * f) := by
  unfold Nr at *
  have a := Rat.mul_pos (a := e - x) (b := f - y) (by grind) (by grind)
  have b := Rat.mul_pos (a := e + x) (b := f + y) (by grind) (by grind)
  have c := Rat.mul_pos (a := e - x) (b := f + y) (by grind) (by grind)
  have d := Rat.mul_pos (a := e + x) (b := f - y) (by grind) (by grind)
  constructor <;> grind
theorem half_pos {e : Rat} (h : 0 < e) : 0 < e / 2 := by grind
theorem div_pos {a b : Rat} (h : 0 < a) (k : 0 < b) : 0 < a / b := by
  rw [Rat.div_def]; exact Rat.mul_pos h (Rat.inv_pos.2 k)
theorem div_mul {a b : Rat} (k : 0 < b) : a / b * b = a := by
  have : b ≠ 0 := by grind
  grind
structure Sq where
  s : Nat → Rat
  h : ∀ e, 0 < e → ∃ N, ∀ m n, N ≤ m → N ≤ n → Nr (s m - s n) e
def eqv (a b : Sq) : Prop := ∀ e, 0 < e → ∃ N, ∀ n, N ≤ n → Nr (a.s n - b.s n) e
theorem eqv.refl (a : Sq) : eqv a a := fun e he => ⟨0, fun n _ => by unfold Nr; grind⟩
theorem eqv.symm {a b : Sq} (h : eqv a b) : eqv b a := fun e he => by
  obtain ⟨N, hN⟩ := h e he
  exact ⟨N, fun n hn => (hN n hn).symm⟩
theorem eqv.trans {a b c : Sq} (h : eqv a b) (k : eqv b c) : eqv a c := fun e he => by
  obtain ⟨N, hN⟩ := h (e / 2) (half_pos he)
  obtain ⟨M, hM⟩ := k (e / 2) (half_pos he)
  refine ⟨max N M, fun n hn => ?_⟩
  have h1 := hN n (by omega)
  have h2 := hM n (by omega)
  unfold Nr at *; grind
instance st : Setoid Sq := ⟨eqv, eqv.refl, eqv.symm, eqv.trans⟩
theorem Sq.bnd (a : Sq) : ∃ B, 0 < B ∧ ∀ n, Nr (a.s n) B := by
  obtain ⟨N, hN⟩ := a.h 1 (by decide)
  have key : ∀ k, ∃ B, 0 < B ∧ ∀ n, n < k → Nr (a.s n) B := by
    intro k
    induction k with
    | zero => exact ⟨1, by decide, fun n h => absurd h (Nat.not_lt_zero _)⟩
    | succ k ih =>
      obtain ⟨B, h0, hB⟩ := ih
      by_cases hp : 0 ≤ a.s k
      · refine ⟨B + a.s k + 1, by grind, fun n hn => ?_⟩
        by_cases hk : n = k
        · subst hk; unfold Nr; grind
        exact (hB n (by omega)).mono (by grind)
      refine ⟨B - a.s k + 1, by grind, fun n hn => ?_⟩
      by_cases hk : n = k
      · subst hk; unfold Nr; grind
      exact (hB n (by omega)).mono (by grind)
  obtain ⟨B, h0, hB⟩ := key (N + 1)
  refine ⟨B + 1, by grind, fun n => ?_⟩
  by_cases hn : n < N + 1
  · exact (hB n hn).mono (by grind)
  have h1 := hN n N (by omega) (Nat.le_refl _)
  have h2 := hB N (by omega)
  unfold Nr at *; grind
def Sq.const (q : Rat) : Sq := ⟨fun _ => q, fun e he => ⟨0, fun m n _ _ => by unfold Nr; grind⟩⟩
def Sq.add (a b : Sq) : Sq := ⟨fun n => a.s n + b.s n, fun e he => by
  obtain ⟨N, hN⟩ := a.h (e / 2) (half_pos he)
  obtain ⟨M, hM⟩ := b.h (e / 2) (half_pos he)
  refine ⟨max N M, fun m n hm hn => ?_⟩
  have h1 := hN m n (by omega) (by omega)
  have h2 := hM m n (by omega) (by omega)
  unfold Nr at *; grind⟩
def Sq.neg (a : Sq) : Sq := ⟨fun n => -a.s n, fun e he => by
  obtain ⟨N, hN⟩ := a.h e he
  refine ⟨N, fun m n hm hn => ?_⟩
  have h1 := hN m n hm hn
  unfold Nr at *; grind⟩
theorem mulNr {a b a' b' A B e : Rat} (hA : 0 < A) (hB : 0 < B) (he : 0 < e) (h1 : Nr a A) (h2 : Nr b' B) (h3 : Nr (a - a') (e / 2 / B)) (h4 : Nr (b - b') (e / 2 / A)) : Nr (a * b - a' * b') e := by
  have k1 := h1.mul h4
  have k2 := h3.mul h2
  rw [div_mul hB] at k2
  rw [Rat.mul_comm A, div_mul hA] at k1
  have := k1.add k2
  unfold Nr at *; grind
def Sq.mul (a b : Sq) : Sq := ⟨fun n => a.s n * b.s n, fun e he => by
  obtain ⟨A, hA, ha⟩ := a.bnd
  obtain ⟨B, hB, hb⟩ := b.bnd
  obtain ⟨N, hN⟩ := a.h (e / 2 / B) (div_pos (half_pos he) hB)
  obtain ⟨M, hM⟩ := b.h (e / 2 / A) (div_pos (half_pos he) hA)
  exact ⟨max N M, fun m n hm hn => mulNr hA hB he (ha m) (hb n) (hN m n (by omega) (by omega)) (hM m n (by omega) (by omega))⟩⟩
theorem eqv_add {a b c d : Sq} (h : eqv a c) (k : eqv b d) : eqv (a.add b) (c.add d) := fun e he => by
  obtain ⟨N, hN⟩ := h (e / 2) (half_pos he)
  obtain ⟨M, hM⟩ := k (e / 2) (half_pos he)
  refine ⟨max N M, fun n hn => ?_⟩
  have h1 := hN n (by omega)
  have h2 := hM n (by omega)
  show Nr (a.s n + b.s n - (c.s n + d.s n)) e
  unfold Nr at *; grind
theorem eqv_neg {a c : Sq} (h : eqv a c) : eqv a.neg c.neg := fun e he => by
  obtain ⟨N, hN⟩ := h e he
  refine ⟨N, fun n hn => ?_⟩
  have h1 := hN n (by omega)
  show Nr (-a.s n - -c.s n) e
  unfold Nr at *; grind
theorem eqv_mul {a b c d : Sq} (h : eqv a c) (k : eqv b d) : eqv (a.mul b) (c.mul d) := fun e he => by
  obtain ⟨A, hA, ha⟩ := a.bnd
  obtain ⟨B, hB, hb⟩ := d.bnd
  obtain ⟨N, hN⟩ := h (e / 2 / B) (div_pos (half_pos he) hB)
  obtain ⟨M, hM⟩ := k (e / 2 / A) (div_pos (half_pos he) hA)
  exact ⟨max N M, fun n hn => mulNr hA hB he (ha n) (hb n) (hN n (by omega)) (hM n (by omega))⟩
end Go.Re
def Go.R : Type := Quotient Go.Re.st
namespace Go.R
open Go.Re
def mk (a : Sq) : R := Quotient.mk st a
theorem sound {a b : Sq} (h : eqv a b) : mk a = mk b := Quotient.sound (s := st) h
theorem exact {a b : Sq} (h : mk a = mk b) : eqv a b := Quotient.exact (s := st) h
def q (x : Rat) : R := mk (Sq.const x)
instance : Add R := ⟨Quotient.lift₂ (s₁ := st) (s₂ := st) (fun a b => mk (a.add b)) fun _ _ _ _ h k => sound (eqv_add h k)⟩
instance : Mul R := ⟨Quotient.lift₂ (s₁ := st) (s₂ := st) (fun a b => mk (a.mul b)) fun _ _ _ _ h k => sound (eqv_mul h k)⟩
instance : Neg R := ⟨Quotient.lift (s := st) (fun a => mk a.neg) fun _ _ h => sound (eqv_neg h)⟩
instance : Sub R := ⟨fun a b => a + -b⟩
end Go.R
namespace Go.R
open Go.Re
end Go.R
namespace Go.R
open Go.Re
end Go.R
/-
  TOWERS OF SQUARE ROOTS: elements as lists of coefficients, their values, products and signs.
-/
namespace Go.R
open Go.Re
end Go.R
namespace Go.Tw
open Go Go.R
abbrev El := List Rat
def addE (a b : El) : El := List.zipWith (· + ·) a b
def negE (a : El) : El := a.map (- ·)
def zE (n : Nat) : El := List.replicate n 0
def mulE : Nat → List El → El → El → El
  | 0, _, a, b => [a.getD 0 0 * b.getD 0 0]
  | h + 1, t, a, b => addE (mulE h t (a.take (2 ^ h)) (b.take (2 ^ h))) (mulE h t (mulE h t (a.drop (2 ^ h)) (b.drop (2 ^ h))) (t.getD h [])) ++
      addE (mulE h t (a.take (2 ^ h)) (b.drop (2 ^ h))) (mulE h t (a.drop (2 ^ h)) (b.take (2 ^ h)))
theorem len_take {a : El} {h : Nat} (ha : a.length = 2 ^ (h + 1)) : (a.take (2 ^ h)).length = 2 ^ h := by
  rw [X5, ha, Nat.pow_succ]; omega
theorem len_drop {a : El} {h : Nat} (ha : a.length = 2 ^ (h + 1)) : (a.drop (2 ^ h)).length = 2 ^ h := by
  rw [List.length_drop, ha, Nat.pow_succ]; omega
theorem addE_len {a b : El} {n : Nat} (ha : a.length = n) (hb : b.length = n) : (addE a b).length = n := by
  unfold addE; rw [List.length_zipWith, ha, hb, Nat.min_self]
theorem negE_len {a : El} : (negE a).length = a.length := List.length_map _
theorem zE_len {n : Nat} : (zE n).length = n := List.length_replicate
theorem mulE_len {h : Nat} {t : List El} : ∀ {a b : El}, (mulE h t a b).length = 2 ^ h := by
  induction h with
  | zero => intro a b; rfl
  | succ h ih =>
    intro a b
    rw [mulE, X6, addE_len ih ih, addE_len ih ih, Nat.pow_succ]; omega
theorem zE_take {h : Nat} : (zE (2 ^ (h + 1))).take (2 ^ h) = zE (2 ^ h) := by
  unfold zE; rw [List.take_replicate, Nat.pow_succ, Nat.min_eq_left (by omega)]
theorem zE_drop {h : Nat} : (zE (2 ^ (h + 1))).drop (2 ^ h) = zE (2 ^ h) := by
  unfold zE; rw [List.drop_replicate, Nat.pow_succ]; congr 1; omega
theorem zE_app {h : Nat} : zE (2 ^ h) ++ zE (2 ^ h) = zE (2 ^ (h + 1)) := by
  unfold zE; rw [List.replicate_append_replicate, Nat.pow_succ]; congr 1; omega
end Go.Tw
/-
  TOWERS OF SQUARE ROOTS: reduced towers: an element is known by its value; inverses; square roots.
-/
namespace Go.R
open Go.Re
end Go.R
namespace Go.Tw
open Go Go.R
end Go.Tw
/-
  HEIGHTS: how long the coefficients of a number can be.
-/
namespace Go.R
open Go.Re
end Go.R
namespace Go.Tw
open Go Go.R
def p2 (H : Nat) : Rat := ((2 ^ H : Nat) : Rat)
section
variable {h : Nat} {z : List El} {w : Nat → Nat}
end
end Go.Tw
namespace Go.Tw
open Go Go.R
section
variable {h : Nat} {z : List El} {w : Nat → Nat}
end
end Go.Tw
/-
  HEIGHTS: further floors, square roots, and heights without a tower.
-/
namespace Go.Tw
open Go Go.R
section
variable {h : Nat} {z : List El} {w : Nat → Nat}
def rS (W : Nat) : Nat → Nat → Nat
  | 0, H => (H + 1) / 2
  | h + 1, H => 2 * rS W h (2 * H + rS W h (2 * H) + 2 + 2 * W) + 2 * H + W + 2
end
end Go.Tw
/-
  HEIGHTS: towers of at most three short radicands.
-/
namespace Go.Tw
open Go Go.R
def fE (B c : Nat) : Nat → Nat
  | 0 => B
  | k + 1 => 2 * fE B c k + c + 1
def lkW : List (Nat × Nat) → Nat → Option Nat
  | [], _ => none
  | p :: s, k => if p.1 = k then some p.2 else lkW s k
def mxW : List (Nat × Nat) → Nat
  | [] => 0
  | p :: s => max p.2 (mxW s)
def go (B k : Nat) : Nat → List (Nat × Nat) → Nat → Nat → Nat
  | 0, _, _, c => fE B c k
  | n + 1, s, kk, c => match lkW s kk with
    | some W => go B k n s (kk + 1) (max c (2 * W))
    | none => max (go B k n s (kk + 1) (max c (rS (mxW s) s.length (fE B c kk)))) (2 * go B k n (s ++ [(kk, 2 ^ s.length * fE B c kk)]) (kk + 1) (max c (2 * (2 ^ s.length * fE B c kk))))
end Go.Tw
namespace Go.Tw
open Go Go.R
end Go.Tw
/-
  NUMBERS: a tower, an element, its value, and how long its coefficients are.
-/
namespace Go.Tw
open Go Go.R Go.Eng
def QB (B : Nat) (a : El) : Prop := ∀ c ∈ a, qm c ≤ B
theorem QB.mono {B C : Nat} {a : El} (h : QB B a) (k : B ≤ C) : QB C a := fun c hc => Nat.le_trans (h c hc) k
theorem QB.take {B : Nat} {a : El} (h : QB B a) (n : Nat) : QB B (a.take n) := fun c hc => h c (List.mem_of_mem_take hc)
theorem QB.drop {B : Nat} {a : El} (h : QB B a) (n : Nat) : QB B (a.drop n) := fun c hc => h c (List.mem_of_mem_drop hc)
theorem QB.app {B : Nat} {a b : El} (h : QB B a) (k : QB B b) : QB B (a ++ b) := fun c hc => by
  rcases List.mem_append.1 hc with hc | hc
  · exact h c hc
  exact k c hc
theorem qm_zero : qm 0 ≤ 1 := by decide +kernel
theorem QB.add : ∀ {a b : El} {B C : Nat}, QB B a → QB C b → QB (B + C + 1) (addE a b)
  | [], b, _, _, _, _ => by intro x hx; cases b <;> cases hx
  | x :: a, [], _, _, _, _ => by intro y hy; cases hy
  | x :: a, y :: b, B, C, h, k => by
    intro u hu
    have hu : u = x + y ∨ u ∈ addE a b := List.mem_cons.1 hu
    rcases hu with rfl | hu
    · have := qm_add x y
      have := h x (by simp)
      have := k y (by simp)
      omega
    exact QB.add (fun v hv => h v (by simp [hv])) (fun v hv => k v (by simp [hv])) u hu
theorem QB.getD {B : Nat} {a : El} (h : QB B a) (h1 : 1 ≤ B) (i : Nat) : qm (a.getD i 0) ≤ B := by
  rw [X7]
  cases e : a[i]? with
  | none => exact Nat.le_trans qm_zero h1
  | some x => exact h x (List.mem_of_getElem? e)
def mS : Nat → Nat → Nat → Nat
  | 0, S, _ => S
  | h + 1, S, C => mS h S C + mS h (mS h S C + C) C + 1
theorem mS_ge {h S C : Nat} : S ≤ mS h S C := by
  induction h generalizing S with
  | zero => exact Nat.le_refl _
  | succ h ih => have := ih (S := S); rw [mS]; omega
theorem QB.mul {h : Nat} {t : List El} {C : Nat} (hC : 1 ≤ C) : ∀ {a b : El} {A B : Nat} (_ : ∀ i, i < h → QB C (t.getD i [])), 1 ≤ A → 1 ≤ B → QB A a → QB B b → QB (mS h (A + B) C) (mulE h t a b) := by
  induction h with
  | zero =>
    intro a b A B _ h1 h2 ha hb c hc
    rw [mulE, List.mem_singleton] at hc
    subst hc
    have := qm_mul (a.getD 0 0) (b.getD 0 0)
    have := ha.getD h1 0
    have := hb.getD h2 0
    show _ ≤ A + B
    omega
  | succ h ih =>
    intro a b A B ht h1 h2 ha hb
    have ih' := fun {a b : El} {A B : Nat} => ih (a := a) (b := b) (A := A) (B := B) (fun i hi => ht i (by omega))
    have g1 := ih' h1 h2 (ha.take (2 ^ h)) (hb.take (2 ^ h))
    have g2 := ih' h1 h2 (ha.drop (2 ^ h)) (hb.drop (2 ^ h))
    have g3 := ih' h1 h2 (ha.take (2 ^ h)) (hb.drop (2 ^ h))
    have g4 := ih' h1 h2 (ha.drop (2 ^ h)) (hb.take (2 ^ h))
    have hge := mS_ge (h := h) (S := A + B) (C := C)
    have g5 := ih' (by omega) hC g2 (ht h (by omega))
    have k5 := mS_ge (h := h) (S := mS h (A + B) C + C) (C := C)
    rw [mulE, mS]
    refine QB.app (g1.add g5) ((g3.add g4).mono ?_)
    omega
theorem mul_zero_left {h : Nat} {t : List El} {b : El} : mulE h t (zE (2 ^ h)) b = zE (2 ^ h) := by
  have zz : ∀ n, addE (zE n) (zE n) = zE n := by
    intro n
    unfold addE zE
    rw [List.zipWith_replicate, Nat.min_self, Rat.add_zero]
  induction h generalizing b with
  | zero => rw [mulE]; show [(0 : Rat) * _] = _; rw [Rat.zero_mul]; rfl
  | succ h ih => rw [mulE, zE_take, zE_drop, ih, ih, ih, zz, zE_app]
theorem mul_zero_right {h : Nat} {t : List El} {a : El} : mulE h t a (zE (2 ^ h)) = zE (2 ^ h) := by
  have zz : ∀ n, addE (zE n) (zE n) = zE n := by
    intro n
    unfold addE zE
    rw [List.zipWith_replicate, Nat.min_self, Rat.add_zero]
  induction h generalizing a with
  | zero => rw [mulE]; show [_ * (0 : Rat)] = _; rw [Rat.mul_zero]; rfl
  | succ h ih => rw [mulE, zE_take, zE_drop, ih, ih, mul_zero_left, zz, zE_app]
end Go.Tw
namespace Go.Tw
open Go Go.R Go.Eng
section
variable {A : List R} {t : List El}
end
end Go.Tw
/-
  What signs, inverses and square roots need to be short.
-/
namespace Go.Tw
open Go Go.R Go.Eng
section
variable {t z : List El} {w d : Nat → Nat}
end
end Go.Tw
/-
  What the square roots of radicands and of short numbers need.
-/
namespace Go.Tw
open Go Go.R Go.Eng
section
variable {A : List R}
end
end Go.Tw
namespace Go.Proofs.YtpogdlmhmafjlaaGreat
open Go Go.Eng
open Go.Tw (El)
def fQ (l : List Rat) (i : Nat) : Nat → C := qC (l.getD i default)
def Qk (l : List Rat) : Prop := ∀ x ∈ l, qm x < 2 ^ 34
theorem Qk.of {l : List Rat} {B : Nat} (h : Tw.QB B l) (hB : B < 2 ^ 34) : Qk l := fun x hx => Nat.lt_of_le_of_lt (h x hx) hB
theorem Qk.get {l : List Rat} (h : Qk l) (i : Nat) : qm (l.getD i default) < 2 ^ 34 := by
  rw [X7]
  cases e : l[i]? with
  | none => exact Nat.lt_of_le_of_lt (show qm (default : Rat) ≤ 1 by decide +kernel) (by decide)
  | some x => exact h x (List.mem_of_getElem? e)
theorem iQValid_Q (q : Rat) (hq : qm q < 2 ^ 36) : Pr Tryz.prog 176 [QV q] (.one (.bool true)) := by
  have h := iQValid_spec (zs q.num) (zs (q.den : Int)) (zm q.num) (zm (q.den : Int)) (zm_inr _) (zm_inr _) (by unfold qm at hq; rw [zm_length]; omega) (by unfold qm at hq; rw [zm_length, zn_nat]; omega)
  rw [okQ_Q] at h
  exact h
theorem num1_spec (q : Rat) (hq : qm q < 2 ^ 36) : Pr Tryz.prog 175 [QV q] (.one (.bool false)) := by
  refine pv T_ok mixed Tryz.func175 rfl (by decide) _ (by simp [Tryz.ntmps175]) ⟨[0, 1, 2], []⟩ (by kernel_rfl) _ ?_
  show vc T _ _ (Option.get! Tryz.f175.body) _ _
  simp only [Tryz.f175,Tryz.ntmps175,Option.get!,iS,iM,eO,J1]
  simp only [vx,T,K5,J0,K6,K7,↓reduceIte,J1,J2,J3,J4,J5,J6,J7,J8,J9,reduceCtorEq,K1,K2,K3,K4,QV,QC]
  refine Cg (iQValid_Q q hq) ?_
  simp only [vx,T,K5,J0,K6,K7,↓reduceIte,J1,J2,J3,J4,J5,J6,J7,J8,J9,reduceCtorEq,K1,K2,K3,K4]
  exact Ve rfl
theorem sgn_zero' {z : Int} : sgn z = 0 ↔ z = 0 := by unfold sgn; (repeat' split) <;> omega
theorem zero1_spec (q : Rat) (hq : qm q < 2 ^ 36) : Pr Tryz.prog 177 [QV q] (.one (.bool (decide (q ≠ 0)))) := by
  refine pv T_ok mixed Tryz.func177 rfl (by decide) _ (by simp [Tryz.ntmps177]) ⟨[0, 1, 2], []⟩ (by kernel_rfl) _ ?_
  show vc T _ _ (Option.get! Tryz.f177.body) _ _
  simp only [Tryz.f177,Tryz.ntmps177,Option.get!,iS,iM,eO,J1]
  simp only [vx,T,K5,J0,K6,K7,↓reduceIte,J1,J2,J3,J4,J5,J6,J7,J8,J9,reduceCtorEq,K1,K2,K3,K4,QV,QC]
  refine Cg (iQSign_spec q hq) ?_
  simp only [vx,T,K5,J0,K6,K7,↓reduceIte,J1,J2,J3,J4,J5,J6,J7,J8,J9,reduceCtorEq,K1,K2,K3,K4]
  refine vb ?_
  have : sgn q.num ≠ 0 ↔ q ≠ 0 := by rw [Ne, sgn_zero', Rat.num_eq_zero]
  exact decide_eq_decide.2 this
def ixQ (p : Rat → Bool) (xs : List Rat) : Int := if xs.findIdx p < xs.length then (xs.findIdx p : Int) else -1
theorem ixQ_any (p : Rat → Bool) (xs : List Rat) : decide (0 ≤ ixQ p xs) = xs.any p := by
  unfold ixQ
  rw [Bool.eq_iff_iff, decide_eq_true_eq, List.any_eq_true, ← List.findIdx_lt_length]
  split <;> rename_i h
  · exact ⟨fun _ => h, fun _ => by omega⟩
  exact ⟨fun k => by omega, fun k => absurd k h⟩
theorem getD_eqQ {xs : List Rat} {i : Nat} (h : i < xs.length) : xs.getD i default = xs[i] := by
  rw [X7, X8 h]; rfl
theorem ixQ_spec (f : FuncId) (p : Rat → Bool) (xs : List Rat) (hl : xs.length < 2 ^ 38) (hf : ∀ i, i < xs.length → Pr Tryz.prog f [QV (xs.getD i default)] (.one (.bool (p (xs.getD i default))))) :
    Pr Tryz.prog 204 [eV xs, .one (.fn f 0 (fun _ => .any))] (.one (.int .i64 (ixQ p xs))) := by
  refine pv T_ok mixed Tryz.func204 rfl (by decide) _ (by simp [Tryz.ntmps204]) ⟨[0, 1, 4, 5, 7, 8, 9, 16], []⟩ (by kernel_rfl) _ ?_
  show vc T _ _ (Option.get! Tryz.f204.body) _ _
  simp only [Tryz.f204,Tryz.ntmps204,Option.get!,iS,iM,eO,J1]
  simp only [vx,T,K5,J0,K6,K7,↓reduceIte,J1,J2,J3,J4,J5,J6,J7,J8,J9,reduceCtorEq,K1,K2,K3,K4,eV,QsC]
  refine Lk (fun y : {i : Nat // i ≤ xs.length ∧ ∀ k, k < i → p (xs.getD k default) = false} => ⟨[(0, eV xs), (1, .one (.fn f 0 (fun _ => .any))), (7, .one (.int .i64 xs.length)), (8, .one (.int .i64 y.1))], [], 1, 19⟩) (fun y => xs.length - y.1) ⟨0, Nat.zero_le _, fun k h => absurd h (Nat.not_lt_zero _)⟩ ?_ (fun ⟨i, hi, hz⟩ => ?_)
  · refine Sa ?_; simp only [rx,Y0,Y1,Y2,Y3,Y4,Y5,Y6,Y7,ren,↓reduceIte,J1,J2,J3,J4,J5,J6,J7,J8,J9,reduceCtorEq,K1,K2,K3,K4,Y8,Y9,X2,X3,X4,eV,QsC]
  have i1 := wI i (by omega)
  simp only [vx,T,K5,J0,K6,K7,↓reduceIte,J1,J2,J3,J4,J5,J6,J7,J8,J9,reduceCtorEq,K1,K2,K3,K4,eV,QsC]
  refine ⟨fun h1 => Lg ?_, fun h1 => Lg ?_⟩
  · have hfi := hf i (by omega)
    obtain ⟨a, ha⟩ : ∃ a, a = xs.getD i default := ⟨_, rfl⟩
    rw [← ha] at hfi
    simp only [vx,T,K5,J0,K6,K7,↓reduceIte,J1,J2,J3,J4,J5,J6,J7,J8,J9,reduceCtorEq,K1,K2,K3,K4,eV,QsC,← ha,qC]
    refine ⟨by omega, Cg hfi ?_⟩
    simp only [vx,T,K5,J0,K6,K7,↓reduceIte,J1,J2,J3,J4,J5,J6,J7,J8,J9,reduceCtorEq,K1,K2,K3,K4]
    refine ⟨fun h2 => Lg ?_, fun h2 => Lg ?_⟩
    · have e1 : xs.findIdx p = i := by
        rw [List.findIdx_eq (by omega)]
        refine ⟨by rw [← getD_eqQ (by omega), ← ha]; simpa using h2, fun j hj => ?_⟩
        rw [← getD_eqQ (by omega)]; exact hz j hj
      have e2 : ixQ p xs = i := by unfold ixQ; rw [e1, if_pos (by omega)]
      simp only [vx,T,K5,J0,K6,K7,↓reduceIte,J1,J2,J3,J4,J5,J6,J7,J8,J9,reduceCtorEq,K1,K2,K3,K4,e2]
      exact Ve rfl
    simp only [vx,T,K5,J0,K6,K7,↓reduceIte,J1,J2,J3,J4,J5,J6,J7,J8,J9,reduceCtorEq,K1,K2,K3,K4]
    simp only [i1]
    refine Lq ⟨i + 1, by omega, fun k hk => ?_⟩ ?_ ?_
    · by_cases h3 : k < i
      · exact hz k h3
      rw [show k = i by omega, ← ha]; simpa using h2
    · refine Sa ?_; simp only [rx,Y0,Y1,Y2,Y3,Y4,Y5,Y6,Y7,ren,↓reduceIte,J1,J2,J3,J4,J5,J6,J7,J8,J9,reduceCtorEq,K1,K2,K3,K4,Y8,Y9,X2,X3,X4,eV,QsC]
    simp only; omega
  have e1 : xs.findIdx p = xs.length := by
    rw [List.findIdx_eq_length]
    intro x hx
    obtain ⟨k, hk, rfl⟩ := List.mem_iff_getElem.1 hx
    rw [← getD_eqQ hk]; exact hz k (by omega)
  have e2 : ixQ p xs = -1 := by unfold ixQ; rw [if_neg (by omega)]
  simp only [vx,T,K5,J0,K6,K7,↓reduceIte,J1,J2,J3,J4,J5,J6,J7,J8,J9,reduceCtorEq,K1,K2,K3,K4,e2]
  exact Ve rfl
theorem conQ_spec (f : FuncId) (p : Rat → Bool) (xs : List Rat) (hl : xs.length < 2 ^ 38) (hf : ∀ i, i < xs.length → Pr Tryz.prog f [QV (xs.getD i default)] (.one (.bool (p (xs.getD i default))))) :
    Pr Tryz.prog 174 [eV xs, .one (.fn f 0 (fun _ => .any))] (.one (.bool (xs.any p))) := by
  refine pv T_ok mixed Tryz.func174 rfl (by decide) _ (by simp [Tryz.ntmps174]) ⟨[0, 1, 4], []⟩ (by kernel_rfl) _ ?_
  show vc T _ _ (Option.get! Tryz.f174.body) _ _
  simp only [Tryz.f174,Tryz.ntmps174,Option.get!,iS,iM,eO,J1]
  simp only [vx,T,K5,J0,K6,K7,↓reduceIte,J1,J2,J3,J4,J5,J6,J7,J8,J9,reduceCtorEq,K1,K2,K3,K4,eV,QsC]
  refine Cg (ixQ_spec f p xs hl hf) ?_
  simp only [vx,T,K5,J0,K6,K7,↓reduceIte,J1,J2,J3,J4,J5,J6,J7,J8,J9,reduceCtorEq,K1,K2,K3,K4]
  exact vb (ixQ_any p xs)
theorem numbers_spec (a : El) (n : Nat) (hl : a.length = n) (hn : n < 2 ^ 38) (hq : Qk a) : Pr Tryz.prog 142 [eV a, .one (.int .i64 n)] (.one (.bool true)) := by
  have hc := conQ_spec 175 (fun _ => false) a (by omega) (fun i hi => num1_spec _ (Nat.lt_trans (hq.get i) (by decide)))
  rw [show a.any (fun _ => false) = false from List.any_eq_false.2 (fun _ _ => by simp)] at hc
  subst hl
  refine pv T_ok mixed Tryz.func142 rfl (by decide) _ (by simp [Tryz.ntmps142]) ⟨[0, 1, 4], []⟩ (by kernel_rfl) _ ?_
  show vc T _ _ (Option.get! Tryz.f142.body) _ _
  simp only [Tryz.f142,Tryz.ntmps142,Option.get!,iS,iM,eO,J1]
  simp only [vx,T,K5,J0,K6,K7,↓reduceIte,J1,J2,J3,J4,J5,J6,J7,J8,J9,reduceCtorEq,K1,K2,K3,K4,eV,QsC]
  refine Cg hc ?_
  simp only [vx,T,K5,J0,K6,K7,↓reduceIte,J1,J2,J3,J4,J5,J6,J7,J8,J9,reduceCtorEq,K1,K2,K3,K4]
  exact Ve rfl
structure Tk (h : Nat) (t : List El) : Prop where
  le8 : h ≤ 8
  len : ∀ i, i < h → (t.getD i []).length = 2 ^ i
  q : ∀ i, i < h → Qk (t.getD i [])
theorem Tk.le {h k : Nat} {t : List El} (T : Tk h t) (hk : k ≤ h) : Tk k t := ⟨by have := T.le8; omega, fun i hi => T.len i (by omega), fun i hi => T.q i (by omega)⟩
theorem shl_pow {h : Nat} (hh : h ≤ 8) : IntKind.i64.wrap (1 * 2 ^ (if h ≤ 64 then h else 64)) = ((2 ^ h : Nat) : Int) := by
  rw [if_pos (by omega), Int.one_mul, IntWalk.i64_in]
  · rw [Int.natCast_pow]; rfl
  have : 2 ^ h ≤ 2 ^ 8 := Nat.pow_le_pow_right (by decide) hh
  have e : ((2 : Int) ^ h) = ((2 ^ h : Nat) : Int) := by rw [Int.natCast_pow]; rfl
  rw [e]; generalize 2 ^ h = q at this ⊢; constructor <;> omega
theorem pow_small {h : Nat} (hh : h ≤ 8) : 2 ^ h < 2 ^ 38 := Nat.lt_of_le_of_lt (Nat.pow_le_pow_right (by decide) hh) (by decide)
theorem radicands_spec {h : Nat} {t : List El} (tk : Tk h t) : Pr Tryz.prog 173 [tV h t] (.one (.bool true)) := by
  have hh := tk.le8
  refine pv T_ok mixed Tryz.func173 rfl (by decide) _ (by simp [Tryz.ntmps173]) ⟨[0, 2, 3, 4, 5, 6, 7, 8, 16], []⟩ (by kernel_rfl) _ ?_
  show vc T _ _ (Option.get! Tryz.f173.body) _ _
  simp only [Tryz.f173,Tryz.ntmps173,Option.get!,iS,iM,eO,J1]
  simp only [vx,T,K5,J0,K6,K7,↓reduceIte,J1,J2,J3,J4,J5,J6,J7,J8,J9,reduceCtorEq,K1,K2,K3,K4,tV,tC]
  refine Lk (fun y : {i : Nat // i ≤ h} => ⟨[(5, tV h t), (6, .one (.int .i64 h)), (7, .one (.int .i64 y.1))], [], 1, 18⟩) (fun y => h - y.1) ⟨0, Nat.zero_le _⟩ ?_ (fun ⟨i, hi⟩ => ?_)
  · refine Sa ?_; simp only [rx,Y0,Y1,Y2,Y3,Y4,Y5,Y6,Y7,ren,↓reduceIte,J1,J2,J3,J4,J5,J6,J7,J8,J9,reduceCtorEq,K1,K2,K3,K4,Y8,Y9,X2,X3,X4,tV,tC]
  have i1 := wI i (by omega)
  simp only [vx,T,K5,J0,K6,K7,↓reduceIte,J1,J2,J3,J4,J5,J6,J7,J8,J9,reduceCtorEq,K1,K2,K3,K4,tV,tC]
  refine ⟨fun h1 => Lg ?_, fun h1 => Lg ?_⟩
  · have hih : i < h := by omega
    have hs := shl_pow (h := i) (by omega)
    have hp := pow_small (h := i) (by omega)
    simp only [vx,T,K5,J0,K6,K7,↓reduceIte,J1,J2,J3,J4,J5,J6,J7,J8,J9,reduceCtorEq,K1,K2,K3,K4,tV,tC,QsC,hs]
    refine ⟨by omega, by omega, Cg (numbers_spec (t.getD i []) (2 ^ i) (tk.len i hih) hp (tk.q i hih)) ?_⟩
    simp only [vx,T,K5,J0,K6,K7,↓reduceIte,J1,J2,J3,J4,J5,J6,J7,J8,J9,reduceCtorEq,K1,K2,K3,K4]
    simp only [i1]
    refine Lq ⟨i + 1, by omega⟩ ?_ ?_
    · refine Sa ?_; simp only [rx,Y0,Y1,Y2,Y3,Y4,Y5,Y6,Y7,ren,↓reduceIte,J1,J2,J3,J4,J5,J6,J7,J8,J9,reduceCtorEq,K1,K2,K3,K4,Y8,Y9,X2,X3,X4,tV,tC]
    simp only; omega
  simp only [vx,T,K5,J0,K6,K7,↓reduceIte,J1,J2,J3,J4,J5,J6,J7,J8,J9,reduceCtorEq,K1,K2,K3,K4]
  exact Ve rfl
open Go Go.Eng
open Go.Tw (El addE negE zE mulE zE_len negE_len addE_len mulE_len)
def wQ (l : List Rat) (i k j : Nat) : C := if k < i then fQ l k j else [C.bool false, C.nil, C.bool false, C.nil].getD j .any
theorem wQ_zero (l : List Rat) (k j : Nat) : [C.bool false, C.nil, C.bool false, C.nil].getD j C.any = wQ l 0 k j := by
  unfold wQ; rw [if_neg (Nat.not_lt_zero _)]
theorem wQ_all {l : List Rat} {n k : Nat} (h : k < n) (j : Nat) : wQ l n k j = fQ l k j := if_pos h
theorem fQ_cells (q : Rat) {l : List Rat} {k : Nat} (e : l.getD k default = q) (j : Nat) : [C.bool (zs q.num), C.ints .u32 (zm q.num), C.bool (zs (q.den : Int)), C.ints .u32 (zm (q.den : Int))].getD j C.any = fQ l k j := by
  subst e
  match j with
  | 0 | 1 | 2 | 3 => rfl
  | _ + 4 => rfl
theorem set_wQ (q : Rat) {l : List Rat} {i : Nat} (e : l.getD i default = q) (k j : Nat) (hj : j < 4) :
    setElt (wQ l i) i 0 [C.bool (zs q.num), C.ints .u32 (zm q.num), C.bool (zs (q.den : Int)), C.ints .u32 (zm (q.den : Int))] k j = wQ l (i + 1) k j := by
  unfold setElt
  by_cases h : k = i
  · subst h
    rw [if_pos rfl, if_pos (Nat.zero_le _), if_pos (by simpa using hj), Nat.sub_zero, fQ_cells q e, wQ_all (Nat.lt_succ_self _)]
  rw [if_neg h]
  unfold wQ
  by_cases h2 : k < i
  · rw [if_pos h2, if_pos (by omega)]
  rw [if_neg h2, if_neg (by omega)]
theorem ret_wQ {l : List Rat} {n : Nat} (h : l.length = n) : Y5 [] 0 (Bk.rows 33 4 n (wQ l n)) (Bk.rows 33 4 l.length (fQ l)) :=
  ⟨rfl, h.symm, fun _ j hi _ => wQ_all hi j⟩
theorem zeros_spec (n : Nat) (hn : n < 2 ^ 38) : Fr Tryz.prog 144 [.one (.int .i64 n)] (.rows 33 4 (zE n).length (fQ (zE n))) := by
  refine fresh_of_vc T_ok mixed Tryz.func144 rfl (by decide) _ (by simp [Tryz.ntmps144]) ⟨[0, 2, 3, 4, 8, 9, 10], []⟩ (by kernel_rfl) (.rows 33 4 (zE n).length (fQ (zE n))) trivial ?_
  show vc T _ _ (Option.get! Tryz.f144.body) _ _
  simp only [Tryz.f144,Tryz.ntmps144,Option.get!,iS,iM,eO,J1]
  simp only [vx,T,K5,J0,K6,K7,↓reduceIte,J1,J2,J3,J4,J5,J6,J7,J8,J9,reduceCtorEq,K1,K2,K3,K4]
  refine ⟨by omega, Lk (fun y : {i : Nat // i ≤ n} => ⟨[(3, .one (.own 1 4 0 n)), (8, .one (.int .i64 n)), (9, .one (.int .i64 y.1))], [(1, ⟨.rows 33 4 n (wQ (zE n) y.1), true⟩)], 2, 18⟩) (fun y => n - y.1) ⟨0, Nat.zero_le _⟩ ?_ (fun ⟨i, hi⟩ => ?_)⟩
  · refine Sa ?_; simp only [rx,Y0,Y1,Y2,Y3,Y4,Y5,Y6,Y7,ren,↓reduceIte,J1,J2,J3,J4,J5,J6,J7,J8,J9,reduceCtorEq,K1,K2,K3,K4,Y8,Y9,X2,X3,X4]
    exact fun i j _ _ => wQ_zero _ i j
  have i1 := wI i (by omega)
  simp only [vx,T,K5,J0,K6,K7,↓reduceIte,J1,J2,J3,J4,J5,J6,J7,J8,J9,reduceCtorEq,K1,K2,K3,K4]
  refine ⟨fun h1 => Lg ?_, fun h1 => Lg ?_⟩
  · have hil : i < n := by omega
    simp only [vx,T,K5,J0,K6,K7,↓reduceIte,J1,J2,J3,J4,J5,J6,J7,J8,J9,reduceCtorEq,K1,K2,K3,K4]
    refine Cg (iQFromInt_spec 0 (by decide) (by decide)) ?_
    simp only [vx,T,K5,J0,K6,K7,↓reduceIte,J1,J2,J3,J4,J5,J6,J7,J8,J9,reduceCtorEq,K1,K2,K3,K4,QV,QC]
    simp only [i1]
    refine ⟨by omega, Lq ⟨i + 1, by omega⟩ ?_ ?_⟩
    · refine Sa ?_; simp only [rx,Y0,Y1,Y2,Y3,Y4,Y5,Y6,Y7,ren,↓reduceIte,J1,J2,J3,J4,J5,J6,J7,J8,J9,reduceCtorEq,K1,K2,K3,K4,Y8,Y9,X2,X3,X4]
      exact fun k j _ hj => set_wQ _ (by simp [zE, X7, hil]; rfl) k j hj
    simp only; omega
  have hil : i = n := by omega
  subst hil
  simp only [vx,T,K5,J0,K6,K7,↓reduceIte,J1,J2,J3,J4,J5,J6,J7,J8,J9,reduceCtorEq,K1,K2,K3,K4]
  exact ⟨zE_len.symm, ret_wQ zE_len⟩
theorem tadd_spec (a b : El) (hl : a.length < 2 ^ 38) (hab : b.length = a.length) (hqa : Qk a) (hqb : Qk b) : Fr Tryz.prog 105 [eV a, eV b] (.rows 33 4 (addE a b).length (fQ (addE a b))) := by
  refine fresh_of_vc T_ok mixed Tryz.func105 rfl (by decide) _ (by simp [Tryz.ntmps105]) ⟨[0, 1, 4, 5, 6, 11, 12, 13], []⟩ (by kernel_rfl) (.rows 33 4 (addE a b).length (fQ (addE a b))) trivial ?_
  show vc T _ _ (Option.get! Tryz.f105.body) _ _
  simp only [Tryz.f105,Tryz.ntmps105,Option.get!,iS,iM,eO,J1]
  simp only [vx,T,K5,J0,K6,K7,↓reduceIte,J1,J2,J3,J4,J5,J6,J7,J8,J9,reduceCtorEq,K1,K2,K3,K4,eV,QsC]
  refine ⟨by omega, Lk (fun y : {i : Nat // i ≤ a.length} => ⟨[(0, eV a), (1, eV b), (5, .one (.own 1 4 0 a.length)), (11, .one (.int .i64 a.length)), (12, .one (.int .i64 y.1))], [(1, ⟨.rows 33 4 a.length (wQ (addE a b) y.1), true⟩)], 2, 29⟩) (fun y => a.length - y.1) ⟨0, Nat.zero_le _⟩ ?_ (fun ⟨i, hi⟩ => ?_)⟩
  · refine Sa ?_; simp only [rx,Y0,Y1,Y2,Y3,Y4,Y5,Y6,Y7,ren,↓reduceIte,J1,J2,J3,J4,J5,J6,J7,J8,J9,reduceCtorEq,K1,K2,K3,K4,Y8,Y9,X2,X3,X4,eV,QsC]
    exact fun i j _ _ => wQ_zero _ i j
  have i1 := wI i (by omega)
  simp only [vx,T,K5,J0,K6,K7,↓reduceIte,J1,J2,J3,J4,J5,J6,J7,J8,J9,reduceCtorEq,K1,K2,K3,K4,eV,QsC]
  refine ⟨fun h1 => Lg ?_, fun h1 => Lg ?_⟩
  · have hil : i < a.length := by omega
    have hxq := hqa.get i
    have hyq := hqb.get i
    have en : (addE a b).getD i default = a.getD i default + b.getD i default := by
      unfold addE; rw [X7, List.getElem?_zipWith, X8 hil, X7, X8 hil, X8 (by omega : i < b.length), X7, X8 (by omega : i < b.length)]; rfl
    obtain ⟨x, hx⟩ : ∃ x, x = a.getD i default := ⟨_, rfl⟩
    obtain ⟨y, hy⟩ : ∃ y, y = b.getD i default := ⟨_, rfl⟩
    rw [← hx] at hxq en
    rw [← hy] at hyq en
    simp only [vx,T,K5,J0,K6,K7,↓reduceIte,J1,J2,J3,J4,J5,J6,J7,J8,J9,reduceCtorEq,K1,K2,K3,K4,eV,QsC,← hx,← hy,qC]
    refine ⟨by omega, by omega, Cg (iQAdd_spec x y hxq hyq) ?_⟩
    simp only [vx,T,K5,J0,K6,K7,↓reduceIte,J1,J2,J3,J4,J5,J6,J7,J8,J9,reduceCtorEq,K1,K2,K3,K4,QV,QC]
    simp only [i1]
    refine ⟨by omega, Lq ⟨i + 1, by omega⟩ ?_ ?_⟩
    · refine Sa ?_; simp only [rx,Y0,Y1,Y2,Y3,Y4,Y5,Y6,Y7,ren,↓reduceIte,J1,J2,J3,J4,J5,J6,J7,J8,J9,reduceCtorEq,K1,K2,K3,K4,Y8,Y9,X2,X3,X4,eV,QsC]
      exact fun k j _ hj => set_wQ _ en k j hj
    simp only; omega
  have hil : i = a.length := by omega
  subst hil
  simp only [vx,T,K5,J0,K6,K7,↓reduceIte,J1,J2,J3,J4,J5,J6,J7,J8,J9,reduceCtorEq,K1,K2,K3,K4]
  exact ⟨(addE_len rfl hab).symm, ret_wQ (addE_len rfl hab)⟩
open Go Go.Eng
open Go.Tw (El addE negE zE mulE zE_len negE_len addE_len mulE_len QB mS len_take len_drop)
theorem tZero_spec (a : El) (hl : a.length < 2 ^ 38) (hq : Qk a) : Pr Tryz.prog 143 [eV a] (.one (.bool (decide (a = zE a.length)))) := by
  have hc := conQ_spec 177 (fun q => decide (q ≠ 0)) a hl (fun i hi => zero1_spec _ (Nat.lt_trans (hq.get i) (by decide)))
  refine pv T_ok mixed Tryz.func143 rfl (by decide) _ (by simp [Tryz.ntmps143]) ⟨[0, 2], []⟩ (by kernel_rfl) _ ?_
  show vc T _ _ (Option.get! Tryz.f143.body) _ _
  simp only [Tryz.f143,Tryz.ntmps143,Option.get!,iS,iM,eO,J1]
  simp only [vx,T,K5,J0,K6,K7,↓reduceIte,J1,J2,J3,J4,J5,J6,J7,J8,J9,reduceCtorEq,K1,K2,K3,K4,eV,QsC]
  refine Cg hc ?_
  simp only [vx,T,K5,J0,K6,K7,↓reduceIte,J1,J2,J3,J4,J5,J6,J7,J8,J9,reduceCtorEq,K1,K2,K3,K4]
  refine vb ?_
  rw [Bool.eq_iff_iff, Bool.not_eq_true', List.any_eq_false, decide_eq_true_eq]
  constructor
  · intro h
    refine List.eq_replicate_iff.2 ⟨rfl, fun b hb => ?_⟩
    have := h b hb
    simpa using this
  intro h b hb
  rw [h] at hb
  have := List.eq_of_mem_replicate hb
  simp [this]
theorem tFormed_spec {h : Nat} {t : List El} (tk : Tk h t) (a : El) (ha : a.length = 2 ^ h) (hq : Qk a) : Pr Tryz.prog 141 [tV h t, eV a] (.one (.bool true)) := by
  have hs := shl_pow tk.le8
  have hn := numbers_spec a (2 ^ h) ha (pow_small tk.le8) hq
  have hr := radicands_spec tk
  refine pv T_ok mixed Tryz.func141 rfl (by decide) _ (by simp [Tryz.ntmps141]) ⟨[0, 1, 4], []⟩ (by kernel_rfl) _ ?_
  show vc T _ _ (Option.get! Tryz.f141.body) _ _
  simp only [Tryz.f141,Tryz.ntmps141,Option.get!,iS,iM,eO,J1]
  simp only [vx,T,K5,J0,K6,K7,↓reduceIte,J1,J2,J3,J4,J5,J6,J7,J8,J9,reduceCtorEq,K1,K2,K3,K4,tV,tC,eV,QsC]
  refine Cg hr ?_
  simp only [vx,T,K5,J0,K6,K7,↓reduceIte,J1,J2,J3,J4,J5,J6,J7,J8,J9,reduceCtorEq,K1,K2,K3,K4,hs]
  refine ⟨Int.natCast_nonneg _, Cg hn ?_⟩
  simp only [vx,T,K5,J0,K6,K7,↓reduceIte,J1,J2,J3,J4,J5,J6,J7,J8,J9,reduceCtorEq,K1,K2,K3,K4]
  exact Ve rfl
theorem tformed_spec {h : Nat} {t : List El} (tk : Tk h t) (a b : El) (ha : a.length = 2 ^ h) (hb : b.length = 2 ^ h) (hq : Qk a) (hqb : Qk b) : Pr Tryz.prog 103 [tV h t, eV a, eV b] (.one (.bool true)) := by
  have hs := shl_pow tk.le8
  have hn := numbers_spec b (2 ^ h) hb (pow_small tk.le8) hqb
  have hr := tFormed_spec tk a ha hq
  refine pv T_ok mixed Tryz.func103 rfl (by decide) _ (by simp [Tryz.ntmps103]) ⟨[0, 1, 2, 6], []⟩ (by kernel_rfl) _ ?_
  show vc T _ _ (Option.get! Tryz.f103.body) _ _
  simp only [Tryz.f103,Tryz.ntmps103,Option.get!,iS,iM,eO,J1]
  simp only [vx,T,K5,J0,K6,K7,↓reduceIte,J1,J2,J3,J4,J5,J6,J7,J8,J9,reduceCtorEq,K1,K2,K3,K4,tV,tC,eV,QsC]
  refine Cg hr ?_
  simp only [vx,T,K5,J0,K6,K7,↓reduceIte,J1,J2,J3,J4,J5,J6,J7,J8,J9,reduceCtorEq,K1,K2,K3,K4,hs]
  refine ⟨Int.natCast_nonneg _, Cg hn ?_⟩
  simp only [vx,T,K5,J0,K6,K7,↓reduceIte,J1,J2,J3,J4,J5,J6,J7,J8,J9,reduceCtorEq,K1,K2,K3,K4]
  exact Ve rfl
theorem tsplit_spec {h : Nat} {t : List El} (hh : h < 2 ^ 38) : Pr Tryz.prog 145 [tV (h + 1) t] (.tup [tV h t, eV (t.getD h [])]) := by
  have w1 : IntKind.i64.wrap (((h + 1 : Nat) : Int) - 1) = (h : Int) := by rw [IntWalk.i64_in _ (by omega)]; omega
  refine pv T_ok mixed Tryz.func145 rfl (by decide) _ (by simp [Tryz.ntmps145]) ⟨[0, 2, 3], [(1, .nil)]⟩ (by kernel_rfl) _ ?_
  show vc T _ _ (Option.get! Tryz.f145.body) _ _
  simp only [Tryz.f145,Tryz.ntmps145,Option.get!,iS,iM,eO,J1]
  simp only [vx,T,K5,J0,K6,K7,↓reduceIte,J1,J2,J3,J4,J5,J6,J7,J8,J9,reduceCtorEq,K1,K2,K3,K4,tV,tC,QsC,w1]
  exact ⟨by omega, by omega, Ve rfl⟩
theorem fQ_take {a : El} {n i : Nat} (h : i < n) (j : Nat) : fQ a i j = fQ (a.take n) i j := by
  unfold fQ; rw [X7, X7, List.getElem?_take_of_lt h]
theorem fQ_drop {a : El} {n : Nat} (i j : Nat) : fQ a (n + i) j = fQ (a.drop n) i j := by
  unfold fQ; rw [X7, X7, List.getElem?_drop]
theorem thalves_spec {h : Nat} (hh : h < 38) {a : El} (ha : a.length = 2 ^ (h + 1)) : Pr Tryz.prog 146 [eV a] (.tup [eV (a.take (2 ^ h)), eV (a.drop (2 ^ h))]) := by
  have hp : 2 ^ h < 2 ^ 38 := Nat.pow_lt_pow_right (by decide) hh
  obtain ⟨n, hn⟩ : ∃ n, n = 2 ^ h := ⟨_, rfl⟩
  have ha2 : a.length = 2 * n := by rw [ha, Nat.pow_succ, hn]; omega
  rw [← hn] at hp ⊢
  have w1 : IntKind.i64.wrap (((a.length : Nat) : Int).tdiv 2) = (n : Int) := by
    rw [ha2, Int.tdiv_eq_ediv_of_nonneg (by omega), IntWalk.i64_in _ (by omega)]; omega
  refine pv T_ok mixed Tryz.func146 rfl (by decide) _ (by simp [Tryz.ntmps146]) ⟨[0, 2, 3], [(1, .nil)]⟩ (by kernel_rfl) _ ?_
  show vc T _ _ (Option.get! Tryz.f146.body) _ _
  simp only [Tryz.f146,Tryz.ntmps146,Option.get!,iS,iM,eO,J1]
  simp only [vx,T,K5,J0,K6,K7,↓reduceIte,J1,J2,J3,J4,J5,J6,J7,J8,J9,reduceCtorEq,K1,K2,K3,K4,eV,QsC,w1]
  refine ⟨by omega, by omega, Va ⟨⟨rfl, by rw [X5]; omega, fun i j hi _ => fQ_take hi j⟩, ⟨rfl, by rw [List.length_drop]; omega, fun i j hi _ => fQ_drop i j⟩, trivial⟩⟩
open Go Go.Eng
open Go.Tw (El addE negE zE mulE zE_len negE_len addE_len mulE_len QB mS len_take len_drop)
theorem fQ_app (a b : El) (i j : Nat) : (if i < a.length then fQ a i j else fQ b (i - a.length) j) = fQ (a ++ b) i j := by
  unfold fQ
  by_cases h : i < a.length
  · rw [if_pos h, X7, X7, List.getElem?_append_left h]
  rw [if_neg h, X7, X7, List.getElem?_append_right (by omega)]
theorem tmul0_spec {a b : El} {t : List El} (ha : a.length = 2 ^ 0) (hb : b.length = 2 ^ 0) (qa : Qk a) (qb : Qk b) :
    Fr Tryz.prog 104 [tV 0 t, eV a, eV b] (.rows 33 4 (mulE 0 t a b).length (fQ (mulE 0 t a b))) := by
  have hxq := qa.get 0
  have hyq := qb.get 0
  have em : mulE 0 t a b = [a.getD 0 default * b.getD 0 default] := rfl
  obtain ⟨x, hx⟩ : ∃ x, x = a.getD 0 default := ⟨_, rfl⟩
  obtain ⟨y, hy⟩ : ∃ y, y = b.getD 0 default := ⟨_, rfl⟩
  rw [← hx, ← hy] at em
  rw [← hx] at hxq
  rw [← hy] at hyq
  refine fresh_of_vc T_ok mixed Tryz.func104 rfl (by decide) _ (by simp [Tryz.ntmps104]) ⟨[0, 1, 2, 6, 7, 8, 9, 10, 11, 12, 13, 14, 26], []⟩ (by kernel_rfl) (.rows 33 4 (mulE 0 t a b).length (fQ (mulE 0 t a b))) trivial ?_
  show vc T _ _ (Option.get! Tryz.f104.body) _ _
  simp only [Tryz.f104,Tryz.ntmps104,Option.get!,iS,iM,eO,J1]
  simp only [vx,T,K5,J0,K6,K7,↓reduceIte,J1,J2,J3,J4,J5,J6,J7,J8,J9,reduceCtorEq,K1,K2,K3,K4,tV,tC,eV,QsC,← hx,← hy,qC]
  refine ⟨fun _ => Lg ?_, fun h => absurd rfl h⟩
  simp only [vx,T,K5,J0,K6,K7,↓reduceIte,J1,J2,J3,J4,J5,J6,J7,J8,J9,reduceCtorEq,K1,K2,K3,K4,tV,tC,eV,QsC,← hx,← hy,qC]
  refine ⟨by omega, by omega, Cg (iQMul_spec x y hxq hyq) ?_⟩
  simp only [vx,T,K5,J0,K6,K7,↓reduceIte,J1,J2,J3,J4,J5,J6,J7,J8,J9,reduceCtorEq,K1,K2,K3,K4,QV,QC]
  rw [em]
  refine ⟨rfl, rfl, rfl, fun i j hi hj => ?_⟩
  obtain rfl : i = 0 := by omega
  show List.getD _ (0 * 4 + j) _ = _
  rw [Nat.zero_mul, Nat.zero_add]
  exact fQ_cells (x * y) rfl j
theorem tmulZ_spec {a b : El} {h : Nat} {t : List El} (hh : h + 1 < 38) (ha : a.length = 2 ^ (h + 1)) (hb : b.length = 2 ^ (h + 1)) (qa : Qk a) (qb : Qk b) (hz : a = zE (2 ^ (h + 1)) ∨ b = zE (2 ^ (h + 1))) :
    Fr Tryz.prog 104 [tV (h + 1) t, eV a, eV b] (.rows 33 4 (mulE (h + 1) t a b).length (fQ (mulE (h + 1) t a b))) := by
  have hp : 2 ^ (h + 1) < 2 ^ 38 := Nat.pow_lt_pow_right (by decide) hh
  have em : mulE (h + 1) t a b = zE a.length := by
    rw [ha]
    rcases hz with rfl | rfl
    · exact Go.Tw.mul_zero_left
    exact Go.Tw.mul_zero_right
  rw [em]
  have ca := tZero_spec a (by omega) qa
  have cb := tZero_spec b (by omega) qb
  have cz := zeros_spec a.length (by omega)
  obtain ⟨za, hza⟩ : ∃ za, za = decide (a = zE a.length) := ⟨_, rfl⟩
  rw [← hza] at ca
  refine fresh_of_vc T_ok mixed Tryz.func104 rfl (by decide) _ (by simp [Tryz.ntmps104]) ⟨[0, 1, 2, 6, 7, 8, 9, 10, 11, 12, 13, 14, 26], []⟩ (by kernel_rfl) (.rows 33 4 (zE a.length).length (fQ (zE a.length))) trivial ?_
  show vc T _ _ (Option.get! Tryz.f104.body) _ _
  simp only [Tryz.f104,Tryz.ntmps104,Option.get!,iS,iM,eO,J1]
  simp only [vx,T,K5,J0,K6,K7,↓reduceIte,J1,J2,J3,J4,J5,J6,J7,J8,J9,reduceCtorEq,K1,K2,K3,K4,tV,tC,eV,QsC]
  refine ⟨fun h => absurd h (by omega), fun _ => Lg ?_⟩
  simp only [vx,T,K5,J0,K6,K7,↓reduceIte,J1,J2,J3,J4,J5,J6,J7,J8,J9,reduceCtorEq,K1,K2,K3,K4,tV,tC,eV,QsC]
  refine Cg ca ?_
  cases za with
  | true =>
    simp only [vx,T,K5,J0,K6,K7,↓reduceIte,J1,J2,J3,J4,J5,J6,J7,J8,J9,reduceCtorEq,K1,K2,K3,K4]
    refine CallK.fresh cz ?_
    simp only [vx,T,K5,J0,K6,K7,↓reduceIte,J1,J2,J3,J4,J5,J6,J7,J8,J9,reduceCtorEq,K1,K2,K3,K4]
    exact ⟨rfl, rfl, fun _ _ _ _ => rfl⟩
  | false =>
    have hzb : b = zE b.length := by
      rcases hz with rfl | rfl
      · exact absurd hza (by rw [zE_len, decide_eq_true rfl]; decide)
      rw [zE_len]
    rw [decide_eq_true hzb] at cb
    simp only [vx,T,K5,J0,K6,K7,↓reduceIte,J1,J2,J3,J4,J5,J6,J7,J8,J9,reduceCtorEq,K1,K2,K3,K4]
    refine Cg cb ?_
    simp only [vx,T,K5,J0,K6,K7,↓reduceIte,J1,J2,J3,J4,J5,J6,J7,J8,J9,reduceCtorEq,K1,K2,K3,K4]
    refine CallK.fresh cz ?_
    simp only [vx,T,K5,J0,K6,K7,↓reduceIte,J1,J2,J3,J4,J5,J6,J7,J8,J9,reduceCtorEq,K1,K2,K3,K4]
    exact ⟨rfl, rfl, fun _ _ _ _ => rfl⟩
theorem tmulS_spec {t : List El} {C : Nat} (hC : 1 ≤ C) {h : Nat} (ih : ∀ {a b : El} {A B : Nat}, 1 ≤ A → 1 ≤ B → a.length = 2 ^ h → b.length = 2 ^ h → QB A a → QB B b → mS h (A + B) C < 2 ^ 34 →
    Fr Tryz.prog 104 [tV h t, eV a, eV b] (.rows 33 4 (mulE h t a b).length (fQ (mulE h t a b)))) {a b : El} {A B : Nat} (tk : Tk (h + 1) t) (ht : ∀ i, i < h + 1 → QB C (t.getD i [])) (h1 : 1 ≤ A) (h2 : 1 ≤ B) (ha : a.length = 2 ^ (h + 1)) (hb : b.length = 2 ^ (h + 1)) (qa : QB A a) (qb : QB B b) (hs : mS (h + 1) (A + B) C < 2 ^ 34) (nza : a ≠ zE (2 ^ (h + 1))) (nzb : b ≠ zE (2 ^ (h + 1))) :
    Fr Tryz.prog 104 [tV (h + 1) t, eV a, eV b] (.rows 33 4 (mulE (h + 1) t a b).length (fQ (mulE (h + 1) t a b))) := by
  have hh := tk.le8
  have hp : 2 ^ (h + 1) < 2 ^ 38 := Nat.pow_lt_pow_right (by decide) (by omega)
  have hge := Go.Tw.mS_ge (h := h) (S := A + B) (C := C)
  have hge2 := Go.Tw.mS_ge (h := h) (S := mS h (A + B) C + C) (C := C)
  rw [mS] at hs
  have qka : Qk a := .of qa (by omega)
  have qkb : Qk b := .of qb (by omega)
  have ca := tZero_spec a (by omega) qka
  have cb := tZero_spec b (by omega) qkb
  rw [ha, decide_eq_false nza] at ca
  rw [hb, decide_eq_false nzb] at cb
  have cs := tsplit_spec (h := h) (t := t) (by omega)
  have cx := thalves_spec (h := h) (by omega) ha
  have cy := thalves_spec (h := h) (by omega) hb
  have la1 := len_take ha
  have la2 := len_drop ha
  have lb1 := len_take hb
  have lb2 := len_drop hb
  have ht' : ∀ i, i < h → QB C (t.getD i []) := fun i hi => ht i (by omega)
  have m1 := ih h1 h2 la1 lb1 (qa.take _) (qb.take _) (by omega)
  have m2 := ih h1 h2 la2 lb2 (qa.drop _) (qb.drop _) (by omega)
  have g1 := QB.mul hC ht' h1 h2 (qa.take (2 ^ h)) (qb.take (2 ^ h))
  have g2 := QB.mul hC ht' h1 h2 (qa.drop (2 ^ h)) (qb.drop (2 ^ h))
  have g3 := QB.mul hC ht' h1 h2 (qa.take (2 ^ h)) (qb.drop (2 ^ h))
  have g4 := QB.mul hC ht' h1 h2 (qa.drop (2 ^ h)) (qb.take (2 ^ h))
  have m5 := ih (by omega) hC mulE_len (tk.len h (by omega)) g2 (ht h (by omega)) (by omega)
  have g5 := QB.mul hC ht' (by omega) hC g2 (ht h (by omega))
  have m3 := ih h1 h2 la1 lb2 (qa.take _) (qb.drop _) (by omega)
  have m4 := ih h1 h2 la2 lb1 (qa.drop _) (qb.take _) (by omega)
  have hph : 2 ^ h < 2 ^ 38 := Nat.pow_lt_pow_right (by decide) (by omega)
  have a1 := tadd_spec _ _ (by rw [mulE_len]; omega) (by rw [mulE_len, mulE_len]) (Qk.of g1 (by omega)) (Qk.of g5 (by omega))
  have a2 := tadd_spec _ _ (by rw [mulE_len]; omega) (by rw [mulE_len, mulE_len]) (Qk.of g3 (by omega)) (Qk.of g4 (by omega))
  clear g1 g2 g3 g4 g5 ih
  obtain ⟨x, hx⟩ : ∃ x, x = a.take (2 ^ h) := ⟨_, rfl⟩
  obtain ⟨y, hy⟩ : ∃ y, y = a.drop (2 ^ h) := ⟨_, rfl⟩
  obtain ⟨u, hu⟩ : ∃ u, u = b.take (2 ^ h) := ⟨_, rfl⟩
  obtain ⟨v, hv⟩ : ∃ v, v = b.drop (2 ^ h) := ⟨_, rfl⟩
  obtain ⟨r, hr⟩ : ∃ r, r = t.getD h [] := ⟨_, rfl⟩
  rw [← hr] at cs m5 a1
  rw [← hx, ← hy] at cx
  rw [← hu, ← hv] at cy
  rw [← hx, ← hu] at m1
  rw [← hy, ← hv] at m2 m5
  rw [← hx, ← hv] at m3
  rw [← hy, ← hu] at m4
  rw [← hx, ← hu, ← hy, ← hv] at a1
  rw [← hx, ← hv, ← hy, ← hu] at a2
  have em : mulE (h + 1) t a b = addE (mulE h t x u) (mulE h t (mulE h t y v) r) ++ addE (mulE h t x v) (mulE h t y u) := by rw [hx, hy, hu, hv, hr, Go.Tw.mulE]
  rw [em]
  obtain ⟨p1, hp1⟩ : ∃ p, p = mulE h t x u := ⟨_, rfl⟩
  obtain ⟨p2, hp2⟩ : ∃ p, p = mulE h t y v := ⟨_, rfl⟩
  rw [← hp2] at m2 m5 a1 ⊢
  obtain ⟨p5, hp5⟩ : ∃ p, p = mulE h t p2 r := ⟨_, rfl⟩
  obtain ⟨p3, hp3⟩ : ∃ p, p = mulE h t x v := ⟨_, rfl⟩
  obtain ⟨p4, hp4⟩ : ∃ p, p = mulE h t y u := ⟨_, rfl⟩
  rw [← hp1] at m1 a1 ⊢
  rw [← hp5] at m5 a1 ⊢
  rw [← hp3] at m3 a2 ⊢
  rw [← hp4] at m4 a2 ⊢
  obtain ⟨s1, hs1⟩ : ∃ p, p = addE p1 p5 := ⟨_, rfl⟩
  obtain ⟨s2, hs2⟩ : ∃ p, p = addE p3 p4 := ⟨_, rfl⟩
  have l1 : s1.length = 2 ^ h := by rw [hs1]; exact addE_len (by rw [hp1, mulE_len]) (by rw [hp5, mulE_len])
  have l2 : s2.length = 2 ^ h := by rw [hs2]; exact addE_len (by rw [hp3, mulE_len]) (by rw [hp4, mulE_len])
  rw [← hs1] at a1 ⊢
  rw [← hs2] at a2 ⊢
  refine fresh_of_vc T_ok mixed Tryz.func104 rfl (by decide) _ (by simp [Tryz.ntmps104]) ⟨[0, 1, 2, 6, 7, 8, 9, 10, 11, 12, 13, 14, 26], []⟩ (by kernel_rfl) (.rows 33 4 (s1 ++ s2).length (fQ (s1 ++ s2))) trivial ?_
  show vc T _ _ (Option.get! Tryz.f104.body) _ _
  simp only [Tryz.f104,Tryz.ntmps104,Option.get!,iS,iM,eO,J1]
  simp only [vx,T,K5,J0,K6,K7,↓reduceIte,J1,J2,J3,J4,J5,J6,J7,J8,J9,reduceCtorEq,K1,K2,K3,K4,tV,tC,eV,QsC]
  refine ⟨fun h => absurd h (by omega), fun _ => Lg ?_⟩
  simp only [vx,T,K5,J0,K6,K7,↓reduceIte,J1,J2,J3,J4,J5,J6,J7,J8,J9,reduceCtorEq,K1,K2,K3,K4,tV,tC,eV,QsC]
  refine Cg ca ?_
  simp only [vx,T,K5,J0,K6,K7,↓reduceIte,J1,J2,J3,J4,J5,J6,J7,J8,J9,reduceCtorEq,K1,K2,K3,K4]
  refine Cg cb ?_
  simp only [vx,T,K5,J0,K6,K7,↓reduceIte,J1,J2,J3,J4,J5,J6,J7,J8,J9,reduceCtorEq,K1,K2,K3,K4]
  refine Cg cs ?_
  simp only [vx,T,K5,J0,K6,K7,↓reduceIte,J1,J2,J3,J4,J5,J6,J7,J8,J9,reduceCtorEq,K1,K2,K3,K4,tV,tC,eV,QsC]
  refine Cg cx ?_
  simp only [vx,T,K5,J0,K6,K7,↓reduceIte,J1,J2,J3,J4,J5,J6,J7,J8,J9,reduceCtorEq,K1,K2,K3,K4,tV,tC,eV,QsC]
  refine Cg cy ?_
  simp only [vx,T,K5,J0,K6,K7,↓reduceIte,J1,J2,J3,J4,J5,J6,J7,J8,J9,reduceCtorEq,K1,K2,K3,K4,tV,tC,eV,QsC]
  refine Cg m1.rows ?_
  simp only [vx,T,K5,J0,K6,K7,↓reduceIte,J1,J2,J3,J4,J5,J6,J7,J8,J9,reduceCtorEq,K1,K2,K3,K4,tV,tC,eV,QsC]
  refine Cg m2.rows ?_
  simp only [vx,T,K5,J0,K6,K7,↓reduceIte,J1,J2,J3,J4,J5,J6,J7,J8,J9,reduceCtorEq,K1,K2,K3,K4,tV,tC,eV,QsC]
  refine Cg m5.rows ?_
  simp only [vx,T,K5,J0,K6,K7,↓reduceIte,J1,J2,J3,J4,J5,J6,J7,J8,J9,reduceCtorEq,K1,K2,K3,K4,tV,tC,eV,QsC]
  refine CallK.fresh a1 ?_
  simp only [vx,T,K5,J0,K6,K7,↓reduceIte,J1,J2,J3,J4,J5,J6,J7,J8,J9,reduceCtorEq,K1,K2,K3,K4,tV,tC,eV,QsC]
  refine Cg m3.rows ?_
  simp only [vx,T,K5,J0,K6,K7,↓reduceIte,J1,J2,J3,J4,J5,J6,J7,J8,J9,reduceCtorEq,K1,K2,K3,K4,tV,tC,eV,QsC]
  refine Cg m4.rows ?_
  simp only [vx,T,K5,J0,K6,K7,↓reduceIte,J1,J2,J3,J4,J5,J6,J7,J8,J9,reduceCtorEq,K1,K2,K3,K4,tV,tC,eV,QsC]
  refine Cg a2.rows ?_
  simp only [vx,T,K5,J0,K6,K7,↓reduceIte,J1,J2,J3,J4,J5,J6,J7,J8,J9,reduceCtorEq,K1,K2,K3,K4,tV,tC,eV,QsC]
  exact ⟨⟨by omega, by omega⟩, List.length_append.symm, rfl, List.length_append.symm, fun i j _ _ => fQ_app s1 s2 i j⟩
theorem tmul_spec {t : List El} {C : Nat} (hC : 1 ≤ C) : ∀ {h : Nat} {a b : El} {A B : Nat}, Tk h t → (∀ i, i < h → QB C (t.getD i [])) → 1 ≤ A → 1 ≤ B → a.length = 2 ^ h → b.length = 2 ^ h → QB A a → QB B b → mS h (A + B) C < 2 ^ 34 →
    Fr Tryz.prog 104 [tV h t, eV a, eV b] (.rows 33 4 (mulE h t a b).length (fQ (mulE h t a b))) := by
  intro h
  induction h with
  | zero =>
    intro a b A B _ _ h1 h2 ha hb qa qb hs
    have : A + B < 2 ^ 34 := hs
    exact tmul0_spec ha hb (.of qa (by omega)) (.of qb (by omega))
  | succ h ih =>
    intro a b A B tk ht h1 h2 ha hb qa qb hs
    have hh := tk.le8
    have hge := Go.Tw.mS_ge (h := h + 1) (S := A + B) (C := C)
    by_cases za : a = zE (2 ^ (h + 1))
    · exact tmulZ_spec (by omega) ha hb (.of qa (by omega)) (.of qb (by omega)) (.inl za)
    by_cases zb : b = zE (2 ^ (h + 1))
    · exact tmulZ_spec (by omega) ha hb (.of qa (by omega)) (.of qb (by omega)) (.inr zb)
    exact tmulS_spec hC (fun {a b A B} g1 g2 g3 g4 g5 g6 g7 => ih (tk.le (Nat.le_succ h)) (fun i hi => ht i (by omega)) g1 g2 g3 g4 g5 g6 g7) tk ht h1 h2 ha hb qa qb hs za zb
open Go Go.Eng
open Go.Tw (El addE negE zE mulE zE_len negE_len addE_len mulE_len QB mS len_take len_drop)
theorem VLe.cell {c c' : C} (h : CLe c c') : VLe (.one c) (.one c') := fun ok w v hr => RepC.of_repI (h ok w v (RepI.of_loc0 hr))
theorem VLe.agg2 {a a' b b' : C} (h1 : CLe a a') (h2 : CLe b b') : VLe (.agg [a, b]) (.agg [a', b']) := by
  intro ok w v hr
  obtain ⟨vs, e, hl⟩ := hr
  refine ⟨vs, e, ?_⟩
  generalize vs.toList = l at hl ⊢
  match l, hl with
  | [x, y], ⟨k1, k2, _⟩ => exact ⟨RepC.of_repI (h1 ok w x (RepI.of_loc0 k1)), RepC.of_repI (h2 ok w y (RepI.of_loc0 k2)), trivial⟩
theorem cmpI_z0 {a b : Int} : cmpI a b = 0 ↔ a = b := by unfold cmpI; split; omega; split <;> omega
theorem sgn_ne {a b : Int} (h : ¬sgn a = sgn b) : cmpI (sgn a) (sgn b) = cmpI a b := by
  unfold sgn cmpI at *; (repeat' split) <;> (repeat' split at h) <;> first | omega | rfl
theorem sgn_eq {a b : Int} (h : sgn a = sgn b) : IntKind.i64.wrap (sgn a * cmpI (a.natAbs : Int) (b.natAbs : Int)) = cmpI a b := by
  have e : sgn a * cmpI (a.natAbs : Int) (b.natAbs : Int) = cmpI a b := by
    rcases Int.lt_trichotomy a 0 with h0 | h0 | h0
    · have e1 : sgn a = -1 := by unfold sgn; rw [if_neg (by omega), if_pos h0]
      have e2 : b < 0 := by rw [e1] at h; unfold sgn at h; (repeat' split at h) <;> omega
      rw [e1]; unfold cmpI; (repeat' split) <;> omega
    · have e1 : sgn a = 0 := by unfold sgn; rw [if_pos h0]
      have e2 : b = 0 := by rw [e1] at h; unfold sgn at h; (repeat' split at h) <;> omega
      rw [e1]; unfold cmpI; (repeat' split) <;> omega
    have e1 : sgn a = 1 := by unfold sgn; rw [if_neg (by omega), if_neg (by omega)]
    have e2 : 0 < b := by rw [e1] at h; unfold sgn at h; (repeat' split at h) <;> omega
    rw [e1]; unfold cmpI; (repeat' split) <;> omega
  rw [e]
  refine IntWalk.i64_in _ ?_
  unfold cmpI; (repeat' split) <;> omega
theorem iCmp_spec (a b : Int) (ha : zn a < 2 ^ 38) (hb : zn b < 2 ^ 38) : Pr Tryz.prog 217 [ZV a, ZV b] (.one (.int .i64 (cmpI a b))) := by
  have ca := iSign_spec a ha
  have cb := iSign_spec b hb
  have ta := itrimZ a (by omega)
  have tb := itrimZ b (by omega)
  refine pv T_ok mixed Tryz.func217 rfl (by decide) _ (by simp [Tryz.ntmps217]) ⟨[0, 1, 2, 3, 4, 5, 6, 13], []⟩ (by kernel_rfl) _ ?_
  show vc T _ _ (Option.get! Tryz.f217.body) _ _
  simp only [Tryz.f217,Tryz.ntmps217,Option.get!,iS,iM,eO,J1]
  simp only [vx,T,K5,J0,K6,K7,↓reduceIte,J1,J2,J3,J4,J5,J6,J7,J8,J9,reduceCtorEq,K1,K2,K3,K4,ZV]
  refine Cg ca ?_
  simp only [vx,T,K5,J0,K6,K7,↓reduceIte,J1,J2,J3,J4,J5,J6,J7,J8,J9,reduceCtorEq,K1,K2,K3,K4,ZV]
  refine Cg cb ?_
  simp only [vx,T,K5,J0,K6,K7,↓reduceIte,J1,J2,J3,J4,J5,J6,J7,J8,J9,reduceCtorEq,K1,K2,K3,K4,ZV]
  refine ⟨fun g => Lg ?_, fun g => Lg ?_⟩
  · simp only [vx,T,K5,J0,K6,K7,↓reduceIte,J1,J2,J3,J4,J5,J6,J7,J8,J9,reduceCtorEq,K1,K2,K3,K4,ZV]
    refine Cg (Compare_i64_spec _ _) ?_
    simp only [vx,T,K5,J0,K6,K7,↓reduceIte,J1,J2,J3,J4,J5,J6,J7,J8,J9,reduceCtorEq,K1,K2,K3,K4,ZV]
    exact Ve (by rw [sgn_ne g])
  simp only [vx,T,K5,J0,K6,K7,↓reduceIte,J1,J2,J3,J4,J5,J6,J7,J8,J9,reduceCtorEq,K1,K2,K3,K4,ZV]
  refine Cg ta ?_
  simp only [vx,T,K5,J0,K6,K7,↓reduceIte,J1,J2,J3,J4,J5,J6,J7,J8,J9,reduceCtorEq,K1,K2,K3,K4,ZV]
  refine Cg tb ?_
  simp only [vx,T,K5,J0,K6,K7,↓reduceIte,J1,J2,J3,J4,J5,J6,J7,J8,J9,reduceCtorEq,K1,K2,K3,K4,ZV]
  refine Cg (icompare_spec a.natAbs b.natAbs (by unfold zn at ha; omega) (by unfold zn at hb; omega)) ?_
  simp only [vx,T,K5,J0,K6,K7,↓reduceIte,J1,J2,J3,J4,J5,J6,J7,J8,J9,reduceCtorEq,K1,K2,K3,K4,ZV]
  exact Ve (by rw [sgn_eq g])
theorem copyRat_spec (q : Rat) (hq : qm q < 2 ^ 36) : Pr Tryz.prog 66 [QV q] (QV q) := by
  have c1 := cloneU_spec (zm q.num) (by unfold qm at hq; rw [zm_length]; omega)
  have c2 := cloneU_spec (zm (q.den : Int)) (by unfold qm at hq; rw [zm_length, zn_nat]; omega)
  refine pv T_ok mixed Tryz.func66 rfl (by decide) _ (by simp [Tryz.ntmps66]) ⟨[0, 1, 2], []⟩ (by kernel_rfl) _ ?_
  show vc T _ _ (Option.get! Tryz.f66.body) _ _
  simp only [Tryz.f66,Tryz.ntmps66,Option.get!,iS,iM,eO,J1]
  simp only [vx,T,K5,J0,K6,K7,↓reduceIte,J1,J2,J3,J4,J5,J6,J7,J8,J9,reduceCtorEq,K1,K2,K3,K4,QV,QC]
  refine Cg c1 ?_
  simp only [vx,T,K5,J0,K6,K7,↓reduceIte,J1,J2,J3,J4,J5,J6,J7,J8,J9,reduceCtorEq,K1,K2,K3,K4]
  refine Cg c2 ?_
  simp only [vx,T,K5,J0,K6,K7,↓reduceIte,J1,J2,J3,J4,J5,J6,J7,J8,J9,reduceCtorEq,K1,K2,K3,K4]
  exact Ve rfl
theorem copyList_spec (a : El) (hl : a.length < 2 ^ 38) (hq : Qk a) : Fr Tryz.prog 172 [eV a] (.rows 33 4 a.length (fQ a)) := by
  refine fresh_of_vc T_ok mixed Tryz.func172 rfl (by decide) _ (by simp [Tryz.ntmps172]) ⟨[0, 2, 3, 4, 5, 9, 10, 11, 12], []⟩ (by kernel_rfl) (.rows 33 4 a.length (fQ a)) trivial ?_
  show vc T _ _ (Option.get! Tryz.f172.body) _ _
  simp only [Tryz.f172,Tryz.ntmps172,Option.get!,iS,iM,eO,J1]
  simp only [vx,T,K5,J0,K6,K7,↓reduceIte,J1,J2,J3,J4,J5,J6,J7,J8,J9,reduceCtorEq,K1,K2,K3,K4,eV,QsC]
  refine ⟨by omega, Lk (fun y : {i : Nat // i ≤ a.length} => ⟨[(0, eV a), (3, .one (.own 1 4 0 a.length)), (9, eV a), (10, .one (.int .i64 a.length)), (11, .one (.int .i64 y.1))], [(1, ⟨.rows 33 4 a.length (wQ a y.1), true⟩)], 2, 23⟩) (fun y => a.length - y.1) ⟨0, Nat.zero_le _⟩ ?_ (fun ⟨i, hi⟩ => ?_)⟩
  · refine Sa ?_; simp only [rx,Y0,Y1,Y2,Y3,Y4,Y5,Y6,Y7,ren,↓reduceIte,J1,J2,J3,J4,J5,J6,J7,J8,J9,reduceCtorEq,K1,K2,K3,K4,Y8,Y9,X2,X3,X4,eV,QsC]
    exact fun i j _ _ => wQ_zero _ i j
  have i1 := wI i (by omega)
  simp only [vx,T,K5,J0,K6,K7,↓reduceIte,J1,J2,J3,J4,J5,J6,J7,J8,J9,reduceCtorEq,K1,K2,K3,K4,eV,QsC]
  refine ⟨fun h1 => Lg ?_, fun h1 => Lg ?_⟩
  · have hil : i < a.length := by omega
    have hxq := hq.get i
    obtain ⟨x, hx⟩ : ∃ x, x = a.getD i default := ⟨_, rfl⟩
    rw [← hx] at hxq
    simp only [vx,T,K5,J0,K6,K7,↓reduceIte,J1,J2,J3,J4,J5,J6,J7,J8,J9,reduceCtorEq,K1,K2,K3,K4,eV,QsC,← hx,qC]
    refine ⟨by omega, Cg (copyRat_spec x (by omega)) ?_⟩
    simp only [vx,T,K5,J0,K6,K7,↓reduceIte,J1,J2,J3,J4,J5,J6,J7,J8,J9,reduceCtorEq,K1,K2,K3,K4,QV,QC]
    simp only [i1]
    refine ⟨by omega, Lq ⟨i + 1, by omega⟩ ?_ ?_⟩
    · refine Sa ?_; simp only [rx,Y0,Y1,Y2,Y3,Y4,Y5,Y6,Y7,ren,↓reduceIte,J1,J2,J3,J4,J5,J6,J7,J8,J9,reduceCtorEq,K1,K2,K3,K4,Y8,Y9,X2,X3,X4,eV,QsC]
      exact fun k j _ hj => set_wQ _ hx.symm k j hj
    simp only; omega
  have hil : i = a.length := by omega
  subst hil
  simp only [vx,T,K5,J0,K6,K7,↓reduceIte,J1,J2,J3,J4,J5,J6,J7,J8,J9,reduceCtorEq,K1,K2,K3,K4]
  exact ret_wQ rfl
theorem cloneQ_spec (a : El) (hl : a.length < 2 ^ 38) : Pr Tryz.prog 169 [eV a] (eV a) := by
  refine pv T_ok mixed Tryz.func169 rfl (by decide) _ (by simp [Tryz.ntmps169]) ⟨[0, 2, 4], []⟩ (by kernel_rfl) _ ?_
  show vc T _ _ (Option.get! Tryz.f169.body) _ _
  simp only [Tryz.f169,Tryz.ntmps169,Option.get!,iS,iM,eO,J1]
  simp only [vx,T,K5,J0,K6,K7,↓reduceIte,J1,J2,J3,J4,J5,J6,J7,J8,J9,reduceCtorEq,K1,K2,K3,K4,eV,QsC]
  intro b hb
  refine Lg ?_
  simp only [vx,T,K5,J0,K6,K7,↓reduceIte,J1,J2,J3,J4,J5,J6,J7,J8,J9,reduceCtorEq,K1,K2,K3,K4]
  refine ⟨fun g => Lg ?_, fun g => Lg ?_⟩
  · simp only [vx,T,K5,J0,K6,K7,↓reduceIte,J1,J2,J3,J4,J5,J6,J7,J8,J9,reduceCtorEq,K1,K2,K3,K4]
    have h0 : a = [] := by
      cases a with
      | nil => rfl
      | cons x xs => have := hb (by simp); rw [this] at g; cases g
    subst h0
    exact VLe.cell (.nil_rows _ _)
  simp only [vx,T,K5,J0,K6,K7,↓reduceIte,J1,J2,J3,J4,J5,J6,J7,J8,J9,reduceCtorEq,K1,K2,K3,K4]
  exact ⟨⟨by omega, by omega⟩, VLe.refl _⟩
open Go Go.Eng
open Go.Tw (El addE negE zE mulE zE_len negE_len addE_len mulE_len QB mS len_take len_drop)
def cmpQ (a b : Rat) : Int := cmpI (a.num * b.den) (b.num * a.den)
theorem sgn_mul {a : Int} {n : Nat} (h : 0 < n) : sgn (a * n) = sgn a := by
  rcases Int.lt_trichotomy a 0 with h0 | h0 | h0
  · have : a * n < 0 := Int.mul_neg_of_neg_of_pos h0 (by omega)
    unfold sgn; rw [if_neg (by omega), if_pos this, if_neg (by omega), if_pos h0]
  · subst h0; rw [Int.zero_mul]
  have : 0 < a * n := Int.mul_pos h0 (by omega)
  unfold sgn; rw [if_neg (by omega), if_neg (by omega), if_neg (by omega), if_neg (by omega)]
theorem cmpQ_ne {a b : Rat} (h : ¬sgn a.num = sgn b.num) : cmpI (sgn a.num) (sgn b.num) = cmpQ a b := by
  unfold cmpQ
  rw [← sgn_mul (a := a.num) b.den_pos, ← sgn_mul (a := b.num) a.den_pos]
  rw [← sgn_mul (a := a.num) b.den_pos, ← sgn_mul (a := b.num) a.den_pos] at h
  exact sgn_ne h
theorem iQCmp_spec (a b : Rat) (ha : qm a < 2 ^ 34) (hb : qm b < 2 ^ 34) : Pr Tryz.prog 198 [QV a, QV b] (.one (.int .i64 (cmpQ a b))) := by
  have ca := iQSign_spec a (by omega)
  have cb := iQSign_spec b (by omega)
  have na : zn a.num < 2 ^ 34 ∧ nl a.den < 2 ^ 34 := by unfold qm at ha; omega
  have nb : zn b.num < 2 ^ 34 ∧ nl b.den < 2 ^ 34 := by unfold qm at hb; omega
  have ma := iMul_spec a.num (b.den : Int) (by omega) (by rw [zn_nat]; omega)
  have mb := iMul_spec b.num (a.den : Int) (by omega) (by rw [zn_nat]; omega)
  have e1 := zn_mul a.num (b.den : Int)
  have e2 := zn_mul b.num (a.den : Int)
  rw [zn_nat] at e1 e2
  have cc := iCmp_spec (a.num * b.den) (b.num * a.den) (by omega) (by omega)
  refine pv T_ok mixed Tryz.func198 rfl (by decide) _ (by simp [Tryz.ntmps198]) ⟨[0, 1, 2, 3, 4, 5, 6, 13, 16], []⟩ (by kernel_rfl) _ ?_
  show vc T _ _ (Option.get! Tryz.f198.body) _ _
  simp only [Tryz.f198,Tryz.ntmps198,Option.get!,iS,iM,eO,J1]
  simp only [vx,T,K5,J0,K6,K7,↓reduceIte,J1,J2,J3,J4,J5,J6,J7,J8,J9,reduceCtorEq,K1,K2,K3,K4,QV,QC]
  refine Cg ca ?_
  simp only [vx,T,K5,J0,K6,K7,↓reduceIte,J1,J2,J3,J4,J5,J6,J7,J8,J9,reduceCtorEq,K1,K2,K3,K4,QV,QC]
  refine Cg cb ?_
  simp only [vx,T,K5,J0,K6,K7,↓reduceIte,J1,J2,J3,J4,J5,J6,J7,J8,J9,reduceCtorEq,K1,K2,K3,K4,QV,QC]
  refine ⟨fun g => Lg ?_, fun g => Lg ?_⟩
  · simp only [vx,T,K5,J0,K6,K7,↓reduceIte,J1,J2,J3,J4,J5,J6,J7,J8,J9,reduceCtorEq,K1,K2,K3,K4,QV,QC]
    refine ⟨fun g2 => Lg ?_, fun g2 => Lg ?_⟩
    · simp only [vx,T,K5,J0,K6,K7,↓reduceIte,J1,J2,J3,J4,J5,J6,J7,J8,J9,reduceCtorEq,K1,K2,K3,K4,QV,QC]
      exact Ve (by rw [← cmpQ_ne g, cmpI_lt g2])
    simp only [vx,T,K5,J0,K6,K7,↓reduceIte,J1,J2,J3,J4,J5,J6,J7,J8,J9,reduceCtorEq,K1,K2,K3,K4,QV,QC]
    exact Ve (by rw [← cmpQ_ne g, cmpI_gt (by omega)])
  simp only [vx,T,K5,J0,K6,K7,↓reduceIte,J1,J2,J3,J4,J5,J6,J7,J8,J9,reduceCtorEq,K1,K2,K3,K4,QV,QC]
  refine Cg ma ?_
  simp only [vx,T,K5,J0,K6,K7,↓reduceIte,J1,J2,J3,J4,J5,J6,J7,J8,J9,reduceCtorEq,K1,K2,K3,K4,ZV]
  refine Cg mb ?_
  simp only [vx,T,K5,J0,K6,K7,↓reduceIte,J1,J2,J3,J4,J5,J6,J7,J8,J9,reduceCtorEq,K1,K2,K3,K4,ZV]
  refine Cg cc ?_
  simp only [vx,T,K5,J0,K6,K7,↓reduceIte,J1,J2,J3,J4,J5,J6,J7,J8,J9,reduceCtorEq,K1,K2,K3,K4,ZV]
  exact Ve rfl
open Go Go.Eng
open Go.Tw (El addE negE zE mulE zE_len negE_len addE_len mulE_len QB mS len_take len_drop)
def eqB (n m : Nat) (p : Nat → Bool) : Bool := decide (n = m) && (List.range n).all p
theorem eqB_ne {n m : Nat} {p : Nat → Bool} (h : ¬(n : Int) = m) : eqB n m p = false := by unfold eqB; rw [decide_eq_false (by omega), Bool.false_and]
theorem eqQ_spec (f : FuncId) (p : Nat → Bool) (xs ys : List Rat) (hl : xs.length < 2 ^ 38) (hf : ∀ i, i < xs.length → Pr Tryz.prog f [QV (xs.getD i default), QV (ys.getD i default)] (.one (.bool (p i)))) :
    Pr Tryz.prog 196 [eV xs, eV ys, .one (.fn f 0 (fun _ => .any))] (.one (.bool (eqB xs.length ys.length p))) := by
  refine pv T_ok mixed Tryz.func196 rfl (by decide) _ (by simp [Tryz.ntmps196]) ⟨[0, 1, 2, 6, 7, 8, 9, 14, 15, 16, 17, 18, 30], []⟩ (by kernel_rfl) _ ?_
  show vc T _ _ (Option.get! Tryz.f196.body) _ _
  simp only [Tryz.f196,Tryz.ntmps196,Option.get!,iS,iM,eO,J1]
  simp only [vx,T,K5,J0,K6,K7,↓reduceIte,J1,J2,J3,J4,J5,J6,J7,J8,J9,reduceCtorEq,K1,K2,K3,K4,eV,QsC]
  refine ⟨fun g => Lg ?_, fun g => Lg ?_⟩
  · simp only [vx,T,K5,J0,K6,K7,↓reduceIte,J1,J2,J3,J4,J5,J6,J7,J8,J9,reduceCtorEq,K1,K2,K3,K4]
    exact vb (eqB_ne g).symm
  have hxy : xs.length = ys.length := by omega
  simp only [vx,T,K5,J0,K6,K7,↓reduceIte,J1,J2,J3,J4,J5,J6,J7,J8,J9,reduceCtorEq,K1,K2,K3,K4,eV,QsC]
  refine Lk (fun y : {i : Nat // i ≤ xs.length ∧ ∀ k, k < i → p k = true} => ⟨[(1, eV ys), (2, .one (.fn f 0 (fun _ => .any))), (15, eV xs), (16, .one (.int .i64 xs.length)), (17, .one (.int .i64 y.1))], [], 1, 32⟩) (fun y => xs.length - y.1) ⟨0, Nat.zero_le _, fun k h => absurd h (Nat.not_lt_zero _)⟩ ?_ (fun ⟨i, hi, hz⟩ => ?_)
  · refine Sa ?_; simp only [rx,Y0,Y1,Y2,Y3,Y4,Y5,Y6,Y7,ren,↓reduceIte,J1,J2,J3,J4,J5,J6,J7,J8,J9,reduceCtorEq,K1,K2,K3,K4,Y8,Y9,X2,X3,X4,eV,QsC]
  have i1 := wI i (by omega)
  simp only [vx,T,K5,J0,K6,K7,↓reduceIte,J1,J2,J3,J4,J5,J6,J7,J8,J9,reduceCtorEq,K1,K2,K3,K4,eV,QsC]
  refine ⟨fun h1 => Lg ?_, fun h1 => Lg ?_⟩
  · have hfi := hf i (by omega)
    obtain ⟨a, ha⟩ : ∃ a, a = xs.getD i default := ⟨_, rfl⟩
    obtain ⟨b, hb⟩ : ∃ b, b = ys.getD i default := ⟨_, rfl⟩
    rw [← ha, ← hb] at hfi
    simp only [vx,T,K5,J0,K6,K7,↓reduceIte,J1,J2,J3,J4,J5,J6,J7,J8,J9,reduceCtorEq,K1,K2,K3,K4,eV,QsC,← ha,← hb,qC]
    refine ⟨by omega, by omega, Cg hfi ?_⟩
    simp only [vx,T,K5,J0,K6,K7,↓reduceIte,J1,J2,J3,J4,J5,J6,J7,J8,J9,reduceCtorEq,K1,K2,K3,K4]
    refine ⟨fun h2 => Lg ?_, fun h2 => Lg ?_⟩
    · simp only [vx,T,K5,J0,K6,K7,↓reduceIte,J1,J2,J3,J4,J5,J6,J7,J8,J9,reduceCtorEq,K1,K2,K3,K4]
      have h2 : p i = false := by simpa using h2
      exact vb (by unfold eqB; rw [all_range_f (by omega) h2, Bool.and_false])
    simp only [vx,T,K5,J0,K6,K7,↓reduceIte,J1,J2,J3,J4,J5,J6,J7,J8,J9,reduceCtorEq,K1,K2,K3,K4]
    simp only [i1]
    refine Lq ⟨i + 1, by omega, fun k hk => ?_⟩ ?_ ?_
    · by_cases h3 : k < i
      · exact hz k h3
      rw [show k = i by omega]; simpa using h2
    · refine Sa ?_; simp only [rx,Y0,Y1,Y2,Y3,Y4,Y5,Y6,Y7,ren,↓reduceIte,J1,J2,J3,J4,J5,J6,J7,J8,J9,reduceCtorEq,K1,K2,K3,K4,Y8,Y9,X2,X3,X4,eV,QsC]
    simp only; omega
  simp only [vx,T,K5,J0,K6,K7,↓reduceIte,J1,J2,J3,J4,J5,J6,J7,J8,J9,reduceCtorEq,K1,K2,K3,K4]
  exact vb (by unfold eqB; rw [decide_eq_true hxy, Bool.true_and]; exact (all_range.2 fun k hk => hz k (by omega)).symm)
theorem eqL_spec (f : FuncId) (p : Nat → Bool) (t u : List El) (n m : Nat) (hl : n < 2 ^ 38) (hf : ∀ i, i < n → i < m → Pr Tryz.prog f [eV (t.getD i []), eV (u.getD i [])] (.one (.bool (p i)))) :
    Pr Tryz.prog 167 [tV n t, tV m u, .one (.fn f 0 (fun _ => .any))] (.one (.bool (eqB n m p))) := by
  refine pv T_ok mixed Tryz.func167 rfl (by decide) _ (by simp [Tryz.ntmps167]) ⟨[0, 1, 2, 6, 7, 8, 9, 14, 15, 16, 17, 18, 30], []⟩ (by kernel_rfl) _ ?_
  show vc T _ _ (Option.get! Tryz.f167.body) _ _
  simp only [Tryz.f167,Tryz.ntmps167,Option.get!,iS,iM,eO,J1]
  simp only [vx,T,K5,J0,K6,K7,↓reduceIte,J1,J2,J3,J4,J5,J6,J7,J8,J9,reduceCtorEq,K1,K2,K3,K4,tV,tC,eV,QsC]
  refine ⟨fun g => Lg ?_, fun g => Lg ?_⟩
  · simp only [vx,T,K5,J0,K6,K7,↓reduceIte,J1,J2,J3,J4,J5,J6,J7,J8,J9,reduceCtorEq,K1,K2,K3,K4]
    exact vb (eqB_ne g).symm
  have hxy : n = m := by omega
  simp only [vx,T,K5,J0,K6,K7,↓reduceIte,J1,J2,J3,J4,J5,J6,J7,J8,J9,reduceCtorEq,K1,K2,K3,K4,tV,tC,eV,QsC]
  refine Lk (fun y : {i : Nat // i ≤ n ∧ ∀ k, k < i → p k = true} => ⟨[(1, tV m u), (2, .one (.fn f 0 (fun _ => .any))), (15, tV n t), (16, .one (.int .i64 n)), (17, .one (.int .i64 y.1))], [], 1, 32⟩) (fun y => n - y.1) ⟨0, Nat.zero_le _, fun k h => absurd h (Nat.not_lt_zero _)⟩ ?_ (fun ⟨i, hi, hz⟩ => ?_)
  · refine Sa ?_; simp only [rx,Y0,Y1,Y2,Y3,Y4,Y5,Y6,Y7,ren,↓reduceIte,J1,J2,J3,J4,J5,J6,J7,J8,J9,reduceCtorEq,K1,K2,K3,K4,Y8,Y9,X2,X3,X4,tV,tC,eV,QsC]
  have i1 := wI i (by omega)
  simp only [vx,T,K5,J0,K6,K7,↓reduceIte,J1,J2,J3,J4,J5,J6,J7,J8,J9,reduceCtorEq,K1,K2,K3,K4,tV,tC,eV,QsC]
  refine ⟨fun h1 => Lg ?_, fun h1 => Lg ?_⟩
  · have hfi := hf i (by omega) (by omega)
    simp only [vx,T,K5,J0,K6,K7,↓reduceIte,J1,J2,J3,J4,J5,J6,J7,J8,J9,reduceCtorEq,K1,K2,K3,K4,tV,tC,eV,QsC]
    refine ⟨by omega, by omega, Cg hfi ?_⟩
    simp only [vx,T,K5,J0,K6,K7,↓reduceIte,J1,J2,J3,J4,J5,J6,J7,J8,J9,reduceCtorEq,K1,K2,K3,K4]
    refine ⟨fun h2 => Lg ?_, fun h2 => Lg ?_⟩
    · simp only [vx,T,K5,J0,K6,K7,↓reduceIte,J1,J2,J3,J4,J5,J6,J7,J8,J9,reduceCtorEq,K1,K2,K3,K4]
      have h2 : p i = false := by simpa using h2
      exact vb (by unfold eqB; rw [all_range_f (by omega) h2, Bool.and_false])
    simp only [vx,T,K5,J0,K6,K7,↓reduceIte,J1,J2,J3,J4,J5,J6,J7,J8,J9,reduceCtorEq,K1,K2,K3,K4]
    simp only [i1]
    refine Lq ⟨i + 1, by omega, fun k hk => ?_⟩ ?_ ?_
    · by_cases h3 : k < i
      · exact hz k h3
      rw [show k = i by omega]; simpa using h2
    · refine Sa ?_; simp only [rx,Y0,Y1,Y2,Y3,Y4,Y5,Y6,Y7,ren,↓reduceIte,J1,J2,J3,J4,J5,J6,J7,J8,J9,reduceCtorEq,K1,K2,K3,K4,Y8,Y9,X2,X3,X4,tV,tC,eV,QsC]
    simp only; omega
  simp only [vx,T,K5,J0,K6,K7,↓reduceIte,J1,J2,J3,J4,J5,J6,J7,J8,J9,reduceCtorEq,K1,K2,K3,K4]
  exact vb (by unfold eqB; rw [decide_eq_true hxy, Bool.true_and]; exact (all_range.2 fun k hk => hz k (by omega)).symm)
open Go Go.Eng
open Go.Tw (El addE negE zE mulE zE_len negE_len addE_len mulE_len QB mS len_take len_drop)
theorem tAdd_spec {h : Nat} {t : List El} (tk : Tk h t) (a b : El) (ha : a.length = 2 ^ h) (hb : b.length = 2 ^ h) (hq : Qk a) (hqb : Qk b) : Pr Tryz.prog 69 [tV h t, eV a, eV b] (eV (addE a b)) := by
  have hp := pow_small tk.le8
  have c := tformed_spec tk a b ha hb hq hqb
  have d := (tadd_spec a b (by omega) (by omega) hq hqb).rows
  refine pv T_ok mixed Tryz.func69 rfl (by decide) _ (by simp [Tryz.ntmps69]) ⟨[0, 1, 2, 6, 11], []⟩ (by kernel_rfl) _ ?_
  show vc T _ _ (Option.get! Tryz.f69.body) _ _
  simp only [Tryz.f69,Tryz.ntmps69,Option.get!,iS,iM,eO,J1]
  simp only [vx,T,K5,J0,K6,K7,↓reduceIte,J1,J2,J3,J4,J5,J6,J7,J8,J9,reduceCtorEq,K1,K2,K3,K4,tV,tC,eV,QsC]
  refine Cg c ?_
  simp only [vx,T,K5,J0,K6,K7,↓reduceIte,J1,J2,J3,J4,J5,J6,J7,J8,J9,reduceCtorEq,K1,K2,K3,K4,tV,tC,eV,QsC]
  refine Cg d ?_
  simp only [vx,T,K5,J0,K6,K7,↓reduceIte,J1,J2,J3,J4,J5,J6,J7,J8,J9,reduceCtorEq,K1,K2,K3,K4,tV,tC,eV,QsC]
  exact Ve rfl
theorem tMul_spec {h : Nat} {t : List El} {C A B : Nat} (hC : 1 ≤ C) (tk : Tk h t) (ht : ∀ i, i < h → QB C (t.getD i [])) (h1 : 1 ≤ A) (h2 : 1 ≤ B) (a b : El) (ha : a.length = 2 ^ h) (hb : b.length = 2 ^ h) (qa : QB A a) (qb : QB B b) (hs : mS h (A + B) C < 2 ^ 34) : Pr Tryz.prog 68 [tV h t, eV a, eV b] (eV (mulE h t a b)) := by
  have hge := Go.Tw.mS_ge (h := h) (S := A + B) (C := C)
  have c := tformed_spec tk a b ha hb (.of qa (by omega)) (.of qb (by omega))
  have d := (tmul_spec hC tk ht h1 h2 ha hb qa qb hs).rows
  refine pv T_ok mixed Tryz.func68 rfl (by decide) _ (by simp [Tryz.ntmps68]) ⟨[0, 1, 2, 6, 11], []⟩ (by kernel_rfl) _ ?_
  show vc T _ _ (Option.get! Tryz.f68.body) _ _
  simp only [Tryz.f68,Tryz.ntmps68,Option.get!,iS,iM,eO,J1]
  simp only [vx,T,K5,J0,K6,K7,↓reduceIte,J1,J2,J3,J4,J5,J6,J7,J8,J9,reduceCtorEq,K1,K2,K3,K4,tV,tC,eV,QsC]
  refine Cg c ?_
  simp only [vx,T,K5,J0,K6,K7,↓reduceIte,J1,J2,J3,J4,J5,J6,J7,J8,J9,reduceCtorEq,K1,K2,K3,K4,tV,tC,eV,QsC]
  refine Cg d ?_
  simp only [vx,T,K5,J0,K6,K7,↓reduceIte,J1,J2,J3,J4,J5,J6,J7,J8,J9,reduceCtorEq,K1,K2,K3,K4,tV,tC,eV,QsC]
  exact Ve rfl
theorem sameQ1_spec (a b : Rat) (ha : qm a < 2 ^ 34) (hb : qm b < 2 ^ 34) : Pr Tryz.prog 197 [QV a, QV b] (.one (.bool (decide (a = b)))) := by
  have c := iQCmp_spec a b ha hb
  refine pv T_ok mixed Tryz.func197 rfl (by decide) _ (by simp [Tryz.ntmps197]) ⟨[0, 1, 2, 3, 4], []⟩ (by kernel_rfl) _ ?_
  show vc T _ _ (Option.get! Tryz.f197.body) _ _
  simp only [Tryz.f197,Tryz.ntmps197,Option.get!,iS,iM,eO,J1]
  simp only [vx,T,K5,J0,K6,K7,↓reduceIte,J1,J2,J3,J4,J5,J6,J7,J8,J9,reduceCtorEq,K1,K2,K3,K4,QV,QC]
  refine Cg c ?_
  simp only [vx,T,K5,J0,K6,K7,↓reduceIte,J1,J2,J3,J4,J5,J6,J7,J8,J9,reduceCtorEq,K1,K2,K3,K4,QV,QC]
  refine vb (decide_eq_decide.2 ?_)
  unfold cmpQ
  rw [cmpI_z0]
  constructor
  · intro h
    rw [← Rat.mkRat_self a, ← Rat.mkRat_self b]
    exact (Rat.mkRat_eq_iff a.den_nz b.den_nz).2 h
  rintro rfl; rfl
open Go Go.Eng
open Go.Tw (El addE negE zE mulE zE_len negE_len addE_len mulE_len QB mS len_take len_drop)
def sameB (a b : El) : Bool := eqB a.length b.length fun i => decide (a.getD i default = b.getD i default)
theorem sameB_iff {a b : El} : sameB a b = true ↔ a = b := by
  unfold sameB eqB
  rw [Bool.and_eq_true, decide_eq_true_eq, all_range]
  constructor
  · rintro ⟨h1, h2⟩
    refine List.ext_getElem h1 fun i g1 g2 => ?_
    have := of_decide_eq_true (h2 i g1)
    rwa [getD_eqQ g1, getD_eqQ g2] at this
  rintro rfl
  exact ⟨rfl, fun i _ => decide_eq_true rfl⟩
theorem same_spec (a b : El) (hl : a.length < 2 ^ 38) (ha : Qk a) (hb : Qk b) : Pr Tryz.prog 168 [eV a, eV b] (.one (.bool (decide (a = b)))) := by
  have c := eqQ_spec 197 (fun i => decide (a.getD i default = b.getD i default)) a b hl (fun i _ => sameQ1_spec _ _ (ha.get i) (hb.get i))
  have e : decide (a = b) = sameB a b := by rw [Bool.eq_iff_iff, decide_eq_true_eq, sameB_iff]
  rw [e]
  refine pv T_ok mixed Tryz.func168 rfl (by decide) _ (by simp [Tryz.ntmps168]) ⟨[0, 1, 4], []⟩ (by kernel_rfl) _ ?_
  show vc T _ _ (Option.get! Tryz.f168.body) _ _
  simp only [Tryz.f168,Tryz.ntmps168,Option.get!,iS,iM,eO,J1]
  simp only [vx,T,K5,J0,K6,K7,↓reduceIte,J1,J2,J3,J4,J5,J6,J7,J8,J9,reduceCtorEq,K1,K2,K3,K4,eV,QsC]
  refine Cg c ?_
  simp only [vx,T,K5,J0,K6,K7,↓reduceIte,J1,J2,J3,J4,J5,J6,J7,J8,J9,reduceCtorEq,K1,K2,K3,K4]
  exact Ve rfl
def begB (h k : Nat) (t u : List El) : Bool := decide (k ≤ h) && (List.range k).all fun i => decide (t.getD i [] = u.getD i [])
theorem begins_spec {h k : Nat} {t u : List El} (tk : Tk h t) (uk : Tk k u) : Pr Tryz.prog 136 [tV h t, tV k u] (.one (.bool (begB h k t u))) := by
  have h8 := tk.le8
  have k8 := uk.le8
  have c := eqL_spec 168 (fun i => decide (t.getD i [] = u.getD i [])) t u k k (by omega)
  refine pv T_ok mixed Tryz.func136 rfl (by decide) _ (by simp [Tryz.ntmps136]) ⟨[0, 1, 4], []⟩ (by kernel_rfl) _ ?_
  show vc T _ _ (Option.get! Tryz.f136.body) _ _
  simp only [Tryz.f136,Tryz.ntmps136,Option.get!,iS,iM,eO,J1]
  simp only [vx,T,K5,J0,K6,K7,↓reduceIte,J1,J2,J3,J4,J5,J6,J7,J8,J9,reduceCtorEq,K1,K2,K3,K4,tV,tC,eV,QsC]
  refine ⟨fun g => Lg ?_, fun g => Lg ?_⟩
  · have hf : ∀ i, i < k → i < k → Pr Tryz.prog 168 [eV (t.getD i []), eV (u.getD i [])] (.one (.bool (decide (t.getD i [] = u.getD i [])))) := fun i hi _ =>
      same_spec _ _ (by rw [tk.len i (by omega)]; exact pow_small (by omega)) (tk.q i (by omega)) (uk.q i hi)
    simp only [vx,T,K5,J0,K6,K7,↓reduceIte,J1,J2,J3,J4,J5,J6,J7,J8,J9,reduceCtorEq,K1,K2,K3,K4,tV,tC,eV,QsC]
    refine ⟨by omega, Cg (c hf) ?_⟩
    simp only [vx,T,K5,J0,K6,K7,↓reduceIte,J1,J2,J3,J4,J5,J6,J7,J8,J9,reduceCtorEq,K1,K2,K3,K4]
    exact vb (by unfold begB eqB; rw [decide_eq_true rfl, decide_eq_true (by omega : k ≤ h)])
  simp only [vx,T,K5,J0,K6,K7,↓reduceIte,J1,J2,J3,J4,J5,J6,J7,J8,J9,reduceCtorEq,K1,K2,K3,K4]
  exact vb (by unfold begB; rw [decide_eq_false (by omega : ¬k ≤ h)]; rfl)
open Go Go.Eng
open Go.Tw (El addE negE zE mulE QB mS)
def nC (q : Rat) : Nat → C
  | 0 => .nil
  | 1 => QsC [q]
  | _ => .any
def fN (l : List Rat) (i : Nat) : Nat → C := nC (l.getD i default)
def NsC (l : List Rat) : C := .rows 2 l.length (fN l)
def NsV (l : List Rat) : V := .one (NsC l)
def NV (q : Rat) : V := .agg [.nil, QsC [q]]
theorem Tk0 : Tk 0 [] := ⟨by decide, fun i h => absurd h (Nat.not_lt_zero _), fun i h => absurd h (Nat.not_lt_zero _)⟩
theorem Qk1 {q : Rat} (h : qm q < 2 ^ 34) : Qk [q] := fun x hx => by obtain rfl := List.mem_singleton.1 hx; exact h
theorem QB1 {q : Rat} {B : Nat} (h : qm q ≤ B) : QB B [q] := fun x hx => by obtain rfl := List.mem_singleton.1 hx; exact h
theorem nil0 : VLeN (.one .nil) (tV 0 []) := .cell (.nil_rows _ _)
theorem begins0 : Pr Tryz.prog 136 [.one .nil, .one .nil] (.one (.bool true)) := (begins_spec Tk0 Tk0).args ⟨nil0, nil0, trivial⟩
theorem tAdd0 (a b : Rat) (ha : qm a < 2 ^ 34) (hb : qm b < 2 ^ 34) : Pr Tryz.prog 69 [.one .nil, eV [a], eV [b]] (eV [a + b]) := (tAdd_spec Tk0 [a] [b] rfl rfl (Qk1 ha) (Qk1 hb)).args ⟨nil0, .refl _, .refl _, trivial⟩
theorem tMul0 (a b : Rat) {A B : Nat} (h1 : 1 ≤ A) (h2 : 1 ≤ B) (ha : qm a ≤ A) (hb : qm b ≤ B) (h : A + B < 2 ^ 34) : Pr Tryz.prog 68 [.one .nil, eV [a], eV [b]] (eV [a * b]) :=
  (tMul_spec (C := 1) (Nat.le_refl _) Tk0 (fun i h => absurd h (Nat.not_lt_zero _)) h1 h2 [a] [b] rfl rfl (QB1 ha) (QB1 hb) h).args ⟨nil0, .refl _, .refl _, trivial⟩
theorem nFromRat0 (q : Rat) (hq : qm q < 2 ^ 36) : Pr Tryz.prog 37 [QV q] (NV q) := by
  have c := copyRat_spec q hq
  refine pv T_ok mixed Tryz.func37 rfl (by decide) _ (by simp [Tryz.ntmps37]) ⟨[0, 1, 2], []⟩ (by kernel_rfl) _ ?_
  show vc T _ _ (Option.get! Tryz.f37.body) _ _
  simp only [Tryz.f37,Tryz.ntmps37,Option.get!,iS,iM,eO,J1]
  simp only [vx,T,K5,J0,K6,K7,↓reduceIte,J1,J2,J3,J4,J5,J6,J7,J8,J9,reduceCtorEq,K1,K2,K3,K4,QV,QC]
  refine Cg c ?_
  simp only [vx,T,K5,J0,K6,K7,↓reduceIte,J1,J2,J3,J4,J5,J6,J7,J8,J9,reduceCtorEq,K1,K2,K3,K4,QV,QC]
  refine VLe.agg2 (.refl _) (.rows rfl fun i j hi hj => .of_eq ?_)
  obtain rfl : i = 0 := by omega
  show List.getD _ (0 * 4 + j) _ = _
  rw [Nat.zero_mul, Nat.zero_add]
  exact fQ_cells q rfl j
theorem nFromInt0 : Pr Tryz.prog 36 [.one (.int .i64 0)] (NV 0) := by
  have c := iQFromInt_spec 0 (by decide) (by decide)
  have d := nFromRat0 (Rat.ofInt 0) (by decide +kernel)
  refine pv T_ok mixed Tryz.func36 rfl (by decide) _ (by simp [Tryz.ntmps36]) ⟨[0, 2], []⟩ (by kernel_rfl) _ ?_
  show vc T _ _ (Option.get! Tryz.f36.body) _ _
  simp only [Tryz.f36,Tryz.ntmps36,Option.get!,iS,iM,eO,J1]
  simp only [vx,T,K5,J0,K6,K7,↓reduceIte,J1,J2,J3,J4,J5,J6,J7,J8,J9,reduceCtorEq,K1,K2,K3,K4]
  refine Cg c ?_
  simp only [vx,T,K5,J0,K6,K7,↓reduceIte,J1,J2,J3,J4,J5,J6,J7,J8,J9,reduceCtorEq,K1,K2,K3,K4,QV,QC]
  refine Cg d ?_
  simp only [vx,T,K5,J0,K6,K7,↓reduceIte,J1,J2,J3,J4,J5,J6,J7,J8,J9,reduceCtorEq,K1,K2,K3,K4,NV,QsC]
  exact Ve rfl
theorem common0 (l : List Rat) (hl : l.length < 2 ^ 38) : Pr Tryz.prog 135 [NsV l] (.tup [.one .nil, .one (.int .i64 0)]) := by
  refine pv T_ok mixed Tryz.func135 rfl (by decide) _ (by simp [Tryz.ntmps135]) ⟨[0, 2, 3, 4, 6, 7, 8, 9, 10, 11, 12, 23, 27, 32], []⟩ (by kernel_rfl) _ ?_
  show vc T _ _ (Option.get! Tryz.f135.body) _ _
  simp only [Tryz.f135,Tryz.ntmps135,Option.get!,iS,iM,eO,J1]
  simp only [vx,T,K5,J0,K6,K7,↓reduceIte,J1,J2,J3,J4,J5,J6,J7,J8,J9,reduceCtorEq,K1,K2,K3,K4,NsV,NsC]
  refine Lk (fun y : {i : Nat // i ≤ l.length} => ⟨[(2, .one .nil), (3, .one (.int .i64 0)), (4, .one .nil), (9, NsV l), (10, .one (.int .i64 l.length)), (11, .one (.int .i64 y.1))], [], 1, 41⟩) (fun y => l.length - y.1) ⟨0, Nat.zero_le _⟩ ?_ (fun ⟨i, hi⟩ => ?_)
  · refine Sa ?_; simp only [rx,Y0,Y1,Y2,Y3,Y4,Y5,Y6,Y7,ren,↓reduceIte,J1,J2,J3,J4,J5,J6,J7,J8,J9,reduceCtorEq,K1,K2,K3,K4,Y8,Y9,X2,X3,X4,NsV,NsC]
  have i1 := wI i (by omega)
  simp only [vx,T,K5,J0,K6,K7,↓reduceIte,J1,J2,J3,J4,J5,J6,J7,J8,J9,reduceCtorEq,K1,K2,K3,K4,NsV,NsC]
  refine ⟨fun g => Lg ?_, fun g => Lg ?_⟩
  · obtain ⟨x, hx⟩ : ∃ x, x = l.getD i default := ⟨_, rfl⟩
    simp only [vx,T,K5,J0,K6,K7,↓reduceIte,J1,J2,J3,J4,J5,J6,J7,J8,J9,reduceCtorEq,K1,K2,K3,K4,NsV,NsC,fN,← hx,nC]
    refine ⟨by omega, Cg begins0 ?_⟩
    simp only [vx,T,K5,J0,K6,K7,↓reduceIte,J1,J2,J3,J4,J5,J6,J7,J8,J9,reduceCtorEq,K1,K2,K3,K4,NsV,NsC]
    simp only [i1]
    refine Lq ⟨i + 1, by omega⟩ ?_ ?_
    · refine Sa ?_; simp only [rx,Y0,Y1,Y2,Y3,Y4,Y5,Y6,Y7,ren,↓reduceIte,J1,J2,J3,J4,J5,J6,J7,J8,J9,reduceCtorEq,K1,K2,K3,K4,Y8,Y9,X2,X3,X4,NsV,NsC]
    simp only; omega
  simp only [vx,T,K5,J0,K6,K7,↓reduceIte,J1,J2,J3,J4,J5,J6,J7,J8,J9,reduceCtorEq,K1,K2,K3,K4,NsV,NsC]
  exact Ve rfl
theorem pad0 (q : Rat) : Pr Tryz.prog 137 [.one .nil, eV [q]] (eV [q]) := by
  have c := cloneQ_spec [q] (by simp)
  refine pv T_ok mixed Tryz.func137 rfl (by decide) _ (by simp [Tryz.ntmps137]) ⟨[0, 1, 4, 5, 13], []⟩ (by kernel_rfl) _ ?_
  show vc T _ _ (Option.get! Tryz.f137.body) _ _
  simp only [Tryz.f137,Tryz.ntmps137,Option.get!,iS,iM,eO,J1]
  simp only [vx,T,K5,J0,K6,K7,↓reduceIte,J1,J2,J3,J4,J5,J6,J7,J8,J9,reduceCtorEq,K1,K2,K3,K4,eV,QsC]
  refine Cg c ?_
  simp only [vx,T,K5,J0,K6,K7,↓reduceIte,J1,J2,J3,J4,J5,J6,J7,J8,J9,reduceCtorEq,K1,K2,K3,K4,eV,QsC]
  refine Lk (fun _ : Unit => ⟨[(0, .one .nil), (4, .one .nil), (5, eV [q])], [], 1, 19⟩) (fun _ => 0) () ?_ (fun _ => ?_)
  · refine Sa ?_; simp only [rx,Y0,Y1,Y2,Y3,Y4,Y5,Y6,Y7,ren,↓reduceIte,J1,J2,J3,J4,J5,J6,J7,J8,J9,reduceCtorEq,K1,K2,K3,K4,Y8,Y9,X2,X3,X4,eV,QsC]
  simp only [vx,T,K5,J0,K6,K7,↓reduceIte,J1,J2,J3,J4,J5,J6,J7,J8,J9,reduceCtorEq,K1,K2,K3,K4,eV,QsC,List.length_cons,List.length_nil]
  refine ⟨by decide, fun h => absurd h (by decide), fun _ => Lg ?_⟩
  simp only [vx,T,K5,J0,K6,K7,↓reduceIte,J1,J2,J3,J4,J5,J6,J7,J8,J9,reduceCtorEq,K1,K2,K3,K4,eV,QsC]
  exact Ve rfl
theorem detach0 (q : Rat) (hq : qm q < 2 ^ 34) : Pr Tryz.prog 140 [NV q] (NV q) := by
  have c := (copyList_spec [q] (by simp) (Qk1 hq)).rows
  refine pv T_ok mixed Tryz.func140 rfl (by decide) _ (by simp [Tryz.ntmps140]) ⟨[0, 1, 2, 3, 5, 11, 12, 13, 14], []⟩ (by kernel_rfl) _ ?_
  show vc T _ _ (Option.get! Tryz.f140.body) _ _
  simp only [Tryz.f140,Tryz.ntmps140,Option.get!,iS,iM,eO,J1]
  simp only [vx,T,K5,J0,K6,K7,↓reduceIte,J1,J2,J3,J4,J5,J6,J7,J8,J9,reduceCtorEq,K1,K2,K3,K4,NV,eV,QsC]
  refine Cg c ?_
  simp only [vx,T,K5,J0,K6,K7,↓reduceIte,J1,J2,J3,J4,J5,J6,J7,J8,J9,reduceCtorEq,K1,K2,K3,K4,NV,eV,QsC]
  refine Lk (fun _ : Unit => ⟨[(1, .one (.ptr 1 0)), (2, .one (.ptr 2 0)), (3, .one (.ptr 7 0)), (11, .one .nil), (12, .one (.int .i64 0)), (13, .one (.int .i64 0))], [(1, ⟨.var [.nil, QsC [q]], true⟩), (2, ⟨.var [.nil, .nil], true⟩), (7, ⟨.var [.nil, QsC [q]], true⟩)], 12, 26⟩) (fun _ => 0) () ?_ (fun _ => ?_)
  · refine Sa ?_; simp only [rx,Y0,Y1,Y2,Y3,Y4,Y5,Y6,Y7,ren,↓reduceIte,J1,J2,J3,J4,J5,J6,J7,J8,J9,reduceCtorEq,K1,K2,K3,K4,Y8,Y9,X2,X3,X4,QsC]
    exact fun _ _ _ _ => rfl
  simp only [vx,T,K5,J0,K6,K7,↓reduceIte,J1,J2,J3,J4,J5,J6,J7,J8,J9,reduceCtorEq,K1,K2,K3,K4,QsC]
  exact VLe.refl _
theorem snocN {ks : List Rat} {k : Nat} (hk : ks.length = k) (q : Rat) : ∀ (i j : Nat), i < k + 1 → j < 2 →
    (if i < k then fN ks i j else [C.nil, QsC [q]].getD ((i - k) * 2 + j) C.any) = fN (ks ++ [q]) i j := by
  subst hk
  intro i j hi hj
  by_cases h : i < ks.length
  · rw [if_pos h]; unfold fN; rw [X7, X7, List.getElem?_append_left h]
  have : i = ks.length := by omega
  subst this
  have e : (ks ++ [q]).getD ks.length default = q := by rw [X7, List.getElem?_append_right (Nat.le_refl _), Nat.sub_self]; rfl
  rw [if_neg h, Nat.sub_self, Nat.zero_mul, Nat.zero_add]
  unfold fN
  rw [e]
  match j, hj with
  | 0, _ => rfl
  | 1, _ => rfl
theorem joinL (l : List Rat) (hl : l.length < 2 ^ 30) (hq : Qk l) : Pr Tryz.prog 102 [NsV l] (.tup [NsV l, .one (.int .i64 0)]) := by
  have c := common0 l (by omega)
  refine pv T_ok mixed Tryz.func102 rfl (by decide) _ (by simp [Tryz.ntmps102]) ⟨[0, 2, 3, 4, 5, 6, 8, 9, 10, 11, 18, 20, 21, 22, 23, 31, 45], []⟩ (by kernel_rfl) _ ?_
  show vc T _ _ (Option.get! Tryz.f102.body) _ _
  simp only [Tryz.f102,Tryz.ntmps102,Option.get!,iS,iM,eO,J1]
  simp only [vx,T,K5,J0,K6,K7,↓reduceIte,J1,J2,J3,J4,J5,J6,J7,J8,J9,reduceCtorEq,K1,K2,K3,K4,NsV,NsC]
  refine Cg c ?_
  simp only [vx,T,K5,J0,K6,K7,↓reduceIte,J1,J2,J3,J4,J5,J6,J7,J8,J9,reduceCtorEq,K1,K2,K3,K4,NsV,NsC]
  refine Lk (fun y : {i : Nat // i ≤ l.length} => ⟨[(2, .one .nil), (3, .one (.int .i64 0)), (4, .one .nil), (6, .one (.own 1 2 0 y.1)), (20, NsV l), (21, .one (.int .i64 l.length)), (22, .one (.int .i64 y.1))], [(1, ⟨.rows 40 2 y.1 (fN (l.take y.1)), true⟩)], 16, 59⟩) (fun y => l.length - y.1) ⟨0, Nat.zero_le _⟩ ?_ (fun ⟨i, hi⟩ => ?_)
  · refine Sa ?_; simp only [rx,Y0,Y1,Y2,Y3,Y4,Y5,Y6,Y7,ren,↓reduceIte,J1,J2,J3,J4,J5,J6,J7,J8,J9,reduceCtorEq,K1,K2,K3,K4,Y8,Y9,X2,X3,X4,NsV,NsC]
  have i1 := wI i (by omega)
  simp only [vx,T,K5,J0,K6,K7,↓reduceIte,J1,J2,J3,J4,J5,J6,J7,J8,J9,reduceCtorEq,K1,K2,K3,K4,NsV,NsC]
  refine ⟨fun g => Lg ?_, fun g => Lg ?_⟩
  · have hil : i < l.length := by omega
    have hst : l.take (i + 1) = l.take i ++ [l.getD i default] := by rw [List.take_add_one, X7, X8 hil]; rfl
    have hxq := hq.get i
    obtain ⟨x, hx⟩ : ∃ x, x = l.getD i default := ⟨_, rfl⟩
    rw [← hx] at hst hxq
    have cp := pad0 x
    have cd := detach0 x hxq
    simp only [vx,T,K5,J0,K6,K7,↓reduceIte,J1,J2,J3,J4,J5,J6,J7,J8,J9,reduceCtorEq,K1,K2,K3,K4,NsV,NsC,fN,← hx,nC]
    refine ⟨by omega, Cg begins0 ?_⟩
    simp only [vx,T,K5,J0,K6,K7,↓reduceIte,J1,J2,J3,J4,J5,J6,J7,J8,J9,reduceCtorEq,K1,K2,K3,K4,NsV,NsC]
    refine Cg cp ?_
    simp only [vx,T,K5,J0,K6,K7,↓reduceIte,J1,J2,J3,J4,J5,J6,J7,J8,J9,reduceCtorEq,K1,K2,K3,K4,NsV,NsC,eV,QsC]
    refine Cg cd ?_
    simp only [vx,T,K5,J0,K6,K7,↓reduceIte,J1,J2,J3,J4,J5,J6,J7,J8,J9,reduceCtorEq,K1,K2,K3,K4,NsV,NsC,NV,QsC]
    simp only [i1]
    refine ⟨⟨by omega, by omega⟩, Lq ⟨i + 1, by omega⟩ ?_ ?_⟩
    · refine Sa ?_; simp only [rx,Y0,Y1,Y2,Y3,Y4,Y5,Y6,Y7,ren,↓reduceIte,J1,J2,J3,J4,J5,J6,J7,J8,J9,reduceCtorEq,K1,K2,K3,K4,Y8,Y9,X2,X3,X4,NsV,NsC,QsC]
      rw [hst]
      exact snocN (by rw [X5]; omega) x
    simp only; omega
  have hil : i = l.length := by omega
  subst hil
  have e := List.take_length (l := l)
  simp only [vx,T,K5,J0,K6,K7,↓reduceIte,J1,J2,J3,J4,J5,J6,J7,J8,J9,reduceCtorEq,K1,K2,K3,K4,NsV,NsC,e]
  exact VLe.refl _
theorem lit2N (a b : Rat) : CLe (.rows 2 2 (fun i j => [.nil, QsC [a], .nil, QsC [b]].getD (i * 2 + j) .any)) (NsC [a, b]) := by
  refine CLe.rows rfl fun i j hi hj => CLe.of_eq ?_
  match i, hi, j, hj with
  | 0, _, 0, _ => rfl
  | 0, _, 1, _ => rfl
  | 1, _, 0, _ => rfl
  | 1, _, 1, _ => rfl
theorem combine0 (f : FuncId) (a b c : Rat) (ha : qm a < 2 ^ 34) (hb : qm b < 2 ^ 34) (hf : Pr Tryz.prog f [.one .nil, eV [a], eV [b]] (eV [c])) :
    Pr Tryz.prog 67 [NV a, NV b, .one (.fn f 0 (fun _ => .any))] (.tup [NV c, .one (.int .i64 0)]) := by
  have hq : Qk [a, b] := fun x hx => by
    rcases List.mem_cons.1 hx with rfl | hx
    · exact ha
    obtain rfl := List.mem_singleton.1 hx; exact hb
  have hj := (joinL [a, b] (by simp) hq).arg1c (lit2N a b)
  refine pv T_ok mixed Tryz.func67 rfl (by decide) _ (by simp [Tryz.ntmps67]) ⟨[0, 1, 2, 3, 4, 6, 7, 8, 9, 10, 19], []⟩ (by kernel_rfl) _ ?_
  show vc T _ _ (Option.get! Tryz.f67.body) _ _
  simp only [Tryz.f67,Tryz.ntmps67,Option.get!,iS,iM,eO,J1]
  simp only [vx,T,K5,J0,K6,K7,↓reduceIte,J1,J2,J3,J4,J5,J6,J7,J8,J9,reduceCtorEq,K1,K2,K3,K4,NV,eV,QsC]
  refine Cg hj ?_
  simp only [vx,T,K5,J0,K6,K7,↓reduceIte,J1,J2,J3,J4,J5,J6,J7,J8,J9,reduceCtorEq,K1,K2,K3,K4,NsV,NsC,fN,nC,QsC,X0,X1]
  refine ⟨by omega, by omega, by omega, Cg hf ?_⟩
  simp only [vx,T,K5,J0,K6,K7,↓reduceIte,J1,J2,J3,J4,J5,J6,J7,J8,J9,reduceCtorEq,K1,K2,K3,K4,eV,QsC]
  exact Ve rfl
theorem nAdd0 (a b : Rat) (ha : qm a < 2 ^ 34) (hb : qm b < 2 ^ 34) : Pr Tryz.prog 39 [NV a, NV b] (.tup [NV (a + b), .one (.int .i64 0)]) := by
  have c := combine0 _ a b (a + b) ha hb (tAdd0 a b ha hb)
  refine pv T_ok mixed Tryz.func39 rfl (by decide) _ (by simp [Tryz.ntmps39]) ⟨[0, 1, 2, 3, 4, 5], []⟩ (by kernel_rfl) _ ?_
  show vc T _ _ (Option.get! Tryz.f39.body) _ _
  simp only [Tryz.f39,Tryz.ntmps39,Option.get!,iS,iM,eO,J1]
  simp only [vx,T,K5,J0,K6,K7,↓reduceIte,J1,J2,J3,J4,J5,J6,J7,J8,J9,reduceCtorEq,K1,K2,K3,K4,NV,eV,QsC]
  refine Cg c ?_
  simp only [vx,T,K5,J0,K6,K7,↓reduceIte,J1,J2,J3,J4,J5,J6,J7,J8,J9,reduceCtorEq,K1,K2,K3,K4,NV,eV,QsC]
  exact Ve rfl
theorem nMul0 (a b : Rat) {A B : Nat} (h1 : 1 ≤ A) (h2 : 1 ≤ B) (ha : qm a ≤ A) (hb : qm b ≤ B) (h : A + B < 2 ^ 34) : Pr Tryz.prog 38 [NV a, NV b] (.tup [NV (a * b), .one (.int .i64 0)]) := by
  have c := combine0 _ a b (a * b) (by omega) (by omega) (tMul0 a b h1 h2 ha hb h)
  refine pv T_ok mixed Tryz.func38 rfl (by decide) _ (by simp [Tryz.ntmps38]) ⟨[0, 1, 2, 3, 4, 5], []⟩ (by kernel_rfl) _ ?_
  show vc T _ _ (Option.get! Tryz.f38.body) _ _
  simp only [Tryz.f38,Tryz.ntmps38,Option.get!,iS,iM,eO,J1]
  simp only [vx,T,K5,J0,K6,K7,↓reduceIte,J1,J2,J3,J4,J5,J6,J7,J8,J9,reduceCtorEq,K1,K2,K3,K4,NV,eV,QsC]
  refine Cg c ?_
  simp only [vx,T,K5,J0,K6,K7,↓reduceIte,J1,J2,J3,J4,J5,J6,J7,J8,J9,reduceCtorEq,K1,K2,K3,K4,NV,eV,QsC]
  exact Ve rfl
end Go.Proofs.YtpogdlmhmafjlaaGreat
