/-
  The walk of the law EquationRing, and the variables of a polynomial.
  (Text 1 of 1; made by a program out of smaller texts.)
-/
import Derived.Test.YtckikgkdplkopaaGreatA1
set_option linter.unusedSimpArgs false
set_option linter.unusedVariables false
open Nat renaming reduceAdd → s_n1, reduceMul → s_n2, reduceSub → s_n3, reduceEqDiff → s_n4, reduceLT → s_n5, reduceLeDiff → s_n6, reduceBEq → s_n7, reduceDiv → s_n8, reduceMod → s_n9, reducePow → s_n0
open Int renaming reduceToNat → s_i1, reduceLE → s_i2, reduceLT → s_i3, reduceEq → s_i4, reducePow → s_i5, reduceSub → s_i6, reduceNeg → s_i7

/-! ## FnZq -/
namespace Go.Proofs.YtckikgkdplkopaaGreat
open Go Go.Eng

/-! ### The variables that occur. -/
def ddq (l : List Int) (i : Nat) : Bool := decide (i = 0) || decide (l.getD (i - 1) 0 ≠ l.getD i 0)
def ddl (l : List Int) (n : Nat) : List Int := ((List.range n).filter (ddq l)).map fun i => l.getD i 0
def varsL (p : List Mono) : List Int := p.flatMap fun m => m.2
def varsM (p : List Mono) : List Int := ddl (srtZ (varsL p)) (srtZ (varsL p)).length
theorem ddl_step (l : List Int) (n : Nat) : ddl l (n + 1) = ddl l n ++ (if ddq l n then [l.getD n 0] else []) := by
  unfold ddl
  rw [List.range_succ, List.filter_append, List.map_append]
  congr 1
  cases h : ddq l n
  · rw [List.filter_cons_of_neg (by simp [h])]; rfl
  · rw [List.filter_cons_of_pos h]; rfl
theorem ddl_length (l : List Int) (n : Nat) : (ddl l n).length ≤ n := by
  unfold ddl
  rw [List.length_map]
  exact Nat.le_trans (List.length_filter_le _ _) (by simp)
theorem varsL_length {p : List Mono} {n d B : Nat} (h : PB p n d B) : (varsL p).length ≤ n * d := by
  have : ∀ l : List Mono, (∀ m ∈ l, m.2.length ≤ d) → (varsL l).length ≤ l.length * d := by
    intro l hl
    induction l with
    | nil => simp [varsL]
    | cons x r ih =>
      have e : varsL (x :: r) = x.2 ++ varsL r := by unfold varsL; rw [List.flatMap_cons]
      have h1 := ih fun m hm => hl m (by simp [hm])
      have h3 := hl x (by simp)
      rw [e, List.length_append, List.length_cons, Nat.add_mul]
      omega
  exact Nat.le_trans (this p fun m hm => (h.m m hm).2.1) (Nat.mul_le_mul_right _ h.n)

set_option maxHeartbeats 4000000 in
set_option maxRecDepth 10000 in
theorem rVars_spec {p : List Mono} {n d B : Nat} (hp : PB p n d B) (hd : n * d < 2 ^ 30) (hn : n < 2 ^ 30) (hd1 : d < 2 ^ 30) : PureCalls Tryz.prog 17 [PV p] (.one (.ints .i64 (varsM p))) := by
  have hpl := hp.n
  have hle : ∀ i, i ≤ p.length → (varsL (p.take i)).length ≤ i * d := fun i hi => by
    have h := varsL_length (p := p.take i) (n := i) (d := d) (B := B) ⟨by rw [List.length_take]; omega, fun m hm => hp.m m (List.mem_of_mem_take hm)⟩
    exact h
  refine pure_of_vc T_ok mixed Tryz.func17 rfl (by decide) _ (by simp [Tryz.ntmps17]) ⟨[0, 2, 3, 4, 5, 6, 10, 25, 41], []⟩ (by kernel_rfl) _ ?_
  show vc T Tryz.prog ⟨[0, 2, 3, 4, 5, 6, 10, 25, 41], []⟩ (Option.get! Tryz.f17.body) _ _
  simp only [Tryz.f17, Tryz.ntmps17, Option.get!, initSt, initM, envOf, Nat.reduceAdd]
  simp only [vx, T, s_i5, s_n0, s_i6, s_i7, ↓reduceIte, s_n1, s_n2, s_n3, s_n4, s_n5, s_n6, s_n7, s_n8, s_n9, reduceCtorEq, s_i1, s_i2, s_i3, s_i4, PV, PC]
  refine LoopK.go (fun y : {i : Nat // i ≤ p.length} => ⟨[(0, PV p), (2, .one .nil), (3, .one (.own 1 1 0 (varsL (p.take y.1)).length)), (4, .one (.int .i64 y.1))], [(1, ⟨.ints 3 .i64 (varsL (p.take y.1)), true⟩)], 2, 50⟩) (fun y => p.length - y.1) ⟨0, Nat.zero_le _⟩ ?_ (fun ⟨i, hi⟩ => ?_)
  · refine Sub.auto ?_; simp only [rx, envRen, vRen, cRen, lRen, ownRen, bRen, apartRen, emptyBk, ren, ↓reduceIte, s_n1, s_n2, s_n3, s_n4, s_n5, s_n6, s_n7, s_n8, s_n9, reduceCtorEq, s_i1, s_i2, s_i3, s_i4, autoR, autoOne, Int.natCast_add, Int.natCast_one, Int.natCast_zero, PV, PC, varsL]
  have h0 := hle i hi
  simp only [vx, T, s_i5, s_n0, s_i6, s_i7, ↓reduceIte, s_n1, s_n2, s_n3, s_n4, s_n5, s_n6, s_n7, s_n8, s_n9, reduceCtorEq, s_i1, s_i2, s_i3, s_i4, PV, PC]
  refine ⟨fun h1 => Later.go ?_, fun h1 => Later.go ?_⟩
  · have hil : i < p.length := by omega
    have i1 : IntKind.i64.wrap ((i : Int) + 1) = ((i + 1 : Nat) : Int) := by rw [IntWalk.i64_in _ (by omega)]; omega
    obtain ⟨a, ha⟩ : ∃ a, a = p.getD i default := ⟨_, rfl⟩
    have hpi := hp.get hil
    have hstep : varsL (p.take (i + 1)) = varsL (p.take i) ++ (p.getD i default).2 := take_flatMap_step (fun m : Mono => m.2) hil
    rw [← ha] at hpi hstep
    have hid : (i + 1) * d ≤ n * d := Nat.mul_le_mul_right _ (by omega)
    rw [Nat.add_mul] at hid
    simp only [vx, T, s_i5, s_n0, s_i6, s_i7, ↓reduceIte, s_n1, s_n2, s_n3, s_n4, s_n5, s_n6, s_n7, s_n8, s_n9, reduceCtorEq, s_i1, s_i2, s_i3, s_i4, PV, PC, ← ha, mC]
    simp only [i1]
    refine ⟨by omega, by omega, loopQ.go ⟨i + 1, by omega⟩ ?_ ?_⟩
    · refine Sub.auto ?_; simp only [rx, envRen, vRen, cRen, lRen, ownRen, bRen, apartRen, emptyBk, ren, ↓reduceIte, s_n1, s_n2, s_n3, s_n4, s_n5, s_n6, s_n7, s_n8, s_n9, reduceCtorEq, s_i1, s_i2, s_i3, s_i4, autoR, autoOne, Int.natCast_add, Int.natCast_one, Int.natCast_zero, PV, PC, hstep]
    · simp only; omega
  · have hil : i = p.length := by omega
    subst hil
    have hid : p.length * d ≤ n * d := Nat.mul_le_mul_right _ hpl
    rw [List.take_length] at h0 ⊢
    simp only [vx, T, s_i5, s_n0, s_i6, s_i7, ↓reduceIte, s_n1, s_n2, s_n3, s_n4, s_n5, s_n6, s_n7, s_n8, s_n9, reduceCtorEq, s_i1, s_i2, s_i3, s_i4, PV, PC]
    refine CallK.go (sorted_spec (varsL p) (by omega)) ?_
    obtain ⟨l, hl⟩ : ∃ l, l = srtZ (varsL p) := ⟨_, rfl⟩
    have hll : l.length = (varsL p).length := by rw [hl, srtZ_length]
    have hvm : varsM p = ddl l l.length := by unfold varsM; rw [← hl]
    rw [← hl, hvm]
    simp only [vx, T, s_i5, s_n0, s_i6, s_i7, ↓reduceIte, s_n1, s_n2, s_n3, s_n4, s_n5, s_n6, s_n7, s_n8, s_n9, reduceCtorEq, s_i1, s_i2, s_i3, s_i4, PV, PC]
    refine LoopK.go (fun y : {i : Nat // i ≤ l.length} => ⟨[(2, .one .nil), (3, .one (.ints .i64 l)), (5, .one (.own 2 1 0 (ddl l y.1).length)), (6, .one (.int .i64 y.1))], [(2, ⟨.ints 3 .i64 (ddl l y.1), true⟩)], 3, 50⟩) (fun y => l.length - y.1) ⟨0, Nat.zero_le _⟩ ?_ (fun ⟨i, hi⟩ => ?_)
    · refine Sub.auto ?_; simp only [rx, envRen, vRen, cRen, lRen, ownRen, bRen, apartRen, emptyBk, ren, ↓reduceIte, s_n1, s_n2, s_n3, s_n4, s_n5, s_n6, s_n7, s_n8, s_n9, reduceCtorEq, s_i1, s_i2, s_i3, s_i4, autoR, autoOne, Int.natCast_add, Int.natCast_one, Int.natCast_zero, ddl]
      exact ⟨rfl, rfl⟩
    have hdl := ddl_length l i
    simp only [vx, T, s_i5, s_n0, s_i6, s_i7, ↓reduceIte, s_n1, s_n2, s_n3, s_n4, s_n5, s_n6, s_n7, s_n8, s_n9, reduceCtorEq, s_i1, s_i2, s_i3, s_i4]
    refine ⟨fun h2 => Later.go ?_, fun h2 => Later.go ?_⟩
    · have i1 : IntKind.i64.wrap ((i : Int) + 1) = ((i + 1 : Nat) : Int) := by rw [IntWalk.i64_in _ (by omega)]; omega
      have hds := ddl_step l i
      simp only [vx, T, s_i5, s_n0, s_i6, s_i7, ↓reduceIte, s_n1, s_n2, s_n3, s_n4, s_n5, s_n6, s_n7, s_n8, s_n9, reduceCtorEq, s_i1, s_i2, s_i3, s_i4]
      refine ⟨fun h3 => Later.go ?_, fun h3 => Later.go ?_⟩
      · have hq : ddq l i = true := by unfold ddq; rw [decide_eq_true (by omega)]; rfl
        rw [hq, if_pos rfl] at hds
        simp only [vx, T, s_i5, s_n0, s_i6, s_i7, ↓reduceIte, s_n1, s_n2, s_n3, s_n4, s_n5, s_n6, s_n7, s_n8, s_n9, reduceCtorEq, s_i1, s_i2, s_i3, s_i4]
        simp only [i1]
        refine ⟨by omega, by omega, loopQ.go ⟨i + 1, by omega⟩ ?_ ?_⟩
        · refine Sub.auto ?_; simp only [rx, envRen, vRen, cRen, lRen, ownRen, bRen, apartRen, emptyBk, ren, ↓reduceIte, s_n1, s_n2, s_n3, s_n4, s_n5, s_n6, s_n7, s_n8, s_n9, reduceCtorEq, s_i1, s_i2, s_i3, s_i4, autoR, autoOne, Int.natCast_add, Int.natCast_one, Int.natCast_zero, hds]
        · simp only; omega
      · have j1 : IntKind.i64.wrap ((i : Int) - 1) = ((i - 1 : Nat) : Int) := by rw [IntWalk.i64_in _ (by omega)]; omega
        simp only [vx, T, s_i5, s_n0, s_i6, s_i7, ↓reduceIte, s_n1, s_n2, s_n3, s_n4, s_n5, s_n6, s_n7, s_n8, s_n9, reduceCtorEq, s_i1, s_i2, s_i3, s_i4, j1]
        refine ⟨by omega, by omega, ?_⟩
        refine ⟨fun h4 => Later.go ?_, fun h4 => Later.go ?_⟩
        · have hq : ddq l i = true := by unfold ddq; rw [decide_eq_true (p := l.getD (i - 1) 0 ≠ l.getD i 0) h4, Bool.or_true]
          rw [hq, if_pos rfl] at hds
          simp only [vx, T, s_i5, s_n0, s_i6, s_i7, ↓reduceIte, s_n1, s_n2, s_n3, s_n4, s_n5, s_n6, s_n7, s_n8, s_n9, reduceCtorEq, s_i1, s_i2, s_i3, s_i4]
          simp only [i1]
          refine ⟨by omega, by omega, loopQ.go ⟨i + 1, by omega⟩ ?_ ?_⟩
          · refine Sub.auto ?_; simp only [rx, envRen, vRen, cRen, lRen, ownRen, bRen, apartRen, emptyBk, ren, ↓reduceIte, s_n1, s_n2, s_n3, s_n4, s_n5, s_n6, s_n7, s_n8, s_n9, reduceCtorEq, s_i1, s_i2, s_i3, s_i4, autoR, autoOne, Int.natCast_add, Int.natCast_one, Int.natCast_zero, hds]
          · simp only; omega
        · have hq : ddq l i = false := by unfold ddq; rw [decide_eq_false (p := l.getD (i - 1) 0 ≠ l.getD i 0) (fun e => e h4), decide_eq_false (by omega)]; rfl
          rw [hq, if_neg (by simp), List.append_nil] at hds
          simp only [vx, T, s_i5, s_n0, s_i6, s_i7, ↓reduceIte, s_n1, s_n2, s_n3, s_n4, s_n5, s_n6, s_n7, s_n8, s_n9, reduceCtorEq, s_i1, s_i2, s_i3, s_i4]
          simp only [i1]
          refine loopQ.go ⟨i + 1, by omega⟩ ?_ ?_
          · refine Sub.auto ?_; simp only [rx, envRen, vRen, cRen, lRen, ownRen, bRen, apartRen, emptyBk, ren, ↓reduceIte, s_n1, s_n2, s_n3, s_n4, s_n5, s_n6, s_n7, s_n8, s_n9, reduceCtorEq, s_i1, s_i2, s_i3, s_i4, autoR, autoOne, Int.natCast_add, Int.natCast_one, Int.natCast_zero, hds]
          · simp only; omega
    · have hil : i = l.length := by omega
      subst hil
      simp only [vx, T, s_i5, s_n0, s_i6, s_i7, ↓reduceIte, s_n1, s_n2, s_n3, s_n4, s_n5, s_n6, s_n7, s_n8, s_n9, reduceCtorEq, s_i1, s_i2, s_i3, s_i4]
      exact VLe.of_eq rfl

/-! ### EquationRing. -/
set_option maxHeartbeats 8000000 in
set_option maxRecDepth 10000 in
theorem lawRing_spec (p q s : List Raw) (hp : RasOk p) (hq : RasOk q) (hs : RasOk s) : PureCalls Tryz.prog 4 [RV p, RV q, RV s] (.one (.bool true)) := by
  have hps : ∀ x ∈ [p, q, s], RasOk x := fun x hx => by
    rcases List.mem_cons.1 hx with rfl | hx
    · exact hp
    · rcases List.mem_cons.1 hx with rfl | hx
      · exact hq
      · obtain rfl := List.mem_singleton.1 hx; exact hs
  refine pure_of_vc T_ok mixed Tryz.func4 rfl (by decide) _ (by simp [Tryz.ntmps4]) ⟨[0, 1, 2, 6, 8, 9, 19, 44, 46, 47, 48, 49, 70], []⟩ (by kernel_rfl) _ ?_
  show vc T Tryz.prog ⟨[0, 1, 2, 6, 8, 9, 19, 44, 46, 47, 48, 49, 70], []⟩ (Option.get! Tryz.f4.body) _ _
  simp only [Tryz.f4, Tryz.ntmps4, Option.get!, initSt, initM, envOf, Nat.reduceAdd]
  simp only [vx, T, s_i5, s_n0, s_i6, s_i7, ↓reduceIte, s_n1, s_n2, s_n3, s_n4, s_n5, s_n6, s_n7, s_n8, s_n9, reduceCtorEq, s_i1, s_i2, s_i3, s_i4]
  refine CallK.go awake_spec ?_
  simp only [vx, T, s_i5, s_n0, s_i6, s_i7, ↓reduceIte, s_n1, s_n2, s_n3, s_n4, s_n5, s_n6, s_n7, s_n8, s_n9, reduceCtorEq, s_i1, s_i2, s_i3, s_i4, RV, RC]
  refine CallK.go ((right_spec [p, q, s] (by simp) hps).arg1c (lit3 p q s)) ?_
  simp only [vx, T, s_i5, s_n0, s_i6, s_i7, ↓reduceIte, s_n1, s_n2, s_n3, s_n4, s_n5, s_n6, s_n7, s_n8, s_n9, reduceCtorEq, s_i1, s_i2, s_i3, s_i4]
  refine ⟨fun h1 => Later.go ?_, fun h1 => Later.go ?_⟩
  · simp only [vx, T, s_i5, s_n0, s_i6, s_i7, ↓reduceIte, s_n1, s_n2, s_n3, s_n4, s_n5, s_n6, s_n7, s_n8, s_n9, reduceCtorEq, s_i1, s_i2, s_i3, s_i4]
    refine CallK.go awake_spec ?_
    simp only [vx, T, s_i5, s_n0, s_i6, s_i7, ↓reduceIte, s_n1, s_n2, s_n3, s_n4, s_n5, s_n6, s_n7, s_n8, s_n9, reduceCtorEq, s_i1, s_i2, s_i3, s_i4]
    exact VLe.of_eq rfl
  · have h1 : rightB [p, q, s] = true := by simpa using h1
    obtain ⟨a, ga, la, _⟩ := rightB_get h1 hps (i := 0) (by simp)
    obtain ⟨b, gb, lb, _⟩ := rightB_get h1 hps (i := 1) (by simp)
    obtain ⟨c, gc, lc, _⟩ := rightB_get h1 hps (i := 2) (by simp)
    have la : CLe (RC p) (PC a) := la
    have lb : CLe (RC q) (PC b) := lb
    have lc : CLe (RC s) (PC c) := lc
    have pa := ga.pb
    have pb := gb.pb
    have pc := gc.pb
    have two : ∀ {x y : C} {x' y' : C} f r, CLe x x' → CLe y y' → PureCalls Tryz.prog f [.one x', .one y'] r → PureCalls Tryz.prog f [.one x, .one y] r := fun f r hx hy h => h.arg2c hx hy
    have c1 := two _ _ la lb (iMulP_spec pa pb (by decide) (by decide) (by decide) (by decide) (by decide))
    have c2 := two _ _ lb la (iMulP_spec pb pa (by decide) (by decide) (by decide) (by decide) (by decide))
    have mab := pa.mulM pb
    have c3 := same_true (mulM_comm a b) (mab.pok (by decide) (by decide) (by decide))
    have c4 := two _ _ lb lc (iAddP_spec pb pc (by decide) (by decide) (by decide))
    have sbc := (pb.append pc).norM
    have c5 := two _ _ la (CLe.refl _) (iMulP_spec pa sbc (by decide) (by decide) (by decide) (by decide) (by decide))
    have c6 := two _ _ la lc (iMulP_spec pa pc (by decide) (by decide) (by decide) (by decide) (by decide))
    have c7 := iAddP_spec mab (pa.mulM pc) (by decide) (by decide) (by decide)
    have c8 := same_true (mulM_add a b c) ((pa.mulM sbc).pok (by decide) (by decide) (by decide))
    have c9 := (rVars_spec pc (by decide) (by decide) (by decide)).arg1c lc
    obtain ⟨vs, hvs⟩ : ∃ vs, vs = varsM c := ⟨_, rfl⟩
    have hvl : vs.length < 2 ^ 30 := by
      rw [hvs]
      unfold varsM
      have h1 := ddl_length (srtZ (varsL c)) (srtZ (varsL c)).length
      have h2 := varsL_length pc
      have h3 := srtZ_length (varsL c)
      omega
    rw [← hvs] at c9
    simp only [vx, T, s_i5, s_n0, s_i6, s_i7, ↓reduceIte, s_n1, s_n2, s_n3, s_n4, s_n5, s_n6, s_n7, s_n8, s_n9, reduceCtorEq, s_i1, s_i2, s_i3, s_i4, RV, RC]
    refine CallK.go c1 ?_
    simp only [vx, T, s_i5, s_n0, s_i6, s_i7, ↓reduceIte, s_n1, s_n2, s_n3, s_n4, s_n5, s_n6, s_n7, s_n8, s_n9, reduceCtorEq, s_i1, s_i2, s_i3, s_i4, PV, PC]
    refine CallK.go c2 ?_
    simp only [vx, T, s_i5, s_n0, s_i6, s_i7, ↓reduceIte, s_n1, s_n2, s_n3, s_n4, s_n5, s_n6, s_n7, s_n8, s_n9, reduceCtorEq, s_i1, s_i2, s_i3, s_i4, PV, PC]
    refine CallK.go c3 ?_
    simp only [vx, T, s_i5, s_n0, s_i6, s_i7, ↓reduceIte, s_n1, s_n2, s_n3, s_n4, s_n5, s_n6, s_n7, s_n8, s_n9, reduceCtorEq, s_i1, s_i2, s_i3, s_i4, PV, PC]
    refine CallK.go c4 ?_
    simp only [vx, T, s_i5, s_n0, s_i6, s_i7, ↓reduceIte, s_n1, s_n2, s_n3, s_n4, s_n5, s_n6, s_n7, s_n8, s_n9, reduceCtorEq, s_i1, s_i2, s_i3, s_i4, PV, PC]
    refine CallK.go c5 ?_
    simp only [vx, T, s_i5, s_n0, s_i6, s_i7, ↓reduceIte, s_n1, s_n2, s_n3, s_n4, s_n5, s_n6, s_n7, s_n8, s_n9, reduceCtorEq, s_i1, s_i2, s_i3, s_i4, PV, PC]
    refine CallK.go c1 ?_
    simp only [vx, T, s_i5, s_n0, s_i6, s_i7, ↓reduceIte, s_n1, s_n2, s_n3, s_n4, s_n5, s_n6, s_n7, s_n8, s_n9, reduceCtorEq, s_i1, s_i2, s_i3, s_i4, PV, PC]
    refine CallK.go c6 ?_
    simp only [vx, T, s_i5, s_n0, s_i6, s_i7, ↓reduceIte, s_n1, s_n2, s_n3, s_n4, s_n5, s_n6, s_n7, s_n8, s_n9, reduceCtorEq, s_i1, s_i2, s_i3, s_i4, PV, PC]
    refine CallK.go c7 ?_
    simp only [vx, T, s_i5, s_n0, s_i6, s_i7, ↓reduceIte, s_n1, s_n2, s_n3, s_n4, s_n5, s_n6, s_n7, s_n8, s_n9, reduceCtorEq, s_i1, s_i2, s_i3, s_i4, PV, PC]
    refine CallK.go c8 ?_
    simp only [vx, T, s_i5, s_n0, s_i6, s_i7, ↓reduceIte, s_n1, s_n2, s_n3, s_n4, s_n5, s_n6, s_n7, s_n8, s_n9, reduceCtorEq, s_i1, s_i2, s_i3, s_i4, PV, PC]
    refine CallK.go c9 ?_
    simp only [vx, T, s_i5, s_n0, s_i6, s_i7, ↓reduceIte, s_n1, s_n2, s_n3, s_n4, s_n5, s_n6, s_n7, s_n8, s_n9, reduceCtorEq, s_i1, s_i2, s_i3, s_i4]
    refine LoopK.go (fun y : {i : Nat // i ≤ vs.length} => ⟨[(0, .one (RC p)), (1, .one (RC q)), (46, .one (.ints .i64 vs)), (47, .one (.int .i64 vs.length)), (48, .one (.int .i64 y.1))], [], 1, 72⟩) (fun y => vs.length - y.1) ⟨0, Nat.zero_le _⟩ ?_ (fun ⟨i, hi⟩ => ?_)
    · refine Sub.auto ?_; simp only [rx, envRen, vRen, cRen, lRen, ownRen, bRen, apartRen, emptyBk, ren, ↓reduceIte, s_n1, s_n2, s_n3, s_n4, s_n5, s_n6, s_n7, s_n8, s_n9, reduceCtorEq, s_i1, s_i2, s_i3, s_i4, autoR, autoOne, Int.natCast_add, Int.natCast_one, Int.natCast_zero, RC]
    have i1 : IntKind.i64.wrap ((i : Int) + 1) = ((i + 1 : Nat) : Int) := by rw [IntWalk.i64_in _ (by omega)]; omega
    simp only [vx, T, s_i5, s_n0, s_i6, s_i7, ↓reduceIte, s_n1, s_n2, s_n3, s_n4, s_n5, s_n6, s_n7, s_n8, s_n9, reduceCtorEq, s_i1, s_i2, s_i3, s_i4, RC]
    refine ⟨fun h2 => Later.go ?_, fun h2 => Later.go ?_⟩
    · obtain ⟨v, hv⟩ : ∃ v, v = vs.getD i 0 := ⟨_, rfl⟩
      have d0 := iDer_spec v mab (by decide) (by decide) (by decide)
      have d1 := (iDer_spec v pa (by decide) (by decide) (by decide)).args (xs := [.one (RC p), .one (.int .i64 v)]) ⟨.cell la, .refl _, trivial⟩
      have d2 := (iDer_spec v pb (by decide) (by decide) (by decide)).args (xs := [.one (RC q), .one (.int .i64 v)]) ⟨.cell lb, .refl _, trivial⟩
      have da := (pb_derP pa (by decide) v).norM
      have db := (pb_derP pb (by decide) v).norM
      have d3 := two _ _ (CLe.refl _) lb (iMulP_spec da pb (by decide) (by decide) (by decide) (by decide) (by decide))
      have d4 := two _ _ la (CLe.refl _) (iMulP_spec pa db (by decide) (by decide) (by decide) (by decide) (by decide))
      have d5 := iAddP_spec (da.mulM pb) (pa.mulM db) (by decide) (by decide) (by decide)
      have d6 := same_true (derM_mul a b v) ((pb_derP mab (by decide) v).norM.pok (by decide) (by decide) (by decide))
      simp only [vx, T, s_i5, s_n0, s_i6, s_i7, ↓reduceIte, s_n1, s_n2, s_n3, s_n4, s_n5, s_n6, s_n7, s_n8, s_n9, reduceCtorEq, s_i1, s_i2, s_i3, s_i4, RC, ← hv]
      refine ⟨by omega, CallK.go c1 ?_⟩
      simp only [vx, T, s_i5, s_n0, s_i6, s_i7, ↓reduceIte, s_n1, s_n2, s_n3, s_n4, s_n5, s_n6, s_n7, s_n8, s_n9, reduceCtorEq, s_i1, s_i2, s_i3, s_i4, PV, PC]
      refine CallK.go d0 ?_
      simp only [vx, T, s_i5, s_n0, s_i6, s_i7, ↓reduceIte, s_n1, s_n2, s_n3, s_n4, s_n5, s_n6, s_n7, s_n8, s_n9, reduceCtorEq, s_i1, s_i2, s_i3, s_i4, PV, PC]
      refine CallK.go d1 ?_
      simp only [vx, T, s_i5, s_n0, s_i6, s_i7, ↓reduceIte, s_n1, s_n2, s_n3, s_n4, s_n5, s_n6, s_n7, s_n8, s_n9, reduceCtorEq, s_i1, s_i2, s_i3, s_i4, PV, PC]
      refine CallK.go d3 ?_
      simp only [vx, T, s_i5, s_n0, s_i6, s_i7, ↓reduceIte, s_n1, s_n2, s_n3, s_n4, s_n5, s_n6, s_n7, s_n8, s_n9, reduceCtorEq, s_i1, s_i2, s_i3, s_i4, PV, PC]
      refine CallK.go d2 ?_
      simp only [vx, T, s_i5, s_n0, s_i6, s_i7, ↓reduceIte, s_n1, s_n2, s_n3, s_n4, s_n5, s_n6, s_n7, s_n8, s_n9, reduceCtorEq, s_i1, s_i2, s_i3, s_i4, PV, PC]
      refine CallK.go d4 ?_
      simp only [vx, T, s_i5, s_n0, s_i6, s_i7, ↓reduceIte, s_n1, s_n2, s_n3, s_n4, s_n5, s_n6, s_n7, s_n8, s_n9, reduceCtorEq, s_i1, s_i2, s_i3, s_i4, PV, PC]
      refine CallK.go d5 ?_
      simp only [vx, T, s_i5, s_n0, s_i6, s_i7, ↓reduceIte, s_n1, s_n2, s_n3, s_n4, s_n5, s_n6, s_n7, s_n8, s_n9, reduceCtorEq, s_i1, s_i2, s_i3, s_i4, PV, PC]
      refine CallK.go d6 ?_
      simp only [vx, T, s_i5, s_n0, s_i6, s_i7, ↓reduceIte, s_n1, s_n2, s_n3, s_n4, s_n5, s_n6, s_n7, s_n8, s_n9, reduceCtorEq, s_i1, s_i2, s_i3, s_i4, PV, PC]
      simp only [i1]
      refine loopQ.go ⟨i + 1, by omega⟩ ?_ ?_
      · refine Sub.auto ?_; simp only [rx, envRen, vRen, cRen, lRen, ownRen, bRen, apartRen, emptyBk, ren, ↓reduceIte, s_n1, s_n2, s_n3, s_n4, s_n5, s_n6, s_n7, s_n8, s_n9, reduceCtorEq, s_i1, s_i2, s_i3, s_i4, autoR, autoOne, Int.natCast_add, Int.natCast_one, Int.natCast_zero, RC]
      · simp only; omega
    · simp only [vx, T, s_i5, s_n0, s_i6, s_i7, ↓reduceIte, s_n1, s_n2, s_n3, s_n4, s_n5, s_n6, s_n7, s_n8, s_n9, reduceCtorEq, s_i1, s_i2, s_i3, s_i4]
      exact VLe.of_eq rfl

end Go.Proofs.YtckikgkdplkopaaGreat
