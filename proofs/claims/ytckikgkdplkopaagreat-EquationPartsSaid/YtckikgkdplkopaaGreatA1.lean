/-
  The walk of the law EquationArithmetic, and what its argument must be.
  (Text 1 of 1; made by a program out of smaller texts.)
-/
import Derived.Test.YtckikgkdplkopaaGreatP8
set_option linter.unusedSimpArgs false
set_option linter.unusedVariables false
open Nat renaming reduceAdd → s_n1, reduceMul → s_n2, reduceSub → s_n3, reduceEqDiff → s_n4, reduceLT → s_n5, reduceLeDiff → s_n6, reduceBEq → s_n7, reduceDiv → s_n8, reduceMod → s_n9, reducePow → s_n0
open Int renaming reduceToNat → s_i1, reduceLE → s_i2, reduceLT → s_i3, reduceEq → s_i4, reducePow → s_i5, reduceSub → s_i6, reduceNeg → s_i7

/-! ## FnZp -/
namespace Go.Proofs.YtckikgkdplkopaaGreat
open Go Go.Eng

/-! ### Polynomials in normal form, out of what came in. -/
theorem raw_mono {m : Raw} (h : okM m = true) (ha : ascB m.vs = true) (hi : InI m.vs) (hx : m.xs.length ≤ 4) (hy : m.ys.length ≤ 4) (hv : m.vs.length ≤ 4) :
    ∃ a : Mono, (∀ j, j < 5 → rC m j = mC a j) ∧ a.2 = m.vs ∧ a.1 ≠ 0 ∧ (qm a.1 ≤ 4 ∧ a.2.length ≤ 4 ∧ In63 a.2) ∧ a.2.Pairwise (· ≤ ·) := by
  unfold okM at h
  simp only [Bool.and_eq_true, decide_eq_true_eq] at h
  obtain ⟨q, h1, h2, h3, h4⟩ := okQ_ex h.1
  have hl1 : (zm q.num).length ≤ 4 := by rw [← h2]; exact hx
  have hl2 : (zm (q.den : Int)).length ≤ 4 := by rw [← h4]; exact hy
  rw [zm_length] at hl1 hl2
  refine ⟨(q, m.vs), fun j hj => ?_, rfl, fun e => ?_, ⟨?_, hv, ascB_in63 hi ha⟩, ?_⟩
  · match j, hj with
    | 0, _ => show C.bool m.s = _; rw [h1]; rfl
    | 1, _ => show C.ints .u32 m.xs = _; rw [h2]; rfl
    | 2, _ => show C.bool m.t = _; rw [h3]; rfl
    | 3, _ => show C.ints .u32 m.ys = _; rw [h4]; rfl
    | 4, _ => rfl
  · have e : q = 0 := e
    refine h.2 ?_
    rw [h2, e]
    decide +kernel
  · show qm q ≤ 4
    unfold qm
    have : zn (q.den : Int) = nl q.den := rfl
    omega
  · rw [List.pairwise_iff_getElem]
    intro i j hi' hj hij
    have hi' : i < m.vs.length := hi'
    have hj : j < m.vs.length := hj
    -- ascending, step by step
    have step : ∀ k, k + 1 < m.vs.length → m.vs.getD k 0 ≤ m.vs.getD (k + 1) 0 := by
      intro k hk
      have := all_range.1 ha (k + 1) hk
      simpa using (Bool.and_eq_true _ _ |>.mp this).2
    have all : ∀ n k, k + n < m.vs.length → m.vs.getD k 0 ≤ m.vs.getD (k + n) 0 := by
      intro n
      induction n with
      | zero => intro k _; exact Int.le_refl _
      | succ n ih =>
        intro k hk
        exact Int.le_trans (ih k (by omega)) (step (k + n) (by omega))
    have := all (j - i) i (by omega)
    rw [show i + (j - i) = j by omega, List.getD_eq_getElem?_getD, List.getD_eq_getElem?_getD, List.getElem?_eq_getElem hi', List.getElem?_eq_getElem hj] at this
    exact this

/-- What 'right' asks of one polynomial, and what it gives. -/
structure GoodP (l : List Mono) : Prop where
  pb : PB l 8 4 4
  can : Go.Eng.Can l
  asc : VAsc l

theorem raw_poly {p : List Raw} (hp : RasOk p) (hs : smallB 8 4 p = true) (hv : vR p = true) : ∃ l : List Mono, GoodP l ∧ CLe (RC p) (PC l) ∧ l.length = p.length := by
  obtain ⟨hok, hlen, hsm⟩ := small_ok (by decide) (by decide) hp hs
  have hg : ∀ i, i < p.length → okM (p.getD i default) = true ∧ ascB (p.getD i default).vs = true ∧ (i = 0 ∨ cmpV (p.getD (i - 1) default).vs (p.getD i default).vs < 0) := by
    intro i hi
    have := all_range.1 hv i hi
    unfold gB at this
    simpa using this
  have hmem : ∀ i, i < p.length → p.getD i default ∈ p := fun i hi => by rw [getD_eq hi]; exact List.getElem_mem hi
  obtain ⟨g, hgm⟩ := Classical.axiomOfChoice (r := fun (i : Nat) (a : Mono) => i < p.length → (∀ j, j < 5 → rC (p.getD i default) j = mC a j) ∧ a.2 = (p.getD i default).vs ∧ a.1 ≠ 0 ∧ (qm a.1 ≤ 4 ∧ a.2.length ≤ 4 ∧ In63 a.2) ∧ a.2.Pairwise (· ≤ ·)) (fun i => by
    by_cases hi : i < p.length
    · have h1 := hsm _ (hmem i hi)
      obtain ⟨a, h⟩ := raw_mono (hg i hi).1 (hg i hi).2.1 (hp _ (hmem i hi)).v h1.2.1 h1.2.2 h1.1
      exact ⟨a, fun _ => h⟩
    · exact ⟨default, fun h => absurd h hi⟩)
  have hget : ∀ i, i < p.length → ((List.range p.length).map g).getD i default = g i := by
    intro i hi
    rw [List.getD_eq_getElem?_getD, List.getElem?_map, List.getElem?_range hi]; rfl
  have hin : ∀ m ∈ (List.range p.length).map g, ∃ i, i < p.length ∧ g i = m := by
    intro m hm
    obtain ⟨i, hi, e⟩ := List.mem_map.1 hm
    exact ⟨i, List.mem_range.1 hi, e⟩
  refine ⟨(List.range p.length).map g, ⟨⟨by simpa using hlen, fun m hm => ?_⟩, ⟨?_, fun m hm => ?_⟩, fun m hm => ?_⟩, CLe.rows (by simp) fun i j hi hj => CLe.of_eq ?_, by simp⟩
  · obtain ⟨i, hi, rfl⟩ := hin m hm
    exact (hgm i hi).2.2.2.1
  · have step : ∀ k, k + 1 < p.length → cmpV (g k).2 (g (k + 1)).2 < 0 := by
      intro k hk
      rcases (hg (k + 1) hk).2.2 with h | h
      · omega
      · rw [(hgm k (by omega)).2.1, (hgm (k + 1) hk).2.1]; exact h
    have all : ∀ n k, k + n + 1 < p.length → cmpV (g k).2 (g (k + n + 1)).2 < 0 := by
      intro n
      induction n with
      | zero => intro k hk; exact step k hk
      | succ n ih =>
        intro k hk
        exact cmpV_lt_trans (ih k (by omega)) (step (k + n + 1) (by omega))
    unfold Asc
    rw [List.pairwise_iff_getElem]
    intro i j hi hj hij
    simp only [List.length_map, List.length_range] at hi hj
    simp only [List.getElem_map, List.getElem_range]
    have := all (j - i - 1) i (by omega)
    rwa [show i + (j - i - 1) + 1 = j by omega] at this
  · obtain ⟨i, hi, rfl⟩ := hin m hm
    exact (hgm i hi).2.2.1
  · obtain ⟨i, hi, rfl⟩ := hin m hm
    exact (hgm i hi).2.2.2.2
  · rw [hget i hi]
    exact (hgm i hi).1 j hj

/-- The tests of 'right'. -/
def rB (p : List Raw) : Bool := smallB 8 4 p && vR p
def rightB (ps : List (List Raw)) : Bool := (List.range ps.length).all fun i => rB (ps.getD i default)

set_option maxHeartbeats 4000000 in
set_option maxRecDepth 10000 in
theorem right_spec (ps : List (List Raw)) (hl : ps.length < 2 ^ 30) (hp : ∀ p ∈ ps, RasOk p) : PureCalls Tryz.prog 9 [.one (.rows 1 ps.length (fun i _ => RC (ps.getD i default)))] (.one (.bool (rightB ps))) := by
  have hr : rightB ps = (List.range ps.length).all fun i => rB (ps.getD i default) := rfl
  refine pure_of_vc T_ok mixed Tryz.func9 rfl (by decide) _ (by simp [Tryz.ntmps9]) ⟨[0, 2, 4, 5, 6, 7, 8, 18], []⟩ (by kernel_rfl) _ ?_
  show vc T Tryz.prog ⟨[0, 2, 4, 5, 6, 7, 8, 18], []⟩ (Option.get! Tryz.f9.body) _ _
  simp only [Tryz.f9, Tryz.ntmps9, Option.get!, initSt, initM, envOf, Nat.reduceAdd]
  simp only [vx, T, s_i5, s_n0, s_i6, s_i7, ↓reduceIte, s_n1, s_n2, s_n3, s_n4, s_n5, s_n6, s_n7, s_n8, s_n9, reduceCtorEq, s_i1, s_i2, s_i3, s_i4]
  refine LoopK.go (fun y : {i : Nat // i ≤ ps.length ∧ ∀ j, j < i → rB (ps.getD j default) = true} => ⟨[(5, .one (.rows 1 ps.length (fun i _ => RC (ps.getD i default)))), (6, .one (.int .i64 ps.length)), (7, .one (.int .i64 y.1))], [], 1, 20⟩) (fun y => ps.length - y.1) ⟨0, Nat.zero_le _, fun j h => absurd h (Nat.not_lt_zero _)⟩ ?_ (fun ⟨i, hi, he⟩ => ?_)
  · refine Sub.auto ?_; simp only [rx, envRen, vRen, cRen, lRen, ownRen, bRen, apartRen, emptyBk, ren, ↓reduceIte, s_n1, s_n2, s_n3, s_n4, s_n5, s_n6, s_n7, s_n8, s_n9, reduceCtorEq, s_i1, s_i2, s_i3, s_i4, autoR, autoOne, Int.natCast_add, Int.natCast_one, Int.natCast_zero]
  simp only [vx, T, s_i5, s_n0, s_i6, s_i7, ↓reduceIte, s_n1, s_n2, s_n3, s_n4, s_n5, s_n6, s_n7, s_n8, s_n9, reduceCtorEq, s_i1, s_i2, s_i3, s_i4]
  refine ⟨fun h1 => Later.go ?_, fun h1 => Later.go ?_⟩
  · have hip : i < ps.length := by omega
    have i1 : IntKind.i64.wrap ((i : Int) + 1) = ((i + 1 : Nat) : Int) := by rw [IntWalk.i64_in _ (by omega)]; omega
    obtain ⟨p, hpi⟩ : ∃ p, p = ps.getD i default := ⟨_, rfl⟩
    have hpo : RasOk p := hp p (by rw [hpi, getD_eq hip]; exact List.getElem_mem hip)
    have hbad : rB p = false → rightB ps = false := fun h => by rw [hr]; exact all_range_f hip (by rw [← hpi]; exact h)
    simp only [vx, T, s_i5, s_n0, s_i6, s_i7, ↓reduceIte, s_n1, s_n2, s_n3, s_n4, s_n5, s_n6, s_n7, s_n8, s_n9, reduceCtorEq, s_i1, s_i2, s_i3, s_i4, RC, ← hpi]
    refine ⟨by omega, CallK.go (SmallA_spec p 8 4 (by decide) (by decide)) ?_⟩
    simp only [vx, T, s_i5, s_n0, s_i6, s_i7, ↓reduceIte, s_n1, s_n2, s_n3, s_n4, s_n5, s_n6, s_n7, s_n8, s_n9, reduceCtorEq, s_i1, s_i2, s_i3, s_i4]
    refine ⟨fun h2 => Later.go ?_, fun h2 => Later.go ?_⟩
    · have h2 : smallB 8 4 p = false := by simpa using h2
      simp only [vx, T, s_i5, s_n0, s_i6, s_i7, ↓reduceIte, s_n1, s_n2, s_n3, s_n4, s_n5, s_n6, s_n7, s_n8, s_n9, reduceCtorEq, s_i1, s_i2, s_i3, s_i4]
      exact vb (hbad (by unfold rB; rw [h2]; rfl)).symm
    · have h2 : smallB 8 4 p = true := by simpa using h2
      obtain ⟨hok, _, _⟩ := small_ok (by decide) (by decide) hpo h2
      simp only [vx, T, s_i5, s_n0, s_i6, s_i7, ↓reduceIte, s_n1, s_n2, s_n3, s_n4, s_n5, s_n6, s_n7, s_n8, s_n9, reduceCtorEq, s_i1, s_i2, s_i3, s_i4]
      refine CallK.go (rPValid_spec p hok) ?_
      simp only [vx, T, s_i5, s_n0, s_i6, s_i7, ↓reduceIte, s_n1, s_n2, s_n3, s_n4, s_n5, s_n6, s_n7, s_n8, s_n9, reduceCtorEq, s_i1, s_i2, s_i3, s_i4]
      refine ⟨fun h3 => Later.go ?_, fun h3 => Later.go ?_⟩
      · have h3 : vR p = false := by simpa using h3
        simp only [vx, T, s_i5, s_n0, s_i6, s_i7, ↓reduceIte, s_n1, s_n2, s_n3, s_n4, s_n5, s_n6, s_n7, s_n8, s_n9, reduceCtorEq, s_i1, s_i2, s_i3, s_i4]
        exact vb (hbad (by unfold rB; rw [h3, Bool.and_false])).symm
      · have h3 : vR p = true := by simpa using h3
        simp only [vx, T, s_i5, s_n0, s_i6, s_i7, ↓reduceIte, s_n1, s_n2, s_n3, s_n4, s_n5, s_n6, s_n7, s_n8, s_n9, reduceCtorEq, s_i1, s_i2, s_i3, s_i4]
        simp only [i1]
        refine loopQ.go ⟨i + 1, by omega, fun j hj => ?_⟩ ?_ ?_
        · by_cases hji : j < i
          · exact he j hji
          · rw [show j = i by omega, ← hpi]; unfold rB; rw [h2, h3]; rfl
        · refine Sub.auto ?_; simp only [rx, envRen, vRen, cRen, lRen, ownRen, bRen, apartRen, emptyBk, ren, ↓reduceIte, s_n1, s_n2, s_n3, s_n4, s_n5, s_n6, s_n7, s_n8, s_n9, reduceCtorEq, s_i1, s_i2, s_i3, s_i4, autoR, autoOne, Int.natCast_add, Int.natCast_one, Int.natCast_zero]
        · simp only; omega
  · simp only [vx, T, s_i5, s_n0, s_i6, s_i7, ↓reduceIte, s_n1, s_n2, s_n3, s_n4, s_n5, s_n6, s_n7, s_n8, s_n9, reduceCtorEq, s_i1, s_i2, s_i3, s_i4]
    exact vb (all_range.2 fun j hj => he j (by omega)).symm

theorem rightB_get {ps : List (List Raw)} (h : rightB ps = true) (hp : ∀ p ∈ ps, RasOk p) {i : Nat} (hi : i < ps.length) : ∃ l, GoodP l ∧ CLe (RC (ps.getD i default)) (PC l) ∧ l.length = (ps.getD i default).length := by
  have h1 := all_range.1 h i hi
  unfold rB at h1
  simp only [Bool.and_eq_true] at h1
  exact raw_poly (hp _ (by rw [getD_eq hi]; exact List.getElem_mem hi)) h1.1 h1.2

/-- A list of two, and of three, as it lies behind its making. -/
theorem lit2 (p q : List Raw) : CLe (.rows 1 2 (fun i j => [RC p, RC q].getD (i * 1 + j) .any)) (.rows 1 [p, q].length (fun i _ => RC ([p, q].getD i default))) := by
  refine CLe.rows rfl fun i j hi hj => CLe.of_eq ?_
  obtain rfl : j = 0 := by omega
  match i, hi with
  | 0, _ => rfl
  | 1, _ => rfl
theorem lit3 (p q s : List Raw) : CLe (.rows 1 3 (fun i j => [RC p, RC q, RC s].getD (i * 1 + j) .any)) (.rows 1 [p, q, s].length (fun i _ => RC ([p, q, s].getD i default))) := by
  refine CLe.rows rfl fun i j hi hj => CLe.of_eq ?_
  obtain rfl : j = 0 := by omega
  match i, hi with
  | 0, _ => rfl
  | 1, _ => rfl
  | 2, _ => rfl

theorem same_true {a b : List Mono} (h : a = b) (hp : POk a) : PureCalls Tryz.prog 10 [PV a, PV b] (.one (.bool true)) := by
  subst h
  have := Same_spec a a hp hp
  rwa [decide_eq_true (rfl : a = a)] at this

/-! ### EquationArithmetic. -/
set_option maxHeartbeats 8000000 in
set_option maxRecDepth 10000 in
theorem lawArith_spec (p q : List Raw) (v : Int) (hp : RasOk p) (hq : RasOk q) : PureCalls Tryz.prog 3 [RV p, RV q, .one (.int .i64 v)] (.one (.bool true)) := by
  have hps : ∀ x ∈ [p, q], RasOk x := fun x hx => by
    rcases List.mem_cons.1 hx with rfl | hx
    · exact hp
    · obtain rfl := List.mem_singleton.1 hx; exact hq
  refine pure_of_vc T_ok mixed Tryz.func3 rfl (by decide) _ (by simp [Tryz.ntmps3]) ⟨[0, 1, 2, 6, 15], []⟩ (by kernel_rfl) _ ?_
  show vc T Tryz.prog ⟨[0, 1, 2, 6, 15], []⟩ (Option.get! Tryz.f3.body) _ _
  simp only [Tryz.f3, Tryz.ntmps3, Option.get!, initSt, initM, envOf, Nat.reduceAdd]
  simp only [vx, T, s_i5, s_n0, s_i6, s_i7, ↓reduceIte, s_n1, s_n2, s_n3, s_n4, s_n5, s_n6, s_n7, s_n8, s_n9, reduceCtorEq, s_i1, s_i2, s_i3, s_i4]
  refine CallK.go awake_spec ?_
  simp only [vx, T, s_i5, s_n0, s_i6, s_i7, ↓reduceIte, s_n1, s_n2, s_n3, s_n4, s_n5, s_n6, s_n7, s_n8, s_n9, reduceCtorEq, s_i1, s_i2, s_i3, s_i4, RV, RC]
  refine CallK.go ((right_spec [p, q] (by simp) hps).arg1c (lit2 p q)) ?_
  simp only [vx, T, s_i5, s_n0, s_i6, s_i7, ↓reduceIte, s_n1, s_n2, s_n3, s_n4, s_n5, s_n6, s_n7, s_n8, s_n9, reduceCtorEq, s_i1, s_i2, s_i3, s_i4]
  refine ⟨fun h1 => Later.go ?_, fun h1 => Later.go ?_⟩
  · simp only [vx, T, s_i5, s_n0, s_i6, s_i7, ↓reduceIte, s_n1, s_n2, s_n3, s_n4, s_n5, s_n6, s_n7, s_n8, s_n9, reduceCtorEq, s_i1, s_i2, s_i3, s_i4]
    refine CallK.go awake_spec ?_
    simp only [vx, T, s_i5, s_n0, s_i6, s_i7, ↓reduceIte, s_n1, s_n2, s_n3, s_n4, s_n5, s_n6, s_n7, s_n8, s_n9, reduceCtorEq, s_i1, s_i2, s_i3, s_i4]
    exact VLe.of_eq rfl
  · have h1 : rightB [p, q] = true := by simpa using h1
    obtain ⟨a, ga, la, _⟩ := rightB_get h1 hps (i := 0) (by simp)
    obtain ⟨b, gb, lb, _⟩ := rightB_get h1 hps (i := 1) (by simp)
    have la : CLe (RC p) (PC a) := la
    have lb : CLe (RC q) (PC b) := lb
    have vab : ∀ f r, PureCalls Tryz.prog f [PV a, PV b] r → PureCalls Tryz.prog f [RV p, RV q] r := fun f r h => h.args ⟨.cell la, .cell lb, trivial⟩
    have va : ∀ f r, PureCalls Tryz.prog f [PV a, .one (.int .i64 v)] r → PureCalls Tryz.prog f [RV p, .one (.int .i64 v)] r := fun f r h => h.args ⟨.cell la, .refl _, trivial⟩
    have pa := ga.pb
    have pb := gb.pb
    have e1 : sumM (a ++ b) = norM (a ++ b) := sumM_eq (ga.asc.append gb.asc)
    have c1 := vab _ _ (iAddP_spec pa pb (by decide) (by decide) (by decide))
    have c2 := vab _ _ (rAddP_spec pa pb (by decide) (by decide))
    have c3 := same_true e1.symm ((pa.append pb).norM.pok (by decide) (by decide) (by decide))
    have c4 := vab _ _ (iMulP_spec pa pb (by decide) (by decide) (by decide) (by decide) (by decide))
    have c5 := vab _ _ (rMulP_spec pa pb (by decide) (by decide) (by decide) (by decide) (by decide))
    have c6 := same_true (rfl : mulM a b = mulM a b) ((pa.mulM pb).pok (by decide) (by decide) (by decide))
    have c7 := va _ _ (iDer_spec v pa (by decide) (by decide) (by decide))
    have c8 := va _ _ (rDer_spec v pa (by decide) (by decide) (by decide))
    have c9 := same_true (derM_ref ga.asc v).symm ((pb_derP pa (by decide) v).norM.pok (by decide) (by decide) (by decide))
    simp only [vx, T, s_i5, s_n0, s_i6, s_i7, ↓reduceIte, s_n1, s_n2, s_n3, s_n4, s_n5, s_n6, s_n7, s_n8, s_n9, reduceCtorEq, s_i1, s_i2, s_i3, s_i4, RV, RC]
    refine CallK.go c1 ?_
    simp only [vx, T, s_i5, s_n0, s_i6, s_i7, ↓reduceIte, s_n1, s_n2, s_n3, s_n4, s_n5, s_n6, s_n7, s_n8, s_n9, reduceCtorEq, s_i1, s_i2, s_i3, s_i4, PV, PC]
    refine CallK.go c2 ?_
    simp only [vx, T, s_i5, s_n0, s_i6, s_i7, ↓reduceIte, s_n1, s_n2, s_n3, s_n4, s_n5, s_n6, s_n7, s_n8, s_n9, reduceCtorEq, s_i1, s_i2, s_i3, s_i4, PV, PC]
    refine CallK.go c3 ?_
    simp only [vx, T, s_i5, s_n0, s_i6, s_i7, ↓reduceIte, s_n1, s_n2, s_n3, s_n4, s_n5, s_n6, s_n7, s_n8, s_n9, reduceCtorEq, s_i1, s_i2, s_i3, s_i4, PV, PC]
    refine CallK.go c4 ?_
    simp only [vx, T, s_i5, s_n0, s_i6, s_i7, ↓reduceIte, s_n1, s_n2, s_n3, s_n4, s_n5, s_n6, s_n7, s_n8, s_n9, reduceCtorEq, s_i1, s_i2, s_i3, s_i4, PV, PC]
    refine CallK.go c5 ?_
    simp only [vx, T, s_i5, s_n0, s_i6, s_i7, ↓reduceIte, s_n1, s_n2, s_n3, s_n4, s_n5, s_n6, s_n7, s_n8, s_n9, reduceCtorEq, s_i1, s_i2, s_i3, s_i4, PV, PC]
    refine CallK.go c6 ?_
    simp only [vx, T, s_i5, s_n0, s_i6, s_i7, ↓reduceIte, s_n1, s_n2, s_n3, s_n4, s_n5, s_n6, s_n7, s_n8, s_n9, reduceCtorEq, s_i1, s_i2, s_i3, s_i4, PV, PC]
    refine CallK.go c7 ?_
    simp only [vx, T, s_i5, s_n0, s_i6, s_i7, ↓reduceIte, s_n1, s_n2, s_n3, s_n4, s_n5, s_n6, s_n7, s_n8, s_n9, reduceCtorEq, s_i1, s_i2, s_i3, s_i4, PV, PC]
    refine CallK.go c8 ?_
    simp only [vx, T, s_i5, s_n0, s_i6, s_i7, ↓reduceIte, s_n1, s_n2, s_n3, s_n4, s_n5, s_n6, s_n7, s_n8, s_n9, reduceCtorEq, s_i1, s_i2, s_i3, s_i4, PV, PC]
    refine CallK.go c9 ?_
    simp only [vx, T, s_i5, s_n0, s_i6, s_i7, ↓reduceIte, s_n1, s_n2, s_n3, s_n4, s_n5, s_n6, s_n7, s_n8, s_n9, reduceCtorEq, s_i1, s_i2, s_i3, s_i4]
    exact VLe.of_eq rfl

end Go.Proofs.YtckikgkdplkopaaGreat
