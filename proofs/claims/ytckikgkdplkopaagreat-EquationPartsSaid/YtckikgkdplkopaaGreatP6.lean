/-
  The walks and laws under the rows of the equation package: what its functions and their references compute, for polynomials in normal form.
  (Text 6 of 8; made by a program out of smaller texts.)
-/
import Derived.Test.YtckikgkdplkopaaGreatP5
set_option linter.unusedSimpArgs false
set_option linter.unusedVariables false
open Nat renaming reduceAdd → s_n1, reduceMul → s_n2, reduceSub → s_n3, reduceEqDiff → s_n4, reduceLT → s_n5, reduceLeDiff → s_n6, reduceBEq → s_n7, reduceDiv → s_n8, reduceMod → s_n9, reducePow → s_n0
open Int renaming reduceToNat → s_i1, reduceLE → s_i2, reduceLT → s_i3, reduceEq → s_i4, reducePow → s_i5, reduceSub → s_i6, reduceNeg → s_i7

/-! ## FnZe -/
namespace Go.Proofs.YtckikgkdplkopaaGreat
open Go Go.Eng

/-- Two lists, one behind the other. -/
theorem app_rows (p q : List Mono) : ∀ (i j : Nat), i < p.length + q.length → j < 5 → (if i < p.length then fR p i j else fR q (i - p.length) j) = fR (p ++ q) i j := by
  intro i j hi hj
  unfold fR
  rw [List.getD_eq_getElem?_getD (l := p ++ q)]
  by_cases h : i < p.length
  · rw [if_pos h, List.getElem?_append_left h, List.getD_eq_getElem?_getD]
  · rw [if_neg h, List.getElem?_append_right (by omega), List.getD_eq_getElem?_getD]

/-- The reference's sum, of monomials as they stand in memory. -/
theorem SumR_spec {l : List Mono} {n d B : Nat} (h : PB l n d B) (hd : d < 2 ^ 30) (hn : n * (B + 1) < 2 ^ 30) {k : Nat} {f : Nat → Nat → C} (hk : k = l.length) (hf : ∀ i j, i < k → j < 5 → CLe (f i j) (fR l i j)) :
    PureCalls Tryz.prog 34 [.one (.rows 5 k f)] (PV (sumM l)) := by
  have h1 : l.length * (B + 1) < 2 ^ 30 := Nat.lt_of_le_of_lt (Nat.mul_le_mul_right _ h.n) hn
  refine PureCalls.arg1c (y := PC l) ?_ (CLe.rows hk hf)
  by_cases h0 : l = []
  · subst h0
    exact Sum_spec [] 0 ⟨by decide, fun m hm => by cases hm⟩ (fun m hm => by cases hm) (by decide)
  · have h2 : 1 ≤ l.length := by
      cases l with
      | nil => exact absurd rfl h0
      | cons x r => simp
    have h3 : 1 * (B + 1) ≤ l.length * (B + 1) := Nat.mul_le_mul_right _ h2
    have h4 : l.length * 1 ≤ l.length * (B + 1) := Nat.mul_le_mul_left _ (by omega)
    exact Sum_spec l B ⟨by omega, fun m hm => ⟨by have := (h.m m hm).1; omega, Nat.lt_of_le_of_lt (h.m m hm).2.1 hd, (h.m m hm).2.2⟩⟩ (fun m hm => (h.m m hm).1) h1

set_option maxHeartbeats 4000000 in
set_option maxRecDepth 10000 in
theorem rAddP_spec {p q : List Mono} {n d B n' d' B' : Nat} (hp : PB p n d B) (hq : PB q n' d' B') (hd : max d d' < 2 ^ 30) (hn : (n + n') * (max B B' + 1) < 2 ^ 30) : PureCalls Tryz.prog 12 [PV p, PV q] (PV (sumM (p ++ q))) := by
  have hl : n + n' < 2 ^ 30 := Nat.lt_of_le_of_lt (Nat.le_mul_of_pos_right _ (by omega)) hn
  have hpl := hp.n
  have hql := hq.n
  refine pure_of_vc T_ok mixed Tryz.func12 rfl (by decide) _ (by simp [Tryz.ntmps12]) ⟨[0, 1, 4], []⟩ (by kernel_rfl) _ ?_
  show vc T Tryz.prog ⟨[0, 1, 4], []⟩ (Option.get! Tryz.f12.body) _ _
  simp only [Tryz.f12, Tryz.ntmps12, Option.get!, initSt, initM, envOf, Nat.reduceAdd]
  simp only [vx, T, s_i5, s_n0, s_i6, s_i7, ↓reduceIte, s_n1, s_n2, s_n3, s_n4, s_n5, s_n6, s_n7, s_n8, s_n9, reduceCtorEq, s_i1, s_i2, s_i3, s_i4, PV, PC]
  refine ⟨by omega, by omega, CallK.go (SumR_spec (hp.append hq) hd hn (by rw [List.length_append]) ?_) ?_⟩
  · intro i j hi hj
    rw [← app_rows p q i j hi hj]
    refine CLe.of_eq ?_
    by_cases h : i < p.length
    · rw [if_pos h, if_pos h, if_neg (by omega), Nat.sub_zero]; rfl
    · rw [if_neg h, if_neg h]; rfl
  · simp only [vx, T, s_i5, s_n0, s_i6, s_i7, ↓reduceIte, s_n1, s_n2, s_n3, s_n4, s_n5, s_n6, s_n7, s_n8, s_n9, reduceCtorEq, s_i1, s_i2, s_i3, s_i4, PV, PC]
    exact VLe.of_eq rfl

theorem snocR {ks : List Mono} {k : Nat} (hk : ks.length = k) (b : Mono) : ∀ (i j : Nat), i < k + 1 → j < 5 →
    (if i < k then fR ks i j
    else [C.bool (zs b.1.num), C.ints .u32 (zm b.1.num), C.bool (zs (b.1.den : Int)), C.ints .u32 (zm (b.1.den : Int)), C.ints .i64 b.2].getD ((i - k) * 5 + j) C.any) = fR (ks ++ [b]) i j := by
  subst hk
  exact snoc_rows ks b

set_option maxHeartbeats 4000000 in
set_option maxRecDepth 10000 in
theorem rScale_spec {p : List Mono} {n d B : Nat} (x : Rat) {B' : Nat} (hp : PB p n d B) (hx : qm x ≤ B') (hd : d < 2 ^ 30) (hn : n * (B + B' + 1) < 2 ^ 30) (hB : B + B' < 2 ^ 30) : PureCalls Tryz.prog 103 [PV p, QV x] (PV (sumM (p.map fun m => (m.1 * x, m.2)))) := by
  have hpl := hp.n
  have hn1 : n < 2 ^ 30 := Nat.lt_of_le_of_lt (Nat.le_mul_of_pos_right _ (by omega)) hn
  obtain ⟨g, hg⟩ : ∃ g : Mono → Mono, g = fun m => (m.1 * x, m.2) := ⟨_, rfl⟩
  rw [← hg]
  refine pure_of_vc T_ok mixed Tryz.func103 rfl (by decide) _ (by simp [Tryz.ntmps103]) ⟨[0, 1, 3, 4, 5, 6, 10], []⟩ (by kernel_rfl) _ ?_
  show vc T Tryz.prog ⟨[0, 1, 3, 4, 5, 6, 10], []⟩ (Option.get! Tryz.f103.body) _ _
  simp only [Tryz.f103, Tryz.ntmps103, Option.get!, initSt, initM, envOf, Nat.reduceAdd]
  simp only [vx, T, s_i5, s_n0, s_i6, s_i7, ↓reduceIte, s_n1, s_n2, s_n3, s_n4, s_n5, s_n6, s_n7, s_n8, s_n9, reduceCtorEq, s_i1, s_i2, s_i3, s_i4, PV, PC, QV, QC]
  refine LoopK.go (fun y : {i : Nat // i ≤ p.length} => ⟨[(0, PV p), (3, .one (.ptr 1 0)), (4, .one .nil), (5, .one (.own 2 5 0 y.1)), (6, .one (.int .i64 y.1))], [(1, ⟨.var (QC x), true⟩), (2, ⟨.rows 55 5 y.1 (fR ((p.take y.1).map g)), true⟩)], 5, 31⟩) (fun y => p.length - y.1) ⟨0, by omega⟩ ?_ (fun ⟨i, hi⟩ => ?_)
  · refine Sub.auto ?_; simp only [rx, envRen, vRen, cRen, lRen, ownRen, bRen, apartRen, emptyBk, ren, ↓reduceIte, s_n1, s_n2, s_n3, s_n4, s_n5, s_n6, s_n7, s_n8, s_n9, reduceCtorEq, s_i1, s_i2, s_i3, s_i4, autoR, autoOne, Int.natCast_add, Int.natCast_one, Int.natCast_zero, PV, PC, QC]
  simp only [vx, T, s_i5, s_n0, s_i6, s_i7, ↓reduceIte, s_n1, s_n2, s_n3, s_n4, s_n5, s_n6, s_n7, s_n8, s_n9, reduceCtorEq, s_i1, s_i2, s_i3, s_i4, PV, PC, QC]
  refine ⟨fun h1 => Later.go ?_, fun h1 => Later.go ?_⟩
  · have hil : i < p.length := by omega
    have i1 : IntKind.i64.wrap ((i : Int) + 1) = ((i + 1 : Nat) : Int) := by rw [IntWalk.i64_in _ (by omega)]; omega
    obtain ⟨a, ha⟩ : ∃ a, a = p.getD i default := ⟨_, rfl⟩
    have hstep := take_map_step g hil
    rw [← ha] at hstep
    have hga : g a = (a.1 * x, a.2) := by rw [hg]
    have hpi := hp.get hil
    rw [← ha] at hpi
    simp only [vx, T, s_i5, s_n0, s_i6, s_i7, ↓reduceIte, s_n1, s_n2, s_n3, s_n4, s_n5, s_n6, s_n7, s_n8, s_n9, reduceCtorEq, s_i1, s_i2, s_i3, s_i4, PV, PC, QC, ← ha, mC]
    refine ⟨by omega, CallK.go (rQMul_spec a.1 x (by omega) (by omega)) ?_⟩
    simp only [vx, T, s_i5, s_n0, s_i6, s_i7, ↓reduceIte, s_n1, s_n2, s_n3, s_n4, s_n5, s_n6, s_n7, s_n8, s_n9, reduceCtorEq, s_i1, s_i2, s_i3, s_i4, PV, PC, QV, QC, ← ha, mC]
    simp only [i1]
    refine ⟨by omega, by omega, loopQ.go ⟨i + 1, by omega⟩ ?_ ?_⟩
    · refine Sub.auto ?_; simp only [rx, envRen, vRen, cRen, lRen, ownRen, bRen, apartRen, emptyBk, ren, ↓reduceIte, s_n1, s_n2, s_n3, s_n4, s_n5, s_n6, s_n7, s_n8, s_n9, reduceCtorEq, s_i1, s_i2, s_i3, s_i4, autoR, autoOne, Int.natCast_add, Int.natCast_one, Int.natCast_zero, PV, PC, QC]
      rw [hstep, hga]
      exact snocR (by rw [List.length_map, List.length_take]; omega) (a.1 * x, a.2)
    · simp only; omega
  · have hil : i = p.length := by omega
    subst hil
    have e1 : (p.take p.length).map g = p.map (fun m => (m.1 * x, m.2)) := by rw [List.take_length, hg]
    rw [e1, hg]
    simp only [vx, T, s_i5, s_n0, s_i6, s_i7, ↓reduceIte, s_n1, s_n2, s_n3, s_n4, s_n5, s_n6, s_n7, s_n8, s_n9, reduceCtorEq, s_i1, s_i2, s_i3, s_i4, PV, PC]
    refine CallK.go (SumR_spec (hp.scale hx) hd hn (by rw [List.length_map]) (fun _ _ _ _ => CLe.refl _)) ?_
    simp only [vx, T, s_i5, s_n0, s_i6, s_i7, ↓reduceIte, s_n1, s_n2, s_n3, s_n4, s_n5, s_n6, s_n7, s_n8, s_n9, reduceCtorEq, s_i1, s_i2, s_i3, s_i4, PV, PC]
    exact VLe.of_eq rfl

theorem idx_lt {n : Nat} {i : Nat} (h : i < n) : 0 ≤ (i : Int) ∧ (i : Int) < n := by omega

set_option maxHeartbeats 4000000 in
set_option maxRecDepth 10000 in
theorem rMulP_spec {p q : List Mono} {n d B n' d' B' : Nat} (hp : PB p n d B) (hq : PB q n' d' B') (hd : d + d' < 2 ^ 30) (hn : n * n' * (B + B' + 1) < 2 ^ 30) (hn1 : n < 2 ^ 30) (hn2 : n' < 2 ^ 30) (hB : B + B' < 2 ^ 30) : PureCalls Tryz.prog 14 [PV p, PV q] (PV (mulM p q)) := by
  have hpl := hp.n
  have hql := hq.n
  obtain ⟨g, hg⟩ : ∃ g : Mono → Mono → Mono, g = fun a b => (a.1 * b.1, a.2 ++ b.2) := ⟨_, rfl⟩
  have hnn : n * n' < 2 ^ 30 := Nat.lt_of_le_of_lt (Nat.le_mul_of_pos_right _ (by omega)) hn
  have hL : p.length * q.length ≤ n * n' := Nat.mul_le_mul hpl hql
  have hlen : ∀ x, x ≤ p.length → ((p.take x).flatMap fun a => q.map (g a)).length = x * q.length := by
    intro x hx
    have : ∀ l : List Mono, (l.flatMap fun a => q.map (g a)).length = l.length * q.length := by
      intro l
      induction l with
      | nil => simp
      | cons a l ih => rw [List.flatMap_cons, List.length_append, ih, List.length_map, List.length_cons, Nat.add_mul]; omega
    rw [this, List.length_take, Nat.min_eq_left hx]
  refine pure_of_vc T_ok mixed Tryz.func14 rfl (by decide) _ (by simp [Tryz.ntmps14]) ⟨[0, 1, 4, 5, 6, 7, 8, 12, 18], [(8, [(6, [7, 8, 9, 10, 11]), (12, []), (13, [])])]⟩ (by kernel_rfl) _ ?_
  show vc T Tryz.prog ⟨[0, 1, 4, 5, 6, 7, 8, 12, 18], [(8, [(6, [7, 8, 9, 10, 11]), (12, []), (13, [])])]⟩ (Option.get! Tryz.f14.body) _ _
  simp only [Tryz.f14, Tryz.ntmps14, Option.get!, initSt, initM, envOf, Nat.reduceAdd]
  simp only [vx, T, s_i5, s_n0, s_i6, s_i7, ↓reduceIte, s_n1, s_n2, s_n3, s_n4, s_n5, s_n6, s_n7, s_n8, s_n9, reduceCtorEq, s_i1, s_i2, s_i3, s_i4, PV, PC]
  refine LoopK.go (fun y : {y : Nat × List Mono // y.1 ≤ p.length ∧ y.2 = (p.take y.1).flatMap fun a => q.map (g a)} => ⟨[(0, PV p), (1, PV q), (4, .one .nil), (5, .one (.own 1 5 0 y.1.2.length)), (6, .one (.int .i64 y.1.1))], [(1, ⟨.rows 55 5 y.1.2.length (fR y.1.2), true⟩)], 5, 52⟩) (fun y => p.length - y.1.1) ⟨(0, []), by omega, rfl⟩ ?_ (fun ⟨⟨i, ls⟩, hi, hls⟩ => ?_)
  · refine Sub.auto ?_; simp only [rx, envRen, vRen, cRen, lRen, ownRen, bRen, apartRen, emptyBk, ren, ↓reduceIte, s_n1, s_n2, s_n3, s_n4, s_n5, s_n6, s_n7, s_n8, s_n9, reduceCtorEq, s_i1, s_i2, s_i3, s_i4, autoR, autoOne, Int.natCast_add, Int.natCast_one, Int.natCast_zero, PV, PC]
  simp only at hi hls
  simp only [vx, T, s_i5, s_n0, s_i6, s_i7, ↓reduceIte, s_n1, s_n2, s_n3, s_n4, s_n5, s_n6, s_n7, s_n8, s_n9, reduceCtorEq, s_i1, s_i2, s_i3, s_i4, PV, PC]
  refine ⟨fun h1 => Later.go ?_, fun h1 => Later.go ?_⟩
  · have hil : i < p.length := by omega
    have i1 : IntKind.i64.wrap ((i : Int) + 1) = ((i + 1 : Nat) : Int) := by rw [IntWalk.i64_in _ (by omega)]; omega
    obtain ⟨a, ha⟩ : ∃ a, a = p.getD i default := ⟨_, rfl⟩
    have hpi := hp.get hil
    have hstep := take_flatMap_step (fun a => q.map (g a)) hil
    rw [← ha] at hstep hpi
    rw [← hls] at hstep
    simp only [vx, T, s_i5, s_n0, s_i6, s_i7, ↓reduceIte, s_n1, s_n2, s_n3, s_n4, s_n5, s_n6, s_n7, s_n8, s_n9, reduceCtorEq, s_i1, s_i2, s_i3, s_i4, PV, PC, ← ha, mC]
    refine LoopK.go (fun y : {y : Nat × List Mono // y.1 ≤ q.length ∧ y.2 = ls ++ (q.take y.1).map (g a)} => ⟨[(0, PV p), (1, PV q), (4, .one .nil), (5, .one (.own 1 5 0 y.1.2.length)), (6, .one (.int .i64 i)), (7, .one (.int .i64 y.1.1))], [(1, ⟨.rows 55 5 y.1.2.length (fR y.1.2), true⟩)], 5, 52⟩) (fun y => q.length - y.1.1) ⟨(0, ls), by omega, by simp⟩ ?_ (fun ⟨⟨k, ks⟩, hk, hks⟩ => ?_)
    · refine Sub.auto ?_; simp only [rx, envRen, vRen, cRen, lRen, ownRen, bRen, apartRen, emptyBk, ren, ↓reduceIte, s_n1, s_n2, s_n3, s_n4, s_n5, s_n6, s_n7, s_n8, s_n9, reduceCtorEq, s_i1, s_i2, s_i3, s_i4, autoR, autoOne, Int.natCast_add, Int.natCast_one, Int.natCast_zero, PV, PC]
    simp only at hk hks
    simp only [vx, T, s_i5, s_n0, s_i6, s_i7, ↓reduceIte, s_n1, s_n2, s_n3, s_n4, s_n5, s_n6, s_n7, s_n8, s_n9, reduceCtorEq, s_i1, s_i2, s_i3, s_i4, PV, PC]
    refine ⟨fun h2 => Later.go ?_, fun h2 => Later.go ?_⟩
    · have hkl : k < q.length := by omega
      have k1 : IntKind.i64.wrap ((k : Int) + 1) = ((k + 1 : Nat) : Int) := by rw [IntWalk.i64_in _ (by omega)]; omega
      obtain ⟨b, hb⟩ : ∃ b, b = q.getD k default := ⟨_, rfl⟩
      have hqk := hq.get hkl
      have hstep2 := take_map_step (g a) hkl
      rw [← hb] at hstep2 hqk
      simp only [vx, T, s_i5, s_n0, s_i6, s_i7, ↓reduceIte, s_n1, s_n2, s_n3, s_n4, s_n5, s_n6, s_n7, s_n8, s_n9, reduceCtorEq, s_i1, s_i2, s_i3, s_i4, PV, PC, ← ha, ← hb, mC]
      have hll := hlen i hi
      rw [← hls] at hll
      have hks2 : ks.length = ls.length + k := by rw [hks, List.length_append, List.length_map, List.length_take]; omega
      have hil2 : (i + 1) * q.length ≤ p.length * q.length := Nat.mul_le_mul_right _ hil
      rw [Nat.add_mul] at hil2
      have e9 : (ks ++ [g a b]).length = ks.length + 1 := by simp
      refine ⟨by omega, by omega, by omega, by omega, by omega, by omega, by omega, CallK.go (rQMul_spec a.1 b.1 (by omega) (by omega)) ?_⟩
      simp only [vx, T, s_i5, s_n0, s_i6, s_i7, ↓reduceIte, s_n1, s_n2, s_n3, s_n4, s_n5, s_n6, s_n7, s_n8, s_n9, reduceCtorEq, s_i1, s_i2, s_i3, s_i4, PV, PC, QV, QC, ← ha, ← hb, mC]
      simp only [k1]
      refine ⟨by omega, loopQ.go ⟨(k + 1, ks ++ [g a b]), by omega, by rw [hks, List.append_assoc, ← hstep2]⟩ ?_ ?_⟩
      · refine Sub.auto ?_; simp only [rx, envRen, vRen, cRen, lRen, ownRen, bRen, apartRen, emptyBk, ren, ↓reduceIte, s_n1, s_n2, s_n3, s_n4, s_n5, s_n6, s_n7, s_n8, s_n9, reduceCtorEq, s_i1, s_i2, s_i3, s_i4, autoR, autoOne, Int.natCast_add, Int.natCast_one, Int.natCast_zero, PV, PC, QC, e9]
        rw [hg]
        exact snocR rfl (a.1 * b.1, a.2 ++ b.2)
      · simp only; omega
    · have hkl : k = q.length := by omega
      simp only [vx, T, s_i5, s_n0, s_i6, s_i7, ↓reduceIte, s_n1, s_n2, s_n3, s_n4, s_n5, s_n6, s_n7, s_n8, s_n9, reduceCtorEq, s_i1, s_i2, s_i3, s_i4, PV, PC, QV, QC, ← ha, mC]
      simp only [i1]
      refine loopQ.go ⟨(i + 1, ks), by omega, by rw [hstep, hks, hkl, List.take_length]⟩ ?_ ?_
      · refine Sub.auto ?_; simp only [rx, envRen, vRen, cRen, lRen, ownRen, bRen, apartRen, emptyBk, ren, ↓reduceIte, s_n1, s_n2, s_n3, s_n4, s_n5, s_n6, s_n7, s_n8, s_n9, reduceCtorEq, s_i1, s_i2, s_i3, s_i4, autoR, autoOne, Int.natCast_add, Int.natCast_one, Int.natCast_zero, PV, PC, QC]
      · simp only; omega
  · have hil : i = p.length := by omega
    have e1 : ls = mulL p q := by rw [hls, hil, List.take_length, hg]; rfl
    rw [e1]
    simp only [vx, T, s_i5, s_n0, s_i6, s_i7, ↓reduceIte, s_n1, s_n2, s_n3, s_n4, s_n5, s_n6, s_n7, s_n8, s_n9, reduceCtorEq, s_i1, s_i2, s_i3, s_i4, PV, PC]
    refine CallK.go (SumR_spec (hp.mulL hq) hd hn rfl (fun _ _ _ _ => CLe.refl _)) ?_
    simp only [vx, T, s_i5, s_n0, s_i6, s_i7, ↓reduceIte, s_n1, s_n2, s_n3, s_n4, s_n5, s_n6, s_n7, s_n8, s_n9, reduceCtorEq, s_i1, s_i2, s_i3, s_i4, PV, PC]
    exact VLe.of_eq rfl

set_option maxHeartbeats 4000000 in
set_option maxRecDepth 10000 in
theorem rDer_spec {p : List Mono} {n d B : Nat} (v : Int) (hp : PB p n d B) (hd : d < 2 ^ 30) (hn : n * d * (B + 1) < 2 ^ 30) (hn1 : n < 2 ^ 30) : PureCalls Tryz.prog 16 [PV p, .one (.int .i64 v)] (PV (sumM (derL p v))) := by
  have hpl := hp.n
  have hnn : n * d < 2 ^ 30 := Nat.lt_of_le_of_lt (Nat.le_mul_of_pos_right _ (by omega)) hn
  refine pure_of_vc T_ok mixed Tryz.func16 rfl (by decide) _ (by simp [Tryz.ntmps16]) ⟨[0, 1, 4, 5, 6, 7, 8, 12, 23, 31], [(10, [(10, [0, 1, 2, 3, 4, 5, 11, 12, 13, 14]), (15, [0, 1, 2, 3, 4, 5]), (16, [0]), (17, [0]), (18, []), (19, [])])]⟩ (by kernel_rfl) _ ?_
  show vc T Tryz.prog ⟨[0, 1, 4, 5, 6, 7, 8, 12, 23, 31], [(10, [(10, [0, 1, 2, 3, 4, 5, 11, 12, 13, 14]), (15, [0, 1, 2, 3, 4, 5]), (16, [0]), (17, [0]), (18, []), (19, [])])]⟩ (Option.get! Tryz.f16.body) _ _
  simp only [Tryz.f16, Tryz.ntmps16, Option.get!, initSt, initM, envOf, Nat.reduceAdd]
  simp only [vx, T, s_i5, s_n0, s_i6, s_i7, ↓reduceIte, s_n1, s_n2, s_n3, s_n4, s_n5, s_n6, s_n7, s_n8, s_n9, reduceCtorEq, s_i1, s_i2, s_i3, s_i4, PV, PC]
  refine LoopK.go (fun y : {y : Nat × List Mono // y.1 ≤ p.length ∧ y.2 = derL (p.take y.1) v ∧ y.2.length ≤ y.1 * d} => ⟨[(0, PV p), (1, .one (.int .i64 v)), (4, .one .nil), (5, .one (.own 1 5 0 y.1.2.length)), (6, .one (.int .i64 y.1.1))], [(1, ⟨.rows 55 5 y.1.2.length (fR y.1.2), true⟩)], 5, 53⟩) (fun y => p.length - y.1.1) ⟨(0, []), by omega, rfl, by simp⟩ ?_ (fun ⟨⟨i, ls⟩, hi, hls, hll⟩ => ?_)
  · refine Sub.auto ?_; simp only [rx, envRen, vRen, cRen, lRen, ownRen, bRen, apartRen, emptyBk, ren, ↓reduceIte, s_n1, s_n2, s_n3, s_n4, s_n5, s_n6, s_n7, s_n8, s_n9, reduceCtorEq, s_i1, s_i2, s_i3, s_i4, autoR, autoOne, Int.natCast_add, Int.natCast_one, Int.natCast_zero, PV, PC]
  simp only at hi hls hll
  simp only [vx, T, s_i5, s_n0, s_i6, s_i7, ↓reduceIte, s_n1, s_n2, s_n3, s_n4, s_n5, s_n6, s_n7, s_n8, s_n9, reduceCtorEq, s_i1, s_i2, s_i3, s_i4, PV, PC]
  refine ⟨fun h1 => Later.go ?_, fun h1 => Later.go ?_⟩
  · have hil : i < p.length := by omega
    have i1 : IntKind.i64.wrap ((i : Int) + 1) = ((i + 1 : Nat) : Int) := by rw [IntWalk.i64_in _ (by omega)]; omega
    obtain ⟨a, ha⟩ : ∃ a, a = p.getD i default := ⟨_, rfl⟩
    have hpi := hp.get hil
    have hstep : derL (p.take (i + 1)) v = derL (p.take i) v ++ derK (p.getD i default) v := take_flatMap_step (fun m => derK m v) hil
    rw [← ha] at hstep hpi
    rw [← hls] at hstep
    have hil2 : (i + 1) * d ≤ n * d := Nat.mul_le_mul_right _ (by omega)
    rw [Nat.add_mul] at hil2
    simp only [vx, T, s_i5, s_n0, s_i6, s_i7, ↓reduceIte, s_n1, s_n2, s_n3, s_n4, s_n5, s_n6, s_n7, s_n8, s_n9, reduceCtorEq, s_i1, s_i2, s_i3, s_i4, PV, PC, ← ha, mC]
    refine ⟨by omega, LoopK.go (fun y : {y : Nat × List Mono // y.1 ≤ a.2.length ∧ y.2 = ls ++ ((List.range y.1).flatMap fun k => if a.2.getD k 0 = v then [(a.1, a.2.eraseIdx k)] else []) ∧ y.2.length ≤ ls.length + y.1} => ⟨[(0, PV p), (1, .one (.int .i64 v)), (4, .one .nil), (5, .one (.own 1 5 0 y.1.2.length)), (6, .one (.int .i64 i)), (7, .one (.ints .i64 a.2)), (8, .one (.int .i64 y.1.1))], [(1, ⟨.rows 55 5 y.1.2.length (fR y.1.2), true⟩)], 5, 53⟩) (fun y => a.2.length - y.1.1) ⟨(0, ls), by omega, by simp, by simp⟩ ?_ (fun ⟨⟨k, ks⟩, hk, hks, hkl2⟩ => ?_)⟩
    · refine Sub.auto ?_; simp only [rx, envRen, vRen, cRen, lRen, ownRen, bRen, apartRen, emptyBk, ren, ↓reduceIte, s_n1, s_n2, s_n3, s_n4, s_n5, s_n6, s_n7, s_n8, s_n9, reduceCtorEq, s_i1, s_i2, s_i3, s_i4, autoR, autoOne, Int.natCast_add, Int.natCast_one, Int.natCast_zero, PV, PC]
    simp only at hk hks hkl2
    simp only [vx, T, s_i5, s_n0, s_i6, s_i7, ↓reduceIte, s_n1, s_n2, s_n3, s_n4, s_n5, s_n6, s_n7, s_n8, s_n9, reduceCtorEq, s_i1, s_i2, s_i3, s_i4, PV, PC]
    refine ⟨fun h2 => Later.go ?_, fun h2 => Later.go ?_⟩
    · have hkl : k < a.2.length := by omega
      have k1 : IntKind.i64.wrap ((k : Int) + 1) = ((k + 1 : Nat) : Int) := by rw [IntWalk.i64_in _ (by omega)]; omega
      have hstep2 : ((List.range (k + 1)).flatMap fun k => if a.2.getD k 0 = v then [(a.1, a.2.eraseIdx k)] else []) = ((List.range k).flatMap fun k => if a.2.getD k 0 = v then [(a.1, a.2.eraseIdx k)] else []) ++ (if a.2.getD k 0 = v then [(a.1, a.2.eraseIdx k)] else []) := by
        rw [List.range_succ, List.flatMap_append, List.flatMap_singleton]
      simp only [vx, T, s_i5, s_n0, s_i6, s_i7, ↓reduceIte, s_n1, s_n2, s_n3, s_n4, s_n5, s_n6, s_n7, s_n8, s_n9, reduceCtorEq, s_i1, s_i2, s_i3, s_i4, PV, PC, ← ha, mC]
      refine ⟨by omega, ?_⟩
      refine ⟨fun h3 => Later.go ?_, fun h3 => Later.go ?_⟩
      · rw [if_pos h3] at hstep2
        have e8 : (a.2.take k ++ a.2.drop (k + 1)) = a.2.eraseIdx k := (List.eraseIdx_eq_take_drop_succ _ _).symm
        have e7 : (a.2.drop (((k + 1 : Nat) : Int)).toNat).take ((a.2.length : Int) - ((k + 1 : Nat) : Int)).toNat = a.2.drop (k + 1) := by
          rw [Int.toNat_natCast, List.take_of_length_le]
          rw [List.length_drop]; omega
        have e6 : (a.2.take k).length = k := by rw [List.length_take]; omega
        have e5 : (a.2.drop (k + 1)).length = a.2.length - (k + 1) := List.length_drop
        have e9 : (ks ++ [(a.1, a.2.eraseIdx k)]).length = ks.length + 1 := by simp
        simp only [vx, T, s_i5, s_n0, s_i6, s_i7, ↓reduceIte, s_n1, s_n2, s_n3, s_n4, s_n5, s_n6, s_n7, s_n8, s_n9, reduceCtorEq, s_i1, s_i2, s_i3, s_i4, PV, PC, ← ha, mC]
        simp only [k1, e7, e8, e6, e5]
        refine ⟨by omega, by omega, by omega, by omega, by omega, by omega, by omega, by omega, loopQ.go ⟨(k + 1, ks ++ [(a.1, a.2.eraseIdx k)]), by omega, by rw [hks, hstep2, List.append_assoc], by simp only; omega⟩ ?_ ?_⟩
        · refine Sub.auto ?_; simp only [rx, envRen, vRen, cRen, lRen, ownRen, bRen, apartRen, emptyBk, ren, ↓reduceIte, s_n1, s_n2, s_n3, s_n4, s_n5, s_n6, s_n7, s_n8, s_n9, reduceCtorEq, s_i1, s_i2, s_i3, s_i4, autoR, autoOne, Int.natCast_add, Int.natCast_one, Int.natCast_zero, PV, PC, QC, e9]
          exact snocR rfl (a.1, a.2.eraseIdx k)
        · simp only; omega
      · rw [if_neg h3, List.append_nil] at hstep2
        simp only [vx, T, s_i5, s_n0, s_i6, s_i7, ↓reduceIte, s_n1, s_n2, s_n3, s_n4, s_n5, s_n6, s_n7, s_n8, s_n9, reduceCtorEq, s_i1, s_i2, s_i3, s_i4, PV, PC, ← ha, mC]
        simp only [k1]
        refine loopQ.go ⟨(k + 1, ks), by omega, by rw [hks, hstep2], by simp only; omega⟩ ?_ ?_
        · refine Sub.auto ?_; simp only [rx, envRen, vRen, cRen, lRen, ownRen, bRen, apartRen, emptyBk, ren, ↓reduceIte, s_n1, s_n2, s_n3, s_n4, s_n5, s_n6, s_n7, s_n8, s_n9, reduceCtorEq, s_i1, s_i2, s_i3, s_i4, autoR, autoOne, Int.natCast_add, Int.natCast_one, Int.natCast_zero, PV, PC]
        · simp only; omega
    · have hkl : k = a.2.length := by omega
      simp only [vx, T, s_i5, s_n0, s_i6, s_i7, ↓reduceIte, s_n1, s_n2, s_n3, s_n4, s_n5, s_n6, s_n7, s_n8, s_n9, reduceCtorEq, s_i1, s_i2, s_i3, s_i4, PV, PC, ← ha, mC]
      simp only [i1]
      refine loopQ.go ⟨(i + 1, ks), by omega, by rw [hstep, hks, hkl]; rfl, by simp only; rw [Nat.add_mul]; omega⟩ ?_ ?_
      · refine Sub.auto ?_; simp only [rx, envRen, vRen, cRen, lRen, ownRen, bRen, apartRen, emptyBk, ren, ↓reduceIte, s_n1, s_n2, s_n3, s_n4, s_n5, s_n6, s_n7, s_n8, s_n9, reduceCtorEq, s_i1, s_i2, s_i3, s_i4, autoR, autoOne, Int.natCast_add, Int.natCast_one, Int.natCast_zero, PV, PC, QC]
      · simp only; omega
  · have hil : i = p.length := by omega
    have e1 : ls = derL p v := by rw [hls, hil, List.take_length]
    rw [e1]
    simp only [vx, T, s_i5, s_n0, s_i6, s_i7, ↓reduceIte, s_n1, s_n2, s_n3, s_n4, s_n5, s_n6, s_n7, s_n8, s_n9, reduceCtorEq, s_i1, s_i2, s_i3, s_i4, PV, PC]
    refine CallK.go (SumR_spec (hp.derL v) hd hn rfl (fun _ _ _ _ => CLe.refl _)) ?_
    simp only [vx, T, s_i5, s_n0, s_i6, s_i7, ↓reduceIte, s_n1, s_n2, s_n3, s_n4, s_n5, s_n6, s_n7, s_n8, s_n9, reduceCtorEq, s_i1, s_i2, s_i3, s_i4, PV, PC]
    exact VLe.of_eq rfl
end Go.Proofs.YtckikgkdplkopaaGreat

/-! ## Mrg -/
namespace Go.Eng

variable {α : Type} [Inhabited α]

/-- The parts [s, m) and [m, e) change places. -/
def rotF (xs : List α) (s m e k : Nat) : α :=
  if k < s then xs.getD k default else if k < s + (e - m) then xs.getD (k + (m - s)) default else if k < e then xs.getD (k - (e - m)) default else xs.getD k default

/-- n places from a on change with those from b on. -/
def swF (xs : List α) (a b n k : Nat) : α :=
  if a ≤ k ∧ k < a + n then xs.getD (k + (b - a)) default else if b ≤ k ∧ k < b + n then xs.getD (k - (b - a)) default else xs.getD k default

theorem swF_zero (xs : List α) (a b k : Nat) : swF xs a b 0 k = xs.getD k default := by
  unfold swF; rw [if_neg (by omega), if_neg (by omega)]
theorem swF_step {xs ys : List α} {a b i : Nat} (h : ∀ k, ys.getD k default = swF xs a b i k) (hab : a + i < b) (hb : b + i < ys.length) (k : Nat) :
    (swp ys (a + i) (b + i)).getD k default = swF xs a b (i + 1) k := by
  rw [swp_get (by omega) (by omega), h, h, h]
  unfold swF
  (repeat' split) <;> first | (exfalso; omega) | rfl | (congr 1; omega)

theorem rot_left {ys zs : List α} {i j m : Nat} (h : ∀ k, zs.getD k default = swF ys (m - i) m j k) (hij : j < i) (him : i ≤ m) (k : Nat) :
    rotF zs (m - (i - j)) m (m + j) k = rotF ys (m - i) m (m + j) k := by
  unfold rotF
  simp only [h]
  unfold swF
  (repeat' split) <;> first | (exfalso; omega) | rfl | (congr 1; omega)
theorem rot_right {ys zs : List α} {i j m : Nat} (h : ∀ k, zs.getD k default = swF ys (m - i) (m + j - i) i k) (hij : i < j) (him : i ≤ m) (k : Nat) :
    rotF zs (m - i) m (m + (j - i)) k = rotF ys (m - i) m (m + j) k := by
  unfold rotF
  simp only [h]
  unfold swF
  (repeat' split) <;> first | (exfalso; omega) | rfl | (congr 1; omega)
theorem rot_eq {ys zs : List α} {i m : Nat} (h : ∀ k, zs.getD k default = swF ys (m - i) m i k) (him : i ≤ m) (k : Nat) :
    zs.getD k default = rotF ys (m - i) m (m + i) k := by
  rw [h]
  unfold swF rotF
  (repeat' split) <;> first | (exfalso; omega) | rfl | (congr 1; omega)
theorem rot_triv {xs : List α} {s m e : Nat} (h : s = m ∨ m = e) (hm : s ≤ m) (he : m ≤ e) (k : Nat) : rotF xs s m e k = xs.getD k default := by
  unfold rotF
  (repeat' split) <;> first | rfl | (congr 1; omega)
/-- One element goes up, or down, by one place. -/
theorem rot_up {xs ys : List α} {a k : Nat} (h : ∀ j, ys.getD j default = rotF xs a (a + 1) (k + 1) j) (hk : a ≤ k) (hl : k + 1 < ys.length) (j : Nat) :
    (swp ys k (k + 1)).getD j default = rotF xs a (a + 1) (k + 2) j := by
  rw [swp_get (by omega) (by omega), h, h, h]
  unfold rotF
  (repeat' split) <;> first | (exfalso; omega) | rfl | (congr 1; omega)
theorem rot_down {xs ys : List α} {m k : Nat} (h : ∀ j, ys.getD j default = rotF xs k m (m + 1) j) (hk : 0 < k) (hkm : k ≤ m) (hl : m < ys.length) (j : Nat) :
    (swp ys k (k - 1)).getD j default = rotF xs (k - 1) m (m + 1) j := by
  rw [swp_get (by omega) (by omega), h, h, h]
  unfold rotF
  (repeat' split) <;> first | (exfalso; omega) | rfl | (congr 1; omega)

section
variable {le : α → α → Prop} (rf : ∀ x, le x x) (tr : ∀ {x y z}, le x y → le y z → le x z)
include rf

theorem Srt.le2 {xs : List α} {lo hi a b : Nat} (h : Srt le xs lo hi) (h1 : lo ≤ a) (h2 : a ≤ b) (h3 : b < hi) : le (xs.getD a default) (xs.getD b default) := by
  by_cases e : a = b
  · rw [e]; exact rf _
  · exact h a b h1 (by omega) h3

theorem mrg1 {xs zs : List α} {a b i : Nat} (hs : Srt le xs (a + 1) b) (hi1 : a + 1 ≤ i) (hi2 : i ≤ b) (h1 : ∀ h, a + 1 ≤ h → h < i → le (xs.getD h default) (xs.getD a default)) (h2 : ∀ h, i ≤ h → h < b → le (xs.getD a default) (xs.getD h default))
    (hz : ∀ k, zs.getD k default = rotF xs a (a + 1) i k) : Srt le zs a b := by
  intro p q hp hpq hq
  rw [hz, hz]
  have e1 : ∀ k, a ≤ k → k < b → rotF xs a (a + 1) i k = if k < i - 1 then xs.getD (k + 1) default else if k = i - 1 then xs.getD a default else xs.getD k default := by
    intro k hk1 hk2
    unfold rotF
    (repeat' split) <;> first | (exfalso; omega) | rfl | (congr 1; omega)
  rw [e1 p hp (by omega), e1 q (by omega) hq]
  by_cases c1 : p < i - 1
  · rw [if_pos c1]
    by_cases c2 : q < i - 1
    · rw [if_pos c2]; exact hs _ _ (by omega) (by omega) (by omega)
    · rw [if_neg c2]
      by_cases c3 : q = i - 1
      · rw [if_pos c3]; exact h1 _ (by omega) (by omega)
      · rw [if_neg c3]; exact Srt.le2 rf hs (by omega) (by omega) hq
  · rw [if_neg c1, if_neg (show ¬ q < i - 1 by omega), if_neg (show ¬ q = i - 1 by omega)]
    by_cases c3 : p = i - 1
    · rw [if_pos c3]; exact h2 _ (by omega) hq
    · rw [if_neg c3]; exact hs _ _ (by omega) hpq hq

theorem mrg2 {xs zs : List α} {a m i : Nat} (hs : Srt le xs a m) (hi1 : a ≤ i) (hi2 : i ≤ m) (h1 : ∀ h, a ≤ h → h < i → le (xs.getD h default) (xs.getD m default)) (h2 : ∀ h, i ≤ h → h < m → le (xs.getD m default) (xs.getD h default))
    (hz : ∀ k, zs.getD k default = rotF xs i m (m + 1) k) : Srt le zs a (m + 1) := by
  intro p q hp hpq hq
  rw [hz, hz]
  have e1 : ∀ k, k < m + 1 → rotF xs i m (m + 1) k = if k < i then xs.getD k default else if k = i then xs.getD m default else xs.getD (k - 1) default := by
    intro k hk2
    unfold rotF
    (repeat' split) <;> first | (exfalso; omega) | rfl | (congr 1; omega)
  rw [e1 p (by omega), e1 q hq]
  by_cases c1 : q < i
  · rw [if_pos c1, if_pos (show p < i by omega)]; exact hs _ _ hp hpq (by omega)
  · rw [if_neg c1]
    by_cases c2 : p < i
    · rw [if_pos c2]
      by_cases c3 : q = i
      · rw [if_pos c3]; exact h1 _ hp c2
      · rw [if_neg c3]; exact Srt.le2 rf hs hp (by omega) (by omega)
    · rw [if_neg c2, if_neg (show ¬ q = i by omega)]
      by_cases c3 : p = i
      · rw [if_pos c3]; exact h2 _ (by omega) (by omega)
      · rw [if_neg c3]; exact hs _ _ (by omega) (by omega) (by omega)

include tr

/-- Behind the rotation. -/
theorem sym_law {xs zs : List α} {a m b mid s e : Nat} (hL : Srt le xs a m) (hR : Srt le xs m b) (h1 : a ≤ s) (h2 : s ≤ m) (h3 : m ≤ e) (h4 : e ≤ b) (hse : s + e = mid + m) (hsm : s ≤ mid)
    (c1 : s = a ∨ e = b ∨ le (xs.getD (s - 1) default) (xs.getD e default)) (c2 : s = m ∨ e = m ∨ le (xs.getD (e - 1) default) (xs.getD s default)) (hz : ∀ k, zs.getD k default = rotF xs s m e k) :
    Srt le zs a s ∧ Srt le zs s mid ∧ Srt le zs mid e ∧ Srt le zs e b ∧ ∀ i j, a ≤ i → i < mid → mid ≤ j → j < b → le (zs.getD i default) (zs.getD j default) := by
  have z1 : ∀ k, k < s → zs.getD k default = xs.getD k default := fun k hk => by rw [hz]; unfold rotF; rw [if_pos hk]
  have z2 : ∀ k, s ≤ k → k < mid → zs.getD k default = xs.getD (k + (m - s)) default := fun k hk1 hk2 => by rw [hz]; unfold rotF; rw [if_neg (by omega), if_pos (by omega)]
  have z3 : ∀ k, mid ≤ k → k < e → zs.getD k default = xs.getD (k - (e - m)) default := fun k hk1 hk2 => by rw [hz]; unfold rotF; rw [if_neg (by omega), if_neg (by omega), if_pos (by omega)]
  have z4 : ∀ k, e ≤ k → zs.getD k default = xs.getD k default := fun k hk1 => by rw [hz]; unfold rotF; rw [if_neg (by omega), if_neg (by omega), if_neg (by omega)]
  refine ⟨fun p q hp hpq hq => ?_, fun p q hp hpq hq => ?_, fun p q hp hpq hq => ?_, fun p q hp hpq hq => ?_, fun i j hi1 hi2 hj1 hj2 => ?_⟩
  · rw [z1 p (by omega), z1 q hq]; exact hL _ _ hp hpq (by omega)
  · rw [z2 p hp (by omega), z2 q (by omega) hq]; exact hR _ _ (by omega) (by omega) (by omega)
  · rw [z3 p hp (by omega), z3 q (by omega) hq]; exact hL _ _ (by omega) (by omega) (by omega)
  · rw [z4 p hp, z4 q (by omega)]; exact hR _ _ (by omega) (by omega) (by omega)
  · by_cases d1 : i < s
    · rw [z1 i d1]
      by_cases d2 : j < e
      · rw [z3 j hj1 d2]; exact hL _ _ hi1 (by omega) (by omega)
      · rw [z4 j (by omega)]
        have c1 : le (xs.getD (s - 1) default) (xs.getD e default) := by
          rcases c1 with c | c | c
          · omega
          · omega
          · exact c
        exact tr (Srt.le2 rf hL hi1 (show i ≤ s - 1 by omega) (by omega)) (tr c1 (Srt.le2 rf hR (by omega) (show e ≤ j by omega) hj2))
    · rw [z2 i (by omega) hi2]
      by_cases d2 : j < e
      · rw [z3 j hj1 d2]
        have c2 : le (xs.getD (e - 1) default) (xs.getD s default) := by
          rcases c2 with c | c | c
          · omega
          · omega
          · exact c
        exact tr (Srt.le2 rf hR (by omega) (show i + (m - s) ≤ e - 1 by omega) (by omega)) (tr c2 (Srt.le2 rf hL (by omega) (show s ≤ j - (e - m) by omega) (by omega)))
      · rw [z4 j (by omega)]; exact hR _ _ (by omega) (by omega) (by omega)
end

omit [Inhabited α] in
theorem parts {xs : List α} {lo hi : Nat} (h1 : lo ≤ hi) : xs = xs.take lo ++ ((xs.drop lo).take (hi - lo) ++ xs.drop hi) := by
  conv => lhs; rw [← List.take_append_drop lo xs, ← List.take_append_drop (hi - lo) (xs.drop lo), List.drop_drop]
  rw [show lo + (hi - lo) = hi by omega]
theorem list_ext_getD {xs ys : List α} (hl : xs.length = ys.length) (h : ∀ k, k < xs.length → xs.getD k default = ys.getD k default) : xs = ys := by
  refine List.ext_getElem hl fun i h1 h2 => ?_
  have := h i h1
  rwa [getD_eq h1, getD_eq h2] at this

theorem Out.mid {xs ys : List α} {lo hi : Nat} (h : Out xs ys lo hi) (h1 : lo ≤ hi) (h2 : hi ≤ xs.length) : ((ys.drop lo).take (hi - lo)).Perm ((xs.drop lo).take (hi - lo)) := by
  obtain ⟨hl, hp, ho⟩ := h
  have e1 : ys.take lo = xs.take lo := by
    refine list_ext_getD (by simp [hl]) fun k hk => ?_
    have hk : k < lo := by rw [List.length_take] at hk; omega
    rw [List.getD_eq_getElem?_getD, List.getD_eq_getElem?_getD, List.getElem?_take_of_lt hk, List.getElem?_take_of_lt hk, ← List.getD_eq_getElem?_getD, ← List.getD_eq_getElem?_getD]
    exact ho k (.inl hk)
  have e2 : ys.drop hi = xs.drop hi := by
    refine list_ext_getD (by simp [hl]) fun k hk => ?_
    rw [List.getD_eq_getElem?_getD, List.getD_eq_getElem?_getD, List.getElem?_drop, List.getElem?_drop, ← List.getD_eq_getElem?_getD, ← List.getD_eq_getElem?_getD]
    exact ho _ (.inr (by omega))
  rw [parts (xs := xs) h1, parts (xs := ys) h1, e1, e2] at hp
  exact List.perm_append_right_iff _ |>.1 (List.perm_append_left_iff _ |>.1 hp)
theorem Out.mem {xs ys : List α} {lo hi : Nat} (h : Out xs ys lo hi) (h2 : hi ≤ xs.length) {i : Nat} (hi1 : lo ≤ i) (hi2 : i < hi) : ∃ j, lo ≤ j ∧ j < hi ∧ ys.getD i default = xs.getD j default := by
  have hp := h.mid (by omega) h2
  have hl := h.1
  have hm : ys.getD i default ∈ (ys.drop lo).take (hi - lo) := by
    refine List.mem_iff_getElem?.2 ⟨i - lo, ?_⟩
    rw [List.getElem?_take_of_lt (by omega), List.getElem?_drop, show lo + (i - lo) = i by omega, getD_eq (by omega), List.getElem?_eq_getElem]
  obtain ⟨k, hk⟩ := List.mem_iff_getElem?.1 (hp.mem_iff.1 hm)
  have hk2 : k < hi - lo := by
    have := (List.getElem?_eq_some_iff.1 hk).1
    rw [List.length_take] at this; omega
  rw [List.getElem?_take_of_lt hk2, List.getElem?_drop] at hk
  exact ⟨lo + k, by omega, by omega, by rw [List.getD_eq_getElem?_getD (l := xs), hk]; rfl⟩

/-- Two parts, each sorted; no one of the first is above one of the second. -/
theorem Srt.join {le : α → α → Prop} {xs : List α} {a m b : Nat} (h1 : Srt le xs a m) (h2 : Srt le xs m b) (hc : ∀ i j, a ≤ i → i < m → m ≤ j → j < b → le (xs.getD i default) (xs.getD j default)) : Srt le xs a b := by
  intro p q hp hpq hq
  by_cases c1 : q < m
  · exact h1 p q hp hpq c1
  · by_cases c2 : m ≤ p
    · exact h2 p q c2 hpq hq
    · exact hc p q hp (by omega) (by omega) hq
theorem cross_out {le : α → α → Prop} {xs ys : List α} {a m b : Nat} (hc : ∀ i j, a ≤ i → i < m → m ≤ j → j < b → le (xs.getD i default) (xs.getD j default)) (hl : b ≤ xs.length) (ham : a ≤ m) (hmb : m ≤ b) (ho : Out xs ys a m ∨ Out xs ys m b) :
    ∀ i j, a ≤ i → i < m → m ≤ j → j < b → le (ys.getD i default) (ys.getD j default) := by
  intro i j h1 h2 h3 h4
  rcases ho with ho | ho
  · obtain ⟨k, k1, k2, k3⟩ := ho.mem (by omega) h1 h2
    rw [k3, ho.2.2 j (.inr h3)]
    exact hc k j k1 k2 h3 h4
  · obtain ⟨k, k1, k2, k3⟩ := ho.mem hl h3 h4
    rw [k3, ho.2.2 i (.inl h2)]
    exact hc i k h1 h2 k1 k2

/-- Sorted in blocks. -/
def SBlk (le : α → α → Prop) (xs : List α) (bs n : Nat) : Prop := ∀ q, Srt le xs (q * bs) (min (q * bs + bs) n)

end Go.Eng

/-! ## FnZf -/
namespace Go.Proofs.YtckikgkdplkopaaGreat
open Go Go.Eng

theorem fR0 (ys : List Mono) (k : Nat) : fR ys k 0 = .bool (zs (ys.getD k default).1.num) := rfl
theorem fR1 (ys : List Mono) (k : Nat) : fR ys k 1 = .ints .u32 (zm (ys.getD k default).1.num) := rfl
theorem fR2 (ys : List Mono) (k : Nat) : fR ys k 2 = .bool (zs ((ys.getD k default).1.den : Int)) := rfl
theorem fR3 (ys : List Mono) (k : Nat) : fR ys k 3 = .ints .u32 (zm ((ys.getD k default).1.den : Int)) := rfl
theorem fR4 (ys : List Mono) (k : Nat) : fR ys k 4 = .ints .i64 (ys.getD k default).2 := rfl

/-- The cells of a monomial. -/
def mL (m : Mono) : List C := [C.bool (zs m.1.num), C.ints .u32 (zm m.1.num), C.bool (zs (m.1.den : Int)), C.ints .u32 (zm (m.1.den : Int)), C.ints .i64 m.2]

theorem set_mono {ys : List Mono} {k : Nat} (hk : k < ys.length) (m : Mono) (i j : Nat) (hj : j < 5) : setElt (fR ys) k 0 (mL m) i j = fR (ys.set k m) i j := by
  unfold setElt fR
  by_cases h : i = k
  · subst h
    rw [if_pos rfl, if_pos (Nat.zero_le _), if_pos (by simpa [mL] using hj), getD_set_same hk, Nat.sub_zero]
    exact mC_list m hj
  · rw [if_neg h, getD_set_other (fun e => h e.symm)]
theorem set_mono2 {f : Nat → Nat → C} {ys : List Mono} {k : Nat} (hk : k < ys.length) (m : Mono) (hf : ∀ i j, i < ys.length → j < 5 → f i j = fR ys i j) (i j : Nat) (hi : i < ys.length) (hj : j < 5) : setElt f k 0 (mL m) i j = fR (ys.set k m) i j := by
  rw [← set_mono hk m i j hj]
  unfold setElt
  rw [hf i j hi hj]
theorem swp_rows {ys : List Mono} {a b : Nat} (ha : a < ys.length) (hb : b < ys.length) : ∀ (i j : Nat), i < ys.length → j < 5 →
    setElt (setElt (fR ys) a 0 (mL (ys.getD b default))) b 0 (mL (ys.getD a default)) i j = fR (swp ys a b) i j := by
  intro i j hi hj
  unfold swp
  refine set_mono2 (by simpa using hb) _ (fun i j hi hj => set_mono ha _ i j hj) i j (by simpa using hi) hj

/-! ### The closures of normal. -/
set_option maxRecDepth 10000 in
theorem cl1_spec (a b : Mono) (ha : a.2.length < 2 ^ 40) (hb : b.2.length < 2 ^ 40) : PureCalls Tryz.prog 74 [MV a, MV b] (.one (.int .i64 (cmpV a.2 b.2))) := by
  refine pure_of_vc T_ok mixed Tryz.func74 rfl (by decide) _ (by simp [Tryz.ntmps74]) ⟨[0, 1, 2, 3, 4], []⟩ (by kernel_rfl) _ ?_
  show vc T Tryz.prog ⟨[0, 1, 2, 3, 4], []⟩ (Option.get! Tryz.f74.body) _ _
  simp only [Tryz.f74, Tryz.ntmps74, Option.get!, initSt, initM, envOf, Nat.reduceAdd]
  simp only [vx, T, s_i5, s_n0, s_i6, s_i7, ↓reduceIte, s_n1, s_n2, s_n3, s_n4, s_n5, s_n6, s_n7, s_n8, s_n9, reduceCtorEq, s_i1, s_i2, s_i3, s_i4, MV, mC]
  refine CallK.go (compareV_spec a.2 b.2 ha hb) ?_
  simp only [vx, T, s_i5, s_n0, s_i6, s_i7, ↓reduceIte, s_n1, s_n2, s_n3, s_n4, s_n5, s_n6, s_n7, s_n8, s_n9, reduceCtorEq, s_i1, s_i2, s_i3, s_i4]
  exact VLe.of_eq rfl

set_option maxRecDepth 10000 in
theorem cl2_spec (m : Mono) (hm : qm m.1 < 2 ^ 36) : PureCalls Tryz.prog 78 [MV m] (.one (.bool (decide (m.1 = 0)))) := by
  refine pure_of_vc T_ok mixed Tryz.func78 rfl (by decide) _ (by simp [Tryz.ntmps78]) ⟨[0, 1, 2], []⟩ (by kernel_rfl) _ ?_
  show vc T Tryz.prog ⟨[0, 1, 2], []⟩ (Option.get! Tryz.f78.body) _ _
  simp only [Tryz.f78, Tryz.ntmps78, Option.get!, initSt, initM, envOf, Nat.reduceAdd]
  simp only [vx, T, s_i5, s_n0, s_i6, s_i7, ↓reduceIte, s_n1, s_n2, s_n3, s_n4, s_n5, s_n6, s_n7, s_n8, s_n9, reduceCtorEq, s_i1, s_i2, s_i3, s_i4, MV, mC]
  refine CallK.go (iQSign_spec m.1 hm) ?_
  simp only [vx, T, s_i5, s_n0, s_i6, s_i7, ↓reduceIte, s_n1, s_n2, s_n3, s_n4, s_n5, s_n6, s_n7, s_n8, s_n9, reduceCtorEq, s_i1, s_i2, s_i3, s_i4]
  refine vb ?_
  by_cases h : m.1 = 0
  · rw [h]; rfl
  · rw [decide_eq_false h, decide_eq_false]
    exact fun e => h (Rat.num_eq_zero.1 (sgn_zero.1 (by omega)))

/-! ### Swaps. -/
def cF : C := .fn 74 0 (fun _ => .any)
def SwR (xs : List Mono) (N a b n : Nat) (r : V) (B' : Bk) : Prop := ∃ ys, r = .tup [] ∧ B' = .rows 55 5 N (fR ys) ∧ Out xs ys a (b + n) ∧ ∀ k, ys.getD k default = swF xs a b n k

set_option maxHeartbeats 4000000 in
set_option maxRecDepth 10000 in
theorem swapR_spec (xs : List Mono) {N : Nat} (hN : xs.length = N) (a b n : Nat) (hab : a + n ≤ b) (hb : b + n ≤ N) (hl : N < 2 ^ 40) : MutCalls Tryz.prog 176 [.one (.own 0 5 0 N), .one (.int .i64 a), .one (.int .i64 b), .one (.int .i64 n), .one cF] (.rows 55 5 N (fR xs)) (SwR xs N a b n) := by
  refine mut_of_vc T_ok mixed Tryz.func176 rfl (by decide) _ (by simp [Tryz.ntmps176]) ⟨[0, 1, 2, 3, 10, 13], [(3, [(21, [4, 5, 6, 7, 22]), (23, [])])]⟩ (by kernel_rfl) (.rows 55 5 N (fR xs)) trivial _ ?_
  show vc T Tryz.prog ⟨[0, 1, 2, 3, 10, 13], [(3, [(21, [4, 5, 6, 7, 22]), (23, [])])]⟩ (Option.get! Tryz.f176.body) _ _
  simp only [Tryz.f176, Tryz.ntmps176, Option.get!, initSt, initM, envOf, Nat.reduceAdd]
  simp only [vx, T, s_i5, s_n0, s_i6, s_i7, ↓reduceIte, s_n1, s_n2, s_n3, s_n4, s_n5, s_n6, s_n7, s_n8, s_n9, reduceCtorEq, s_i1, s_i2, s_i3, s_i4, cF]
  refine LoopK.go (fun y : {y : Nat × List Mono // y.1 ≤ n ∧ Out xs y.2 a (b + n) ∧ ∀ k, y.2.getD k default = swF xs a b y.1 k} => ⟨[(0, .one (.own 0 5 0 N)), (1, .one (.int .i64 a)), (2, .one (.int .i64 b)), (3, .one (.int .i64 n)), (10, .one (.int .i64 y.1.1))], [(0, ⟨.rows 55 5 N (fR y.1.2), true⟩)], 1, 38⟩) (fun y => n - y.1.1) ⟨(0, xs), by omega, .refl _ _ _, fun k => (swF_zero xs a b k).symm⟩ ?_ (fun ⟨⟨i, ys⟩, hi, ho, hs⟩ => ?_)
  · refine Sub.auto ?_; simp only [rx, envRen, vRen, cRen, lRen, ownRen, bRen, apartRen, emptyBk, ren, ↓reduceIte, s_n1, s_n2, s_n3, s_n4, s_n5, s_n6, s_n7, s_n8, s_n9, reduceCtorEq, s_i1, s_i2, s_i3, s_i4, autoR, autoOne, Int.natCast_add, Int.natCast_one, Int.natCast_zero]
  simp only at hi ho hs
  have hyl := ho.1
  simp only [vx, T, s_i5, s_n0, s_i6, s_i7, ↓reduceIte, s_n1, s_n2, s_n3, s_n4, s_n5, s_n6, s_n7, s_n8, s_n9, reduceCtorEq, s_i1, s_i2, s_i3, s_i4]
  refine ⟨fun h1 => Later.go ?_, fun h1 => Later.go ?_⟩
  · have hin : i < n := by omega
    have i1 : IntKind.i64.wrap ((i : Int) + 1) = ((i + 1 : Nat) : Int) := by rw [IntWalk.i64_in _ (by omega)]; omega
    have a1 : IntKind.i64.wrap ((a : Int) + i) = ((a + i : Nat) : Int) := by rw [IntWalk.i64_in _ (by omega)]; omega
    have b1 : IntKind.i64.wrap ((b : Int) + i) = ((b + i : Nat) : Int) := by rw [IntWalk.i64_in _ (by omega)]; omega
    simp only [vx, T, s_i5, s_n0, s_i6, s_i7, ↓reduceIte, s_n1, s_n2, s_n3, s_n4, s_n5, s_n6, s_n7, s_n8, s_n9, reduceCtorEq, s_i1, s_i2, s_i3, s_i4, fR0, fR1, fR2, fR3, fR4, a1, b1]
    simp only [i1]
    refine ⟨by omega, by omega, by omega, by omega, by omega, loopQ.go ⟨(i + 1, swp ys (a + i) (b + i)), by omega, ho.swp (by omega) (by omega) (by omega) (by omega) (by omega), swF_step hs (by omega) (by omega)⟩ ?_ ?_⟩
    · refine Sub.auto ?_; simp only [rx, envRen, vRen, cRen, lRen, ownRen, bRen, apartRen, emptyBk, ren, ↓reduceIte, s_n1, s_n2, s_n3, s_n4, s_n5, s_n6, s_n7, s_n8, s_n9, reduceCtorEq, s_i1, s_i2, s_i3, s_i4, autoR, autoOne, Int.natCast_add, Int.natCast_one, Int.natCast_zero]
      rw [← hN, ← hyl]
      exact swp_rows (by omega) (by omega)
    · simp only; omega
  · have hin : i = n := by omega
    subst hin
    simp only [vx, T, s_i5, s_n0, s_i6, s_i7, ↓reduceIte, s_n1, s_n2, s_n3, s_n4, s_n5, s_n6, s_n7, s_n8, s_n9, reduceCtorEq, s_i1, s_i2, s_i3, s_i4]
    exact ⟨ys, rfl, rfl, ho, hs⟩

/-! ### Rotations. -/
def RotR (xs : List Mono) (N a m b : Nat) (r : V) (B' : Bk) : Prop := ∃ ys, r = .tup [] ∧ B' = .rows 55 5 N (fR ys) ∧ Out xs ys a b ∧ ∀ k, ys.getD k default = rotF xs a m b k

set_option maxHeartbeats 4000000 in
set_option maxRecDepth 10000 in
theorem rot_spec (xs : List Mono) {N : Nat} (hN : xs.length = N) (a m b : Nat) (ham : a < m) (hmb : m < b) (hb : b ≤ N) (hl : N < 2 ^ 40) : MutCalls Tryz.prog 169 [.one (.own 0 5 0 N), .one (.int .i64 a), .one (.int .i64 m), .one (.int .i64 b), .one cF] (.rows 55 5 N (fR xs)) (RotR xs N a m b) := by
  refine mut_of_vc T_ok mixed Tryz.func169 rfl (by decide) _ (by simp [Tryz.ntmps169]) ⟨[0, 1, 2, 3, 4, 10, 11, 20, 23], []⟩ (by kernel_rfl) (.rows 55 5 N (fR xs)) trivial _ ?_
  show vc T Tryz.prog ⟨[0, 1, 2, 3, 4, 10, 11, 20, 23], []⟩ (Option.get! Tryz.f169.body) _ _
  simp only [Tryz.f169, Tryz.ntmps169, Option.get!, initSt, initM, envOf, Nat.reduceAdd]
  have w1 : IntKind.i64.wrap ((m : Int) - a) = ((m - a : Nat) : Int) := by rw [IntWalk.i64_in _ (by omega)]; omega
  have w2 : IntKind.i64.wrap ((b : Int) - m) = ((b - m : Nat) : Int) := by rw [IntWalk.i64_in _ (by omega)]; omega
  simp only [vx, T, s_i5, s_n0, s_i6, s_i7, ↓reduceIte, s_n1, s_n2, s_n3, s_n4, s_n5, s_n6, s_n7, s_n8, s_n9, reduceCtorEq, s_i1, s_i2, s_i3, s_i4, cF, w1, w2]
  refine LoopK.go (fun y : {y : Nat × Nat × List Mono // 0 < y.1 ∧ 0 < y.2.1 ∧ y.1 ≤ m - a ∧ y.2.1 ≤ b - m ∧ Out xs y.2.2 a b ∧ ∀ k, rotF y.2.2 (m - y.1) m (m + y.2.1) k = rotF xs a m b k} => ⟨[(0, .one (.own 0 5 0 N)), (1, .one (.int .i64 a)), (2, .one (.int .i64 m)), (3, .one (.int .i64 b)), (4, .one cF), (10, .one (.int .i64 y.1.1)), (11, .one (.int .i64 y.1.2.1))], [(0, ⟨.rows 55 5 N (fR y.1.2.2), true⟩)], 1, 58⟩) (fun y => y.1.1 + y.1.2.1) ⟨(m - a, b - m, xs), by simp only; omega, by simp only; omega, by simp only; omega, by simp only; omega, .refl _ _ _, fun k => by simp only; rw [show m - (m - a) = a by omega, show m + (b - m) = b by omega]⟩ ?_ (fun ⟨⟨i, j, ys⟩, hi0, hj0, hi, hj, ho, hr⟩ => ?_)
  · refine Sub.auto ?_; simp only [rx, envRen, vRen, cRen, lRen, ownRen, bRen, apartRen, emptyBk, ren, ↓reduceIte, s_n1, s_n2, s_n3, s_n4, s_n5, s_n6, s_n7, s_n8, s_n9, reduceCtorEq, s_i1, s_i2, s_i3, s_i4, autoR, autoOne, Int.natCast_add, Int.natCast_one, Int.natCast_zero, cF]
  simp only at hi0 hj0 hi hj ho hr
  have hyl := ho.1
  have w3 : IntKind.i64.wrap ((m : Int) - i) = ((m - i : Nat) : Int) := by rw [IntWalk.i64_in _ (by omega)]; omega
  have w4 : IntKind.i64.wrap ((m : Int) + j) = ((m + j : Nat) : Int) := by rw [IntWalk.i64_in _ (by omega)]; omega
  have w5 : IntKind.i64.wrap (((m + j : Nat) : Int) - i) = ((m + j - i : Nat) : Int) := by rw [IntWalk.i64_in _ (by omega)]; omega
  simp only [vx, T, s_i5, s_n0, s_i6, s_i7, ↓reduceIte, s_n1, s_n2, s_n3, s_n4, s_n5, s_n6, s_n7, s_n8, s_n9, reduceCtorEq, s_i1, s_i2, s_i3, s_i4, cF]
  refine ⟨fun h1 => Later.go ?_, fun h1 => Later.go ?_⟩
  · simp only [vx, T, s_i5, s_n0, s_i6, s_i7, ↓reduceIte, s_n1, s_n2, s_n3, s_n4, s_n5, s_n6, s_n7, s_n8, s_n9, reduceCtorEq, s_i1, s_i2, s_i3, s_i4, cF]
    refine ⟨fun h2 => Later.go ?_, fun h2 => Later.go ?_⟩
    · have w6 : IntKind.i64.wrap ((i : Int) - j) = ((i - j : Nat) : Int) := by rw [IntWalk.i64_in _ (by omega)]; omega
      simp only [vx, T, s_i5, s_n0, s_i6, s_i7, ↓reduceIte, s_n1, s_n2, s_n3, s_n4, s_n5, s_n6, s_n7, s_n8, s_n9, reduceCtorEq, s_i1, s_i2, s_i3, s_i4, cF, w3]
      refine CallK.mut 0 rfl trivial (swapR_spec ys (hyl.trans hN) (m - i) m j (by omega) (by omega) (by omega)) ?_
      rintro _ _ ⟨zs, rfl, rfl, ho2, hz⟩ _
      simp only [vx, T, s_i5, s_n0, s_i6, s_i7, ↓reduceIte, s_n1, s_n2, s_n3, s_n4, s_n5, s_n6, s_n7, s_n8, s_n9, reduceCtorEq, s_i1, s_i2, s_i3, s_i4, cF, w6]
      refine loopQ.go ⟨(i - j, j, zs), by simp only; omega, hj0, by simp only; omega, hj, ho.trans (ho2.mono (by omega) (by omega)), fun k => (rot_left hz (by omega) (by omega) k).trans (hr k)⟩ ?_ ?_
      · refine Sub.auto ?_; simp only [rx, envRen, vRen, cRen, lRen, ownRen, bRen, apartRen, emptyBk, ren, ↓reduceIte, s_n1, s_n2, s_n3, s_n4, s_n5, s_n6, s_n7, s_n8, s_n9, reduceCtorEq, s_i1, s_i2, s_i3, s_i4, autoR, autoOne, Int.natCast_add, Int.natCast_one, Int.natCast_zero, cF]
      · simp only; omega
    · have w6 : IntKind.i64.wrap ((j : Int) - i) = ((j - i : Nat) : Int) := by rw [IntWalk.i64_in _ (by omega)]; omega
      simp only [vx, T, s_i5, s_n0, s_i6, s_i7, ↓reduceIte, s_n1, s_n2, s_n3, s_n4, s_n5, s_n6, s_n7, s_n8, s_n9, reduceCtorEq, s_i1, s_i2, s_i3, s_i4, cF, w3, w4, w5]
      refine CallK.mut 0 rfl trivial (swapR_spec ys (hyl.trans hN) (m - i) (m + j - i) i (by omega) (by omega) (by omega)) ?_
      rintro _ _ ⟨zs, rfl, rfl, ho2, hz⟩ _
      simp only [vx, T, s_i5, s_n0, s_i6, s_i7, ↓reduceIte, s_n1, s_n2, s_n3, s_n4, s_n5, s_n6, s_n7, s_n8, s_n9, reduceCtorEq, s_i1, s_i2, s_i3, s_i4, cF, w6]
      refine loopQ.go ⟨(i, j - i, zs), hi0, by simp only; omega, hi, by simp only; omega, ho.trans (ho2.mono (by omega) (by omega)), fun k => (rot_right hz (by omega) (by omega) k).trans (hr k)⟩ ?_ ?_
      · refine Sub.auto ?_; simp only [rx, envRen, vRen, cRen, lRen, ownRen, bRen, apartRen, emptyBk, ren, ↓reduceIte, s_n1, s_n2, s_n3, s_n4, s_n5, s_n6, s_n7, s_n8, s_n9, reduceCtorEq, s_i1, s_i2, s_i3, s_i4, autoR, autoOne, Int.natCast_add, Int.natCast_one, Int.natCast_zero, cF]
      · simp only; omega
  · have hij : i = j := by omega
    subst hij
    simp only [vx, T, s_i5, s_n0, s_i6, s_i7, ↓reduceIte, s_n1, s_n2, s_n3, s_n4, s_n5, s_n6, s_n7, s_n8, s_n9, reduceCtorEq, s_i1, s_i2, s_i3, s_i4, cF, w3]
    refine CallK.mut 0 rfl trivial (swapR_spec ys (hyl.trans hN) (m - i) m i (by omega) (by omega) (by omega)) ?_
    rintro _ _ ⟨zs, rfl, rfl, ho2, hz⟩ _
    simp only [vx, T, s_i5, s_n0, s_i6, s_i7, ↓reduceIte, s_n1, s_n2, s_n3, s_n4, s_n5, s_n6, s_n7, s_n8, s_n9, reduceCtorEq, s_i1, s_i2, s_i3, s_i4, cF]
    exact ⟨zs, rfl, rfl, ho.trans (ho2.mono (by omega) (by omega)), fun k => (rot_eq hz (by omega) k).trans (hr k)⟩

end Go.Proofs.YtckikgkdplkopaaGreat
