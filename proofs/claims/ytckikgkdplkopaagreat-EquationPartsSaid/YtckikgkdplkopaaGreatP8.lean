/-
  The walks and laws under the rows of the equation package: what its functions and their references compute, for polynomials in normal form.
  (Text 8 of 8; made by a program out of smaller texts.)
-/
import Derived.Lib.AppendZerosOnto
import Derived.Lib.Walk
import Derived.Deep.Slices
import Derived.ChangeArms
import Derived.ChangeSame
import Derived.Below
import Derived.ProofKit
import Derived.Test.YtckikgkdplkopaaGreatP7
set_option linter.unusedSimpArgs false
set_option linter.unusedVariables false
open Nat renaming reduceAdd → s_n1, reduceMul → s_n2, reduceSub → s_n3, reduceEqDiff → s_n4, reduceLT → s_n5, reduceLeDiff → s_n6, reduceBEq → s_n7, reduceDiv → s_n8, reduceMod → s_n9, reducePow → s_n0
open Int renaming reduceToNat → s_i1, reduceLE → s_i2, reduceLT → s_i3, reduceEq → s_i4, reducePow → s_i5, reduceSub → s_i6, reduceNeg → s_i7

/-! ## FnZh -/
namespace Go.Proofs.YtckikgkdplkopaaGreat
open Go Go.Eng

theorem swp_comm {xs : List Mono} {i j : Nat} (hi : i < xs.length) (hj : j < xs.length) : swp xs i j = swp xs j i := by
  refine list_ext_getD (by rw [swp_length, swp_length]) fun k _ => ?_
  rw [swp_get hi hj, swp_get hj hi]
  by_cases h1 : k = j
  · by_cases h2 : k = i
    · rw [if_pos h1, if_pos h2, ← h1, ← h2]
    · rw [if_pos h1, if_neg h2, if_pos h1]
  · rw [if_neg h1]
    by_cases h2 : k = i
    · rw [if_pos h2, if_pos h2]
    · rw [if_neg h2, if_neg h2, if_neg h1]

set_option maxHeartbeats 4000000 in
set_option maxRecDepth 10000 in
theorem ins_spec (xs : List Mono) {N : Nat} (hN : xs.length = N) (a b : Nat) (hab : a ≤ b) (hb : b ≤ N) (hl : N < 2 ^ 40) (hx : LOk xs) :
    MutCalls Tryz.prog 140 [.one (.own 0 5 0 N), .one (.int .i64 a), .one (.int .i64 b), .one cF] (.rows 55 5 N (fR xs)) (SymR xs N a b) := by
  refine mut_of_vc T_ok mixed Tryz.func140 rfl (by decide) _ (by simp [Tryz.ntmps140]) ⟨[0, 1, 2, 3, 8, 9, 14, 34], [(6, [(15, [2, 3, 4, 16]), (17, [])])]⟩ (by kernel_rfl) (.rows 55 5 N (fR xs)) trivial _ ?_
  show vc T Tryz.prog ⟨[0, 1, 2, 3, 8, 9, 14, 34], [(6, [(15, [2, 3, 4, 16]), (17, [])])]⟩ (Option.get! Tryz.f140.body) _ _
  simp only [Tryz.f140, Tryz.ntmps140, Option.get!, initSt, initM, envOf, Nat.reduceAdd]
  have w1 : IntKind.i64.wrap ((a : Int) + 1) = ((a + 1 : Nat) : Int) := by rw [IntWalk.i64_in _ (by omega)]; omega
  simp only [vx, T, s_i5, s_n0, s_i6, s_i7, ↓reduceIte, s_n1, s_n2, s_n3, s_n4, s_n5, s_n6, s_n7, s_n8, s_n9, reduceCtorEq, s_i1, s_i2, s_i3, s_i4, cF, w1]
  refine LoopK.go (fun y : {y : Nat × List Mono // a + 1 ≤ y.1 ∧ y.1 ≤ max b (a + 1) ∧ Out xs y.2 a b ∧ Srt leM y.2 a y.1} => ⟨[(0, .one (.own 0 5 0 N)), (1, .one (.int .i64 a)), (2, .one (.int .i64 b)), (3, .one cF), (8, .one (.int .i64 y.1.1))], [(0, ⟨.rows 55 5 N (fR y.1.2), true⟩)], 1, 53⟩) (fun y => b - y.1.1) ⟨(a + 1, xs), Nat.le_refl _, by simp only; omega, .refl _ _ _, fun p q h1 h2 h3 => by simp only at h3; omega⟩ ?_ (fun ⟨⟨i, ys⟩, hi1, hi2, ho, hs⟩ => ?_)
  · refine Sub.auto ?_; simp only [rx, envRen, vRen, cRen, lRen, ownRen, bRen, apartRen, emptyBk, ren, ↓reduceIte, s_n1, s_n2, s_n3, s_n4, s_n5, s_n6, s_n7, s_n8, s_n9, reduceCtorEq, s_i1, s_i2, s_i3, s_i4, autoR, autoOne, Int.natCast_add, Int.natCast_one, Int.natCast_zero, cF]
  simp only at hi1 hi2 ho hs
  simp only [vx, T, s_i5, s_n0, s_i6, s_i7, ↓reduceIte, s_n1, s_n2, s_n3, s_n4, s_n5, s_n6, s_n7, s_n8, s_n9, reduceCtorEq, s_i1, s_i2, s_i3, s_i4, cF]
  refine ⟨fun h1 => Later.go ?_, fun h1 => Later.go ?_⟩
  · have hib : i < b := by omega
    have i1 : IntKind.i64.wrap ((i : Int) + 1) = ((i + 1 : Nat) : Int) := by rw [IntWalk.i64_in _ (by omega)]; omega
    simp only [vx, T, s_i5, s_n0, s_i6, s_i7, ↓reduceIte, s_n1, s_n2, s_n3, s_n4, s_n5, s_n6, s_n7, s_n8, s_n9, reduceCtorEq, s_i1, s_i2, s_i3, s_i4, cF]
    refine LoopK.go (fun y : {y : Nat × List Mono // Out xs y.2 a b ∧ Ins leM a i y.1 y.2} => ⟨[(0, .one (.own 0 5 0 N)), (1, .one (.int .i64 a)), (2, .one (.int .i64 b)), (3, .one cF), (8, .one (.int .i64 i)), (9, .one (.int .i64 y.1.1))], [(0, ⟨.rows 55 5 N (fR y.1.2), true⟩)], 1, 53⟩) (fun y => y.1.1) ⟨(i, ys), ho, Ins.init hs (by omega)⟩ ?_ (fun ⟨⟨k, zs⟩, hoz, hI⟩ => ?_)
    · refine Sub.auto ?_; simp only [rx, envRen, vRen, cRen, lRen, ownRen, bRen, apartRen, emptyBk, ren, ↓reduceIte, s_n1, s_n2, s_n3, s_n4, s_n5, s_n6, s_n7, s_n8, s_n9, reduceCtorEq, s_i1, s_i2, s_i3, s_i4, autoR, autoOne, Int.natCast_add, Int.natCast_one, Int.natCast_zero, cF]
    simp only at hoz hI
    have hki := hI.ki
    have hkl := hI.lok
    have hzl := hoz.1
    have hxz := hx.perm hoz.2.1
    simp only [vx, T, s_i5, s_n0, s_i6, s_i7, ↓reduceIte, s_n1, s_n2, s_n3, s_n4, s_n5, s_n6, s_n7, s_n8, s_n9, reduceCtorEq, s_i1, s_i2, s_i3, s_i4, cF]
    refine ⟨fun h2 => Later.go ?_, fun h2 => Later.go ?_⟩
    · have k1 : IntKind.i64.wrap ((k : Int) - 1) = ((k - 1 : Nat) : Int) := by rw [IntWalk.i64_in _ (by omega)]; omega
      simp only [vx, T, s_i5, s_n0, s_i6, s_i7, ↓reduceIte, s_n1, s_n2, s_n3, s_n4, s_n5, s_n6, s_n7, s_n8, s_n9, reduceCtorEq, s_i1, s_i2, s_i3, s_i4, cF, k1, fR0, fR1, fR2, fR3, fR4]
      refine ⟨by omega, by omega, CallK.go (cl1_spec (zs.getD k default) (zs.getD (k - 1) default) (hxz.get _) (hxz.get _)) ?_⟩
      simp only [vx, T, s_i5, s_n0, s_i6, s_i7, ↓reduceIte, s_n1, s_n2, s_n3, s_n4, s_n5, s_n6, s_n7, s_n8, s_n9, reduceCtorEq, s_i1, s_i2, s_i3, s_i4, cF]
      refine ⟨fun h3 => Later.go ?_, fun h3 => Later.go ?_⟩
      · have hst := hI.step (by omega) (by omega) (leM_lt h3)
        rw [swp_comm (by omega) (by omega)] at hst
        simp only [vx, T, s_i5, s_n0, s_i6, s_i7, ↓reduceIte, s_n1, s_n2, s_n3, s_n4, s_n5, s_n6, s_n7, s_n8, s_n9, reduceCtorEq, s_i1, s_i2, s_i3, s_i4, cF, k1, fR0, fR1, fR2, fR3, fR4]
        refine ⟨by omega, by omega, by omega, by omega, by omega, loopQ.go ⟨(k - 1, swp zs k (k - 1)), hoz.swp (by omega) (by omega) (by omega) (by omega) (by omega), hst⟩ ?_ ?_⟩
        · refine Sub.auto ?_; simp only [rx, envRen, vRen, cRen, lRen, ownRen, bRen, apartRen, emptyBk, ren, ↓reduceIte, s_n1, s_n2, s_n3, s_n4, s_n5, s_n6, s_n7, s_n8, s_n9, reduceCtorEq, s_i1, s_i2, s_i3, s_i4, autoR, autoOne, Int.natCast_add, Int.natCast_one, Int.natCast_zero, cF]
          rw [← hN, ← hzl]
          exact swp_rows (by omega) (by omega)
        · simp only; omega
      · have hd := Ins.done (le := leM) (fun {_ _ _} h1 h2 => leM_tr h1 h2) hI (.inr (leM_ge h3))
        simp only [vx, T, s_i5, s_n0, s_i6, s_i7, ↓reduceIte, s_n1, s_n2, s_n3, s_n4, s_n5, s_n6, s_n7, s_n8, s_n9, reduceCtorEq, s_i1, s_i2, s_i3, s_i4, cF]
        simp only [i1]
        refine loopQ.go ⟨(i + 1, zs), by simp only; omega, by simp only; omega, hoz, hd⟩ ?_ ?_
        · refine Sub.auto ?_; simp only [rx, envRen, vRen, cRen, lRen, ownRen, bRen, apartRen, emptyBk, ren, ↓reduceIte, s_n1, s_n2, s_n3, s_n4, s_n5, s_n6, s_n7, s_n8, s_n9, reduceCtorEq, s_i1, s_i2, s_i3, s_i4, autoR, autoOne, Int.natCast_add, Int.natCast_one, Int.natCast_zero, cF]
        · simp only; omega
    · have hd := Ins.done (le := leM) (fun {_ _ _} h1 h2 => leM_tr h1 h2) hI (.inl (by omega))
      simp only [vx, T, s_i5, s_n0, s_i6, s_i7, ↓reduceIte, s_n1, s_n2, s_n3, s_n4, s_n5, s_n6, s_n7, s_n8, s_n9, reduceCtorEq, s_i1, s_i2, s_i3, s_i4, cF]
      simp only [i1]
      refine loopQ.go ⟨(i + 1, zs), by simp only; omega, by simp only; omega, hoz, hd⟩ ?_ ?_
      · refine Sub.auto ?_; simp only [rx, envRen, vRen, cRen, lRen, ownRen, bRen, apartRen, emptyBk, ren, ↓reduceIte, s_n1, s_n2, s_n3, s_n4, s_n5, s_n6, s_n7, s_n8, s_n9, reduceCtorEq, s_i1, s_i2, s_i3, s_i4, autoR, autoOne, Int.natCast_add, Int.natCast_one, Int.natCast_zero, cF]
      · simp only; omega
  · simp only [vx, T, s_i5, s_n0, s_i6, s_i7, ↓reduceIte, s_n1, s_n2, s_n3, s_n4, s_n5, s_n6, s_n7, s_n8, s_n9, reduceCtorEq, s_i1, s_i2, s_i3, s_i4, cF]
    exact ⟨ys, rfl, rfl, ho, hs.mono (Nat.le_refl _) (by omega)⟩

/-! ### The whole sort. -/
theorem dvd_step {d p a : Nat} (hp : d ∣ p) (ha : d ∣ a) (h : p < a) : p + d ≤ a := by
  have h1 : d ∣ a - p := Nat.dvd_sub ha hp
  have h2 := Nat.le_of_dvd (by omega) h1
  omega
/-- Sorted in blocks, from a place to another. -/
def SB2 (ys : List Mono) (bs lo hi N : Nat) : Prop := ∀ p, bs ∣ p → lo ≤ p → p < hi → Srt leM ys p (min (p + bs) N)
theorem SB2.first {ys zs : List Mono} {a N : Nat} (h : SB2 ys 20 0 a N) (ha : 20 ∣ a) (ho : Out ys zs a (a + 20)) (hs : Srt leM zs a (a + 20)) : SB2 zs 20 0 (a + 20) N := by
  intro p hp h1 h2
  by_cases h3 : p < a
  · have := dvd_step hp ha h3
    exact (h p hp h1 h3).out ho (.inl (by omega))
  · by_cases h4 : p = a
    · subst h4; exact hs.mono (Nat.le_refl _) (by omega)
    · have := dvd_step ha hp (by omega)
      omega
theorem SB2.last {ys zs : List Mono} {a N : Nat} (h : SB2 ys 20 0 a N) (ha : 20 ∣ a) (hN : N < a + 20) (ho : Out ys zs a N) (hs : Srt leM zs a N) : SB2 zs 20 0 N N := by
  intro p hp h1 h2
  by_cases h3 : p < a
  · have := dvd_step hp ha h3
    exact (h p hp h1 h3).out ho (.inl (by omega))
  · by_cases h4 : p = a
    · subst h4; exact hs.mono (Nat.le_refl _) (by omega)
    · have := dvd_step ha hp (by omega)
      omega
theorem SB2.merge {ys zs : List Mono} {a b bs N : Nat} (h : SB2 ys (2 * bs) 0 a N) (ha : 2 * bs ∣ a) (hb : b = min (a + 2 * bs) N) (ho : Out ys zs a b) (hs : Srt leM zs a b) : SB2 zs (2 * bs) 0 b N := by
  intro p hp h1 h2
  by_cases h3 : p < a
  · have := dvd_step hp ha h3
    exact (h p hp h1 h3).out ho (.inl (by omega))
  · by_cases h4 : p = a
    · subst h4; exact hs.mono (Nat.le_refl _) (by omega)
    · have := dvd_step ha hp (by omega)
      omega
theorem SB2.rest {ys zs : List Mono} {a b bs N : Nat} (h : SB2 ys bs a N N) (hb : a ≤ b) (ho : Out ys zs a b) : SB2 zs bs b N N := by
  intro p hp h1 h2
  exact (h p hp (by omega) h2).out ho (.inr h1)

def StabR (xs : List Mono) (N : Nat) (r : V) (B' : Bk) : Prop := ∃ ys, r = .tup [] ∧ B' = .rows 55 5 N (fR ys) ∧ ys.Perm xs ∧ Srt leM ys 0 N

set_option maxHeartbeats 4000000 in
set_option maxRecDepth 10000 in
theorem stable_spec (xs : List Mono) {N : Nat} (hN : xs.length = N) (hl : N < 2 ^ 38) (hx : LOk xs) :
    MutCalls Tryz.prog 108 [.one (.own 0 5 0 N), .one (.int .i64 N), .one cF] (.rows 55 5 N (fR xs)) (StabR xs N) := by
  refine mut_of_vc T_ok mixed Tryz.func108 rfl (by decide) _ (by simp [Tryz.ntmps108]) ⟨[0, 1, 2, 6, 7, 8, 9, 13, 30, 35, 54], []⟩ (by kernel_rfl) (.rows 55 5 N (fR xs)) trivial _ ?_
  show vc T Tryz.prog ⟨[0, 1, 2, 6, 7, 8, 9, 13, 30, 35, 54], []⟩ (Option.get! Tryz.f108.body) _ _
  simp only [Tryz.f108, Tryz.ntmps108, Option.get!, initSt, initM, envOf, Nat.reduceAdd]
  simp only [vx, T, s_i5, s_n0, s_i6, s_i7, ↓reduceIte, s_n1, s_n2, s_n3, s_n4, s_n5, s_n6, s_n7, s_n8, s_n9, reduceCtorEq, s_i1, s_i2, s_i3, s_i4, cF]
  refine LoopK.go (fun y : {y : Nat × List Mono // 20 ∣ y.1 ∧ y.1 ≤ N ∧ y.2.Perm xs ∧ SB2 y.2 20 0 y.1 N} => ⟨[(0, .one (.own 0 5 0 N)), (1, .one (.int .i64 N)), (2, .one cF), (6, .one (.int .i64 20)), (7, .one (.int .i64 y.1.1)), (8, .one (.int .i64 (y.1.1 + 20 : Nat)))], [(0, ⟨.rows 55 5 N (fR y.1.2), true⟩)], 1, 63⟩) (fun y => N - y.1.1) ⟨(0, xs), Nat.dvd_zero _, Nat.zero_le _, .refl _, fun p _ _ h => absurd h (Nat.not_lt_zero _)⟩ ?_ (fun ⟨⟨a, ys⟩, ha, haN, hp, hs⟩ => ?_)
  · refine Sub.auto ?_; simp only [rx, envRen, vRen, cRen, lRen, ownRen, bRen, apartRen, emptyBk, ren, ↓reduceIte, s_n1, s_n2, s_n3, s_n4, s_n5, s_n6, s_n7, s_n8, s_n9, reduceCtorEq, s_i1, s_i2, s_i3, s_i4, autoR, autoOne, Int.natCast_add, Int.natCast_one, Int.natCast_zero, cF]
    rfl
  simp only at ha haN hp hs
  have hyN : ys.length = N := hp.length_eq.trans hN
  simp only [vx, T, s_i5, s_n0, s_i6, s_i7, ↓reduceIte, s_n1, s_n2, s_n3, s_n4, s_n5, s_n6, s_n7, s_n8, s_n9, reduceCtorEq, s_i1, s_i2, s_i3, s_i4, cF]
  refine ⟨fun h1 => Later.go ?_, fun h1 => Later.go ?_⟩
  · have w1 : IntKind.i64.wrap (((a + 20 : Nat) : Int) + 20) = ((a + 20 + 20 : Nat) : Int) := by rw [IntWalk.i64_in _ (by omega)]; omega
    simp only [vx, T, s_i5, s_n0, s_i6, s_i7, ↓reduceIte, s_n1, s_n2, s_n3, s_n4, s_n5, s_n6, s_n7, s_n8, s_n9, reduceCtorEq, s_i1, s_i2, s_i3, s_i4, cF]
    refine CallK.mut 0 rfl trivial (ins_spec ys hyN a (a + 20) (by omega) (by omega) (by omega) (hx.perm hp)) ?_
    rintro _ _ ⟨zs, rfl, rfl, ho, hz⟩ _
    simp only [vx, T, s_i5, s_n0, s_i6, s_i7, ↓reduceIte, s_n1, s_n2, s_n3, s_n4, s_n5, s_n6, s_n7, s_n8, s_n9, reduceCtorEq, s_i1, s_i2, s_i3, s_i4, cF]
    simp only [w1]
    refine loopQ.go ⟨(a + 20, zs), Nat.dvd_add ha (Nat.dvd_refl _), by simp only; omega, ho.2.1.trans hp, hs.first ha ho hz⟩ ?_ ?_
    · refine Sub.auto ?_; simp only [rx, envRen, vRen, cRen, lRen, ownRen, bRen, apartRen, emptyBk, ren, ↓reduceIte, s_n1, s_n2, s_n3, s_n4, s_n5, s_n6, s_n7, s_n8, s_n9, reduceCtorEq, s_i1, s_i2, s_i3, s_i4, autoR, autoOne, Int.natCast_add, Int.natCast_one, Int.natCast_zero, cF]
    · simp only; omega
  · simp only [vx, T, s_i5, s_n0, s_i6, s_i7, ↓reduceIte, s_n1, s_n2, s_n3, s_n4, s_n5, s_n6, s_n7, s_n8, s_n9, reduceCtorEq, s_i1, s_i2, s_i3, s_i4, cF]
    refine CallK.mut 0 rfl trivial (ins_spec ys hyN a N haN (Nat.le_refl _) (by omega) (hx.perm hp)) ?_
    rintro _ _ ⟨zs, rfl, rfl, ho, hz⟩ _
    have hs2 := hs.last ha (by omega) ho hz
    have hp2 := ho.2.1.trans hp
    simp only [vx, T, s_i5, s_n0, s_i6, s_i7, ↓reduceIte, s_n1, s_n2, s_n3, s_n4, s_n5, s_n6, s_n7, s_n8, s_n9, reduceCtorEq, s_i1, s_i2, s_i3, s_i4, cF]
    refine LoopK.go (fun y : {y : Nat × List Mono // 0 < y.1 ∧ y.1 < 2 ^ 40 ∧ y.2.Perm xs ∧ SB2 y.2 y.1 0 N N} => ⟨[(0, .one (.own 0 5 0 N)), (1, .one (.int .i64 N)), (2, .one cF), (6, .one (.int .i64 y.1.1))], [(0, ⟨.rows 55 5 N (fR y.1.2), true⟩)], 1, 63⟩) (fun y => N - y.1.1) ⟨(20, zs), by simp only; omega, by simp only; omega, hp2, hs2⟩ ?_ (fun ⟨⟨bs, ws⟩, hb0, hb1, hpw, hsw⟩ => ?_)
    · refine Sub.auto ?_; simp only [rx, envRen, vRen, cRen, lRen, ownRen, bRen, apartRen, emptyBk, ren, ↓reduceIte, s_n1, s_n2, s_n3, s_n4, s_n5, s_n6, s_n7, s_n8, s_n9, reduceCtorEq, s_i1, s_i2, s_i3, s_i4, autoR, autoOne, Int.natCast_add, Int.natCast_one, Int.natCast_zero, cF]
      rfl
    simp only at hb0 hb1 hpw hsw
    simp only [vx, T, s_i5, s_n0, s_i6, s_i7, ↓reduceIte, s_n1, s_n2, s_n3, s_n4, s_n5, s_n6, s_n7, s_n8, s_n9, reduceCtorEq, s_i1, s_i2, s_i3, s_i4, cF]
    refine ⟨fun h2 => Later.go ?_, fun h2 => Later.go ?_⟩
    · have w2 : IntKind.i64.wrap (2 * (bs : Int)) = ((2 * bs : Nat) : Int) := by rw [IntWalk.i64_in _ (by omega)]; omega
      have w2' : IntKind.i64.wrap ((bs : Int) * 2) = ((2 * bs : Nat) : Int) := by rw [IntWalk.i64_in _ (by omega)]; omega
      simp only [vx, T, s_i5, s_n0, s_i6, s_i7, ↓reduceIte, s_n1, s_n2, s_n3, s_n4, s_n5, s_n6, s_n7, s_n8, s_n9, reduceCtorEq, s_i1, s_i2, s_i3, s_i4, cF, w2]
      refine LoopK.go (fun y : {y : Nat × List Mono // 2 * bs ∣ y.1 ∧ y.1 ≤ N ∧ y.2.Perm xs ∧ SB2 y.2 (2 * bs) 0 y.1 N ∧ SB2 y.2 bs y.1 N N} => ⟨[(0, .one (.own 0 5 0 N)), (1, .one (.int .i64 N)), (2, .one cF), (6, .one (.int .i64 bs)), (7, .one (.int .i64 y.1.1)), (8, .one (.int .i64 (y.1.1 + 2 * bs : Nat)))], [(0, ⟨.rows 55 5 N (fR y.1.2), true⟩)], 1, 63⟩) (fun y => N - y.1.1) ⟨(0, ws), Nat.dvd_zero _, Nat.zero_le _, hpw, fun p _ _ h => absurd h (Nat.not_lt_zero _), hsw⟩ ?_ (fun ⟨⟨c, us⟩, hc, hcN, hpu, hsu, hru⟩ => ?_)
      · refine Sub.auto ?_; simp only [rx, envRen, vRen, cRen, lRen, ownRen, bRen, apartRen, emptyBk, ren, ↓reduceIte, s_n1, s_n2, s_n3, s_n4, s_n5, s_n6, s_n7, s_n8, s_n9, reduceCtorEq, s_i1, s_i2, s_i3, s_i4, autoR, autoOne, Int.natCast_add, Int.natCast_one, Int.natCast_zero, cF, Nat.zero_add]
      simp only at hc hcN hpu hsu hru
      have huN : us.length = N := hpu.length_eq.trans hN
      have hcb : bs ∣ c := Nat.dvd_trans (Nat.dvd_mul_left _ _) hc
      have w3 : IntKind.i64.wrap ((c : Int) + bs) = ((c + bs : Nat) : Int) := by rw [IntWalk.i64_in _ (by omega)]; omega
      simp only [vx, T, s_i5, s_n0, s_i6, s_i7, ↓reduceIte, s_n1, s_n2, s_n3, s_n4, s_n5, s_n6, s_n7, s_n8, s_n9, reduceCtorEq, s_i1, s_i2, s_i3, s_i4, cF]
      refine ⟨fun h3 => Later.go ?_, fun h3 => Later.go ?_⟩
      · have w4 : IntKind.i64.wrap (((c + 2 * bs : Nat) : Int) + ((2 * bs : Nat) : Int)) = ((c + 2 * bs + 2 * bs : Nat) : Int) := by rw [IntWalk.i64_in _ (by omega)]; omega
        simp only [vx, T, s_i5, s_n0, s_i6, s_i7, ↓reduceIte, s_n1, s_n2, s_n3, s_n4, s_n5, s_n6, s_n7, s_n8, s_n9, reduceCtorEq, s_i1, s_i2, s_i3, s_i4, cF, w2, w3]
        have g1 : Srt leM us c (c + bs) := (hru c hcb (Nat.le_refl _) (by omega)).mono (Nat.le_refl _) (by omega)
        have g2 : Srt leM us (c + bs) (c + 2 * bs) := (hru (c + bs) (Nat.dvd_add hcb (Nat.dvd_refl _)) (by omega) (by omega)).mono (Nat.le_refl _) (by omega)
        refine CallK.mut 0 rfl trivial (sym_spec (c + 2 * bs - c) us huN c (c + bs) (c + 2 * bs) (by omega) (by omega) (by omega) (by omega) (Nat.le_refl _) (hx.perm hpu) g1 g2) ?_
        rintro _ _ ⟨vs, rfl, rfl, ho3, hv⟩ _
        simp only [vx, T, s_i5, s_n0, s_i6, s_i7, ↓reduceIte, s_n1, s_n2, s_n3, s_n4, s_n5, s_n6, s_n7, s_n8, s_n9, reduceCtorEq, s_i1, s_i2, s_i3, s_i4, cF, w2]
        simp only [w4]
        refine loopQ.go ⟨(c + 2 * bs, vs), Nat.dvd_add hc (Nat.dvd_refl _), by simp only; omega, ho3.2.1.trans hpu, hsu.merge hc (by omega) ho3 hv, hru.rest (by omega) ho3⟩ ?_ ?_
        · refine Sub.auto ?_; simp only [rx, envRen, vRen, cRen, lRen, ownRen, bRen, apartRen, emptyBk, ren, ↓reduceIte, s_n1, s_n2, s_n3, s_n4, s_n5, s_n6, s_n7, s_n8, s_n9, reduceCtorEq, s_i1, s_i2, s_i3, s_i4, autoR, autoOne, Int.natCast_add, Int.natCast_one, Int.natCast_zero, cF]
        · simp only; omega
      · simp only [vx, T, s_i5, s_n0, s_i6, s_i7, ↓reduceIte, s_n1, s_n2, s_n3, s_n4, s_n5, s_n6, s_n7, s_n8, s_n9, reduceCtorEq, s_i1, s_i2, s_i3, s_i4, cF, w3]
        refine ⟨fun h4 => Later.go ?_, fun h4 => Later.go ?_⟩
        · simp only [vx, T, s_i5, s_n0, s_i6, s_i7, ↓reduceIte, s_n1, s_n2, s_n3, s_n4, s_n5, s_n6, s_n7, s_n8, s_n9, reduceCtorEq, s_i1, s_i2, s_i3, s_i4, cF]
          have g1 : Srt leM us c (c + bs) := (hru c hcb (Nat.le_refl _) (by omega)).mono (Nat.le_refl _) (by omega)
          have g2 : Srt leM us (c + bs) N := (hru (c + bs) (Nat.dvd_add hcb (Nat.dvd_refl _)) (by omega) (by omega)).mono (Nat.le_refl _) (by omega)
          refine CallK.mut 0 rfl trivial (sym_spec (N - c) us huN c (c + bs) N (by omega) (by omega) (Nat.le_refl _) (by omega) (Nat.le_refl _) (hx.perm hpu) g1 g2) ?_
          rintro _ _ ⟨vs, rfl, rfl, ho3, hv⟩ _
          simp only [vx, T, s_i5, s_n0, s_i6, s_i7, ↓reduceIte, s_n1, s_n2, s_n3, s_n4, s_n5, s_n6, s_n7, s_n8, s_n9, reduceCtorEq, s_i1, s_i2, s_i3, s_i4, cF]
          simp only [w2']
          refine loopQ.go ⟨(2 * bs, vs), by simp only; omega, by simp only; omega, ho3.2.1.trans hpu, hsu.merge hc (by omega) ho3 hv⟩ ?_ ?_
          · refine Sub.auto ?_; simp only [rx, envRen, vRen, cRen, lRen, ownRen, bRen, apartRen, emptyBk, ren, ↓reduceIte, s_n1, s_n2, s_n3, s_n4, s_n5, s_n6, s_n7, s_n8, s_n9, reduceCtorEq, s_i1, s_i2, s_i3, s_i4, autoR, autoOne, Int.natCast_add, Int.natCast_one, Int.natCast_zero, cF]
          · simp only; omega
        · have g1 : Srt leM us c N := by
            by_cases h5 : c < N
            · exact (hru c hcb (Nat.le_refl _) h5).mono (Nat.le_refl _) (by omega)
            · intro p q h6 h7 h8; omega
          simp only [vx, T, s_i5, s_n0, s_i6, s_i7, ↓reduceIte, s_n1, s_n2, s_n3, s_n4, s_n5, s_n6, s_n7, s_n8, s_n9, reduceCtorEq, s_i1, s_i2, s_i3, s_i4, cF]
          simp only [w2']
          refine loopQ.go ⟨(2 * bs, us), by simp only; omega, by simp only; omega, hpu, hsu.merge hc (by omega) (Out.refl _ _ _) g1⟩ ?_ ?_
          · refine Sub.auto ?_; simp only [rx, envRen, vRen, cRen, lRen, ownRen, bRen, apartRen, emptyBk, ren, ↓reduceIte, s_n1, s_n2, s_n3, s_n4, s_n5, s_n6, s_n7, s_n8, s_n9, reduceCtorEq, s_i1, s_i2, s_i3, s_i4, autoR, autoOne, Int.natCast_add, Int.natCast_one, Int.natCast_zero, cF]
          · simp only; omega
    · have g1 : Srt leM ws 0 N := by
        by_cases h5 : 0 < N
        · exact (hsw 0 (Nat.dvd_zero _) (Nat.le_refl _) h5).mono (Nat.le_refl _) (by omega)
        · intro p q h6 h7 h8; omega
      simp only [vx, T, s_i5, s_n0, s_i6, s_i7, ↓reduceIte, s_n1, s_n2, s_n3, s_n4, s_n5, s_n6, s_n7, s_n8, s_n9, reduceCtorEq, s_i1, s_i2, s_i3, s_i4, cF]
      exact ⟨ws, rfl, rfl, hpw, g1⟩

set_option maxRecDepth 10000 in
theorem SortStable_spec (xs : List Mono) {N : Nat} (hN : xs.length = N) (hl : N < 2 ^ 38) (hx : LOk xs) :
    MutCalls Tryz.prog 73 [.one (.own 0 5 0 N), .one cF] (.rows 55 5 N (fR xs)) (StabR xs N) := by
  refine mut_of_vc T_ok mixed Tryz.func73 rfl (by decide) _ (by simp [Tryz.ntmps73]) ⟨[0, 1], []⟩ (by kernel_rfl) (.rows 55 5 N (fR xs)) trivial _ ?_
  show vc T Tryz.prog ⟨[0, 1], []⟩ (Option.get! Tryz.f73.body) _ _
  simp only [Tryz.f73, Tryz.ntmps73, Option.get!, initSt, initM, envOf, Nat.reduceAdd]
  simp only [vx, T, s_i5, s_n0, s_i6, s_i7, ↓reduceIte, s_n1, s_n2, s_n3, s_n4, s_n5, s_n6, s_n7, s_n8, s_n9, reduceCtorEq, s_i1, s_i2, s_i3, s_i4, cF]
  refine CallK.mut 0 rfl trivial (stable_spec xs hN hl hx) ?_
  rintro _ _ ⟨ys, rfl, rfl, h1, h2⟩ _
  simp only [vx, T, s_i5, s_n0, s_i6, s_i7, ↓reduceIte, s_n1, s_n2, s_n3, s_n4, s_n5, s_n6, s_n7, s_n8, s_n9, reduceCtorEq, s_i1, s_i2, s_i3, s_i4, cF]
  exact ⟨ys, rfl, rfl, h1, h2⟩

end Go.Proofs.YtckikgkdplkopaaGreat

/-! ## FnZi -/
namespace Go.Proofs.YtckikgkdplkopaaGreat
open Go Go.Eng

def qz (m : Mono) : Bool := decide (m.1 = 0)
def qn (m : Mono) : Bool := decide (m.1 ≠ 0)
/-- The first monomial with the coefficient 0. -/
def ixz (xs : List Mono) : Int := if xs.findIdx qz < xs.length then (xs.findIdx qz : Int) else -1
def cG : C := .fn 78 0 (fun _ => .any)

def QOk (xs : List Mono) : Prop := ∀ m ∈ xs, qm m.1 < 2 ^ 36
theorem QOk.get {xs : List Mono} (h : QOk xs) (k : Nat) : qm (xs.getD k default).1 < 2 ^ 36 := by
  rw [List.getD_eq_getElem?_getD]
  cases hg : xs[k]? with
  | none => exact Nat.lt_of_le_of_lt (qm_ofInt (z := 0) (by decide)) (by decide)
  | some m => exact h m (List.mem_of_getElem? hg)

set_option maxHeartbeats 4000000 in
set_option maxRecDepth 10000 in
theorem IndexFunc_spec (xs : List Mono) {N : Nat} (hN : xs.length = N) (hl : N < 2 ^ 38) (hx : QOk xs) :
    PureCalls Tryz.prog 110 [.one (.rows 5 N (fR xs)), .one cG] (.one (.int .i64 (ixz xs))) := by
  refine pure_of_vc T_ok mixed Tryz.func110 rfl (by decide) _ (by simp [Tryz.ntmps110]) ⟨[0, 1, 4, 5, 7, 8, 9, 16], []⟩ (by kernel_rfl) _ ?_
  show vc T Tryz.prog ⟨[0, 1, 4, 5, 7, 8, 9, 16], []⟩ (Option.get! Tryz.f110.body) _ _
  simp only [Tryz.f110, Tryz.ntmps110, Option.get!, initSt, initM, envOf, Nat.reduceAdd]
  simp only [vx, T, s_i5, s_n0, s_i6, s_i7, ↓reduceIte, s_n1, s_n2, s_n3, s_n4, s_n5, s_n6, s_n7, s_n8, s_n9, reduceCtorEq, s_i1, s_i2, s_i3, s_i4, cG]
  refine LoopK.go (fun y : {i : Nat // i ≤ N ∧ ∀ k, k < i → qz (xs.getD k default) = false} => ⟨[(0, .one (.rows 5 N (fR xs))), (1, .one cG), (7, .one (.int .i64 N)), (8, .one (.int .i64 y.1))], [], 1, 19⟩) (fun y => N - y.1) ⟨0, Nat.zero_le _, fun k h => absurd h (Nat.not_lt_zero _)⟩ ?_ (fun ⟨i, hi, hz⟩ => ?_)
  · refine Sub.auto ?_; simp only [rx, envRen, vRen, cRen, lRen, ownRen, bRen, apartRen, emptyBk, ren, ↓reduceIte, s_n1, s_n2, s_n3, s_n4, s_n5, s_n6, s_n7, s_n8, s_n9, reduceCtorEq, s_i1, s_i2, s_i3, s_i4, autoR, autoOne, Int.natCast_add, Int.natCast_one, Int.natCast_zero, cG]
  have i1 : IntKind.i64.wrap ((i : Int) + 1) = ((i + 1 : Nat) : Int) := by rw [IntWalk.i64_in _ (by omega)]; omega
  simp only [vx, T, s_i5, s_n0, s_i6, s_i7, ↓reduceIte, s_n1, s_n2, s_n3, s_n4, s_n5, s_n6, s_n7, s_n8, s_n9, reduceCtorEq, s_i1, s_i2, s_i3, s_i4, cG]
  refine ⟨fun h1 => Later.go ?_, fun h1 => Later.go ?_⟩
  · simp only [vx, T, s_i5, s_n0, s_i6, s_i7, ↓reduceIte, s_n1, s_n2, s_n3, s_n4, s_n5, s_n6, s_n7, s_n8, s_n9, reduceCtorEq, s_i1, s_i2, s_i3, s_i4, cG, fR0, fR1, fR2, fR3, fR4]
    refine ⟨by omega, CallK.go (cl2_spec (xs.getD i default) (hx.get i)) ?_⟩
    simp only [vx, T, s_i5, s_n0, s_i6, s_i7, ↓reduceIte, s_n1, s_n2, s_n3, s_n4, s_n5, s_n6, s_n7, s_n8, s_n9, reduceCtorEq, s_i1, s_i2, s_i3, s_i4, cG]
    refine ⟨fun h2 => Later.go ?_, fun h2 => Later.go ?_⟩
    · have e1 : xs.findIdx qz = i := by
        rw [List.findIdx_eq (by omega)]
        refine ⟨by rw [← getD_eq (by omega)]; simpa [qz] using h2, fun j hj => ?_⟩
        rw [← getD_eq (by omega)]; exact hz j hj
      have e2 : ixz xs = i := by unfold ixz; rw [e1, if_pos (by omega)]
      simp only [vx, T, s_i5, s_n0, s_i6, s_i7, ↓reduceIte, s_n1, s_n2, s_n3, s_n4, s_n5, s_n6, s_n7, s_n8, s_n9, reduceCtorEq, s_i1, s_i2, s_i3, s_i4, cG, e2]
      exact VLe.of_eq rfl
    · simp only [vx, T, s_i5, s_n0, s_i6, s_i7, ↓reduceIte, s_n1, s_n2, s_n3, s_n4, s_n5, s_n6, s_n7, s_n8, s_n9, reduceCtorEq, s_i1, s_i2, s_i3, s_i4, cG]
      simp only [i1]
      refine loopQ.go ⟨i + 1, by omega, fun k hk => ?_⟩ ?_ ?_
      · by_cases h3 : k < i
        · exact hz k h3
        · rw [show k = i by omega]; simpa [qz] using h2
      · refine Sub.auto ?_; simp only [rx, envRen, vRen, cRen, lRen, ownRen, bRen, apartRen, emptyBk, ren, ↓reduceIte, s_n1, s_n2, s_n3, s_n4, s_n5, s_n6, s_n7, s_n8, s_n9, reduceCtorEq, s_i1, s_i2, s_i3, s_i4, autoR, autoOne, Int.natCast_add, Int.natCast_one, Int.natCast_zero, cG]
      · simp only; omega
  · have e1 : xs.findIdx qz = xs.length := by
      rw [List.findIdx_eq_length]
      intro x hx
      obtain ⟨k, hk, rfl⟩ := List.mem_iff_getElem.1 hx
      rw [← getD_eq hk]; exact hz k (by omega)
    have e2 : ixz xs = -1 := by unfold ixz; rw [if_neg (by omega)]
    simp only [vx, T, s_i5, s_n0, s_i6, s_i7, ↓reduceIte, s_n1, s_n2, s_n3, s_n4, s_n5, s_n6, s_n7, s_n8, s_n9, reduceCtorEq, s_i1, s_i2, s_i3, s_i4, cG, e2]
    exact VLe.of_eq rfl

def DelR (xs : List Mono) (N : Nat) (r : V) (B' : Bk) : Prop := ∃ k f, r = .one (.own 0 5 0 k) ∧ B' = .rows 55 5 N f ∧ k ≤ N ∧ k = (xs.filter qn).length ∧ ∀ i j, i < k → j < 5 → f i j = fR (xs.filter qn) i j

theorem qn_qz (m : Mono) : qn m = !qz m := by unfold qn qz; by_cases h : m.1 = 0 <;> simp [h]

theorem take_set_step {ys : List Mono} {i : Nat} {x : Mono} (hi : i < ys.length) : (ys.set i x).take (i + 1) = ys.take i ++ [x] := by
  rw [List.take_add_one, List.take_set_of_le (Nat.le_refl _), List.getElem?_set_self hi]; rfl
theorem fR_take {ys zs : List Mono} {k : Nat} (h : ys.take k = zs) {i j : Nat} (hi : i < k) : fR ys i j = fR zs i j := by
  unfold fR
  rw [← h, List.getD_eq_getElem?_getD, List.getD_eq_getElem?_getD, List.getElem?_take_of_lt hi]

set_option maxHeartbeats 4000000 in
set_option maxRecDepth 10000 in
theorem DeleteFunc_spec (xs : List Mono) {N : Nat} (hN : xs.length = N) (hl : N < 2 ^ 38) (hx : QOk xs) :
    MutCalls Tryz.prog 77 [.one (.own 0 5 0 N), .one cG] (.rows 55 5 N (fR xs)) (DelR xs N) := by
  refine mut_of_vc T_ok mixed Tryz.func77 rfl (by decide) _ (by simp [Tryz.ntmps77]) ⟨[0, 1, 4, 5, 6, 7, 12, 19, 29], []⟩ (by kernel_rfl) (.rows 55 5 N (fR xs)) trivial _ ?_
  show vc T Tryz.prog ⟨[0, 1, 4, 5, 6, 7, 12, 19, 29], []⟩ (Option.get! Tryz.f77.body) _ _
  simp only [Tryz.f77, Tryz.ntmps77, Option.get!, initSt, initM, envOf, Nat.reduceAdd]
  simp only [vx, T, s_i5, s_n0, s_i6, s_i7, ↓reduceIte, s_n1, s_n2, s_n3, s_n4, s_n5, s_n6, s_n7, s_n8, s_n9, reduceCtorEq, s_i1, s_i2, s_i3, s_i4, cG]
  refine CallK.go (PureCalls.arg2c (IndexFunc_spec xs hN hl hx) (CLe.rows rfl fun i j _ _ => CLe.of_eq (by simp)) (CLe.refl _)) ?_
  simp only [vx, T, s_i5, s_n0, s_i6, s_i7, ↓reduceIte, s_n1, s_n2, s_n3, s_n4, s_n5, s_n6, s_n7, s_n8, s_n9, reduceCtorEq, s_i1, s_i2, s_i3, s_i4, cG]
  refine ⟨fun h1 => Later.go ?_, fun h1 => Later.go ?_⟩
  · have hall : xs.filter qn = xs := by
      unfold ixz at h1
      split at h1
      · omega
      · rename_i h2
        have h3 : xs.findIdx qz = xs.length := Nat.le_antisymm List.findIdx_le_length (by omega)
        rw [List.filter_eq_self]
        intro m hm
        rw [qn_qz, List.findIdx_eq_length.1 h3 m hm]; rfl
    simp only [vx, T, s_i5, s_n0, s_i6, s_i7, ↓reduceIte, s_n1, s_n2, s_n3, s_n4, s_n5, s_n6, s_n7, s_n8, s_n9, reduceCtorEq, s_i1, s_i2, s_i3, s_i4, cG]
    exact ⟨N, _, rfl, rfl, Nat.le_refl _, by rw [hall, hN], fun i j _ _ => by rw [hall]⟩
  · have h2 : xs.findIdx qz < xs.length := by
      unfold ixz at h1
      split at h1
      · assumption
      · exact absurd rfl h1
    have e1 : ixz xs = (xs.findIdx qz : Int) := by unfold ixz; rw [if_pos h2]
    obtain ⟨k, hk⟩ : ∃ k, k = xs.findIdx qz := ⟨_, rfl⟩
    rw [← hk] at h2 e1
    have hp := List.findIdx_eq (xs := xs) (p := qz) h2 |>.1 hk.symm
    have htk : xs.take k = (xs.take (k + 1)).filter qn := by
      rw [take_step h2, List.filter_append]
      have f1 : (xs.take k).filter qn = xs.take k := by
        rw [List.filter_eq_self]
        intro m hm
        obtain ⟨j, hj, rfl⟩ := List.mem_iff_getElem.1 hm
        rw [List.length_take] at hj
        rw [List.getElem_take, qn_qz, hp.2 j (by omega)]; rfl
      have f2 : [xs.getD k default].filter qn = [] := by
        rw [List.filter_cons_of_neg (by rw [qn_qz, getD_eq h2, hp.1]; simp)]; rfl
      rw [f1, f2, List.append_nil]
    have w1 : IntKind.i64.wrap ((k : Int) + 1) = ((k + 1 : Nat) : Int) := by rw [IntWalk.i64_in _ (by omega)]; omega
    rw [e1]
    simp only [vx, T, s_i5, s_n0, s_i6, s_i7, ↓reduceIte, s_n1, s_n2, s_n3, s_n4, s_n5, s_n6, s_n7, s_n8, s_n9, reduceCtorEq, s_i1, s_i2, s_i3, s_i4, cG, w1]
    refine LoopK.go (fun y : {y : Nat × Nat × List Mono // y.2.1 < y.1 ∧ y.1 ≤ N ∧ y.2.2.length = N ∧ y.2.2.take y.2.1 = (xs.take y.1).filter qn ∧ ∀ c, y.1 ≤ c → y.2.2.getD c default = xs.getD c default} => ⟨[(0, .one (.own 0 5 0 N)), (1, .one cG), (5, .one (.int .i64 y.1.2.1)), (6, .one (.int .i64 y.1.1))], [(0, ⟨.rows 55 5 N (fR y.1.2.2), true⟩)], 1, 42⟩) (fun y => N - y.1.1) ⟨(k + 1, k, xs), by simp only; omega, by simp only; omega, hN, htk, fun _ _ => rfl⟩ ?_ (fun ⟨⟨j, i, ys⟩, hij, hj, hyl, ht, hr⟩ => ?_)
    · refine Sub.auto ?_; simp only [rx, envRen, vRen, cRen, lRen, ownRen, bRen, apartRen, emptyBk, ren, ↓reduceIte, s_n1, s_n2, s_n3, s_n4, s_n5, s_n6, s_n7, s_n8, s_n9, reduceCtorEq, s_i1, s_i2, s_i3, s_i4, autoR, autoOne, Int.natCast_add, Int.natCast_one, Int.natCast_zero, cG]
    simp only at hij hj hyl ht hr
    simp only [vx, T, s_i5, s_n0, s_i6, s_i7, ↓reduceIte, s_n1, s_n2, s_n3, s_n4, s_n5, s_n6, s_n7, s_n8, s_n9, reduceCtorEq, s_i1, s_i2, s_i3, s_i4, cG]
    refine ⟨fun h3 => Later.go ?_, fun h3 => Later.go ?_⟩
    · have hjN : j < N := by omega
      have j1 : IntKind.i64.wrap ((j : Int) + 1) = ((j + 1 : Nat) : Int) := by rw [IntWalk.i64_in _ (by omega)]; omega
      have i1 : IntKind.i64.wrap ((i : Int) + 1) = ((i + 1 : Nat) : Int) := by rw [IntWalk.i64_in _ (by omega)]; omega
      obtain ⟨a, ha⟩ : ∃ a, a = ys.getD j default := ⟨_, rfl⟩
      have hax : a = xs.getD j default := by rw [ha]; exact hr j (Nat.le_refl _)
      have hts : (xs.take (j + 1)).filter qn = ys.take i ++ (if qn a then [a] else []) := by
        rw [take_step (by omega), List.filter_append, ← ht, ← hax]
        congr 1
        cases hq : qn a
        · rw [List.filter_cons_of_neg (by simp [hq])]; rfl
        · rw [List.filter_cons_of_pos hq]; rfl
      simp only [vx, T, s_i5, s_n0, s_i6, s_i7, ↓reduceIte, s_n1, s_n2, s_n3, s_n4, s_n5, s_n6, s_n7, s_n8, s_n9, reduceCtorEq, s_i1, s_i2, s_i3, s_i4, cG, fR0, fR1, fR2, fR3, fR4, ← ha]
      refine ⟨by omega, CallK.go (cl2_spec a (by rw [hax]; exact hx.get j)) ?_⟩
      simp only [vx, T, s_i5, s_n0, s_i6, s_i7, ↓reduceIte, s_n1, s_n2, s_n3, s_n4, s_n5, s_n6, s_n7, s_n8, s_n9, reduceCtorEq, s_i1, s_i2, s_i3, s_i4, cG]
      refine ⟨fun h4 => Later.go ?_, fun h4 => Later.go ?_⟩
      · have h4 : qn a = true := by unfold qn; simpa using h4
        rw [if_pos h4] at hts
        simp only [vx, T, s_i5, s_n0, s_i6, s_i7, ↓reduceIte, s_n1, s_n2, s_n3, s_n4, s_n5, s_n6, s_n7, s_n8, s_n9, reduceCtorEq, s_i1, s_i2, s_i3, s_i4, cG, ← ha]
        simp only [i1, j1]
        refine ⟨by omega, loopQ.go ⟨(j + 1, i + 1, ys.set i a), by simp only; omega, by simp only; omega, by rw [List.length_set]; exact hyl, by rw [hts]; exact take_set_step (by omega), fun c hc => ?_⟩ ?_ ?_⟩
        · simp only at hc ⊢
          rw [getD_set_other (by omega)]; exact hr c (by omega)
        · refine Sub.auto ?_; simp only [rx, envRen, vRen, cRen, lRen, ownRen, bRen, apartRen, emptyBk, ren, ↓reduceIte, s_n1, s_n2, s_n3, s_n4, s_n5, s_n6, s_n7, s_n8, s_n9, reduceCtorEq, s_i1, s_i2, s_i3, s_i4, autoR, autoOne, Int.natCast_add, Int.natCast_one, Int.natCast_zero, cG]
          intro i' j' hi' hj'
          exact set_mono (by omega) a i' j' hj'
        · simp only; omega
      · have h4 : qn a = false := by unfold qn; simpa using h4
        rw [h4, if_neg (by simp), List.append_nil] at hts
        simp only [vx, T, s_i5, s_n0, s_i6, s_i7, ↓reduceIte, s_n1, s_n2, s_n3, s_n4, s_n5, s_n6, s_n7, s_n8, s_n9, reduceCtorEq, s_i1, s_i2, s_i3, s_i4, cG]
        simp only [j1]
        refine loopQ.go ⟨(j + 1, i, ys), by simp only; omega, by simp only; omega, hyl, by rw [hts], fun c hc => hr c (by simp only at hc; omega)⟩ ?_ ?_
        · refine Sub.auto ?_; simp only [rx, envRen, vRen, cRen, lRen, ownRen, bRen, apartRen, emptyBk, ren, ↓reduceIte, s_n1, s_n2, s_n3, s_n4, s_n5, s_n6, s_n7, s_n8, s_n9, reduceCtorEq, s_i1, s_i2, s_i3, s_i4, autoR, autoOne, Int.natCast_add, Int.natCast_one, Int.natCast_zero, cG]
        · simp only; omega
    · have hjN : j = N := by omega
      rw [hjN, ← hN, List.take_length] at ht
      have hlen : i = (xs.filter qn).length := by rw [← ht, List.length_take]; omega
      simp only [vx, T, s_i5, s_n0, s_i6, s_i7, ↓reduceIte, s_n1, s_n2, s_n3, s_n4, s_n5, s_n6, s_n7, s_n8, s_n9, reduceCtorEq, s_i1, s_i2, s_i3, s_i4, cG]
      refine ⟨by omega, by omega, ?_⟩
      refine ⟨i, _, rfl, rfl, by omega, hlen, fun i' j' hi' hj' => ?_⟩
      unfold clrF
      rw [if_neg (by omega)]
      exact fR_take ht hi'

end Go.Proofs.YtckikgkdplkopaaGreat

/-! ## Grw -/
namespace Go.Proofs.YtckikgkdplkopaaGreat
open Go Go.Proofs Go.RowKit Go.Eng

set_option maxHeartbeats 4000000 in
set_option maxRecDepth 100000 in
theorem growP_walk (k : Nat) (h0 : 0 < k) (hb : k * 88 ≤ 140737488355328) (w : World) (i : TypeInfo) (z : Value) (hi : Tryz.prog.info? 55 = some i) (hz : i.zero = some z) (hs : i.size = 5) (hby : i.bytes = 88) :
    Calls Tryz.prog 79 #[.slice none 0 0, .int .i64 k] w fun e w' => e = .returned (.slice (some ⟨w.heap.size, 0, none⟩) 0 (grownCap w k 0 55)) ∧
      w' = w.drew.alloc (.cells (Builtin.zeroCells z.cells k ++ Builtin.zeroCells z.cells (grownCap w k 0 55 - k)) 55) := by
  have h1 : ¬ ((k : Int) < 0) := by omega
  have h3 : wrap64 ((k : Int) - (((0 : Nat) : Int) - ((0 : Nat) : Int))) = (k : Int) := by unfold wrap64; omega
  have h4 : (k : Int) > 0 := by omega
  have hrz : ∀ ty, (Builtin.append_ #[23, 3] ty #[.slice none 0 0, .int .i64 (k : Int)]).run Tryz.prog w =
      .ok (.slice (some ⟨w.heap.size, 0, none⟩) k (grownCap w k 0 55)) (w.drew.alloc (.cells (Builtin.zeroCells z.cells k ++ Builtin.zeroCells z.cells (grownCap w k 0 55 - k)) 55)) := fun ty =>
    Lib.run_append_nil_zeros w 23 3 ty 55 i z .i64 .i64 (by rfl) (by rfl) hi hz k h0 (by omega) (by omega) (by rw [hby]; omega)
  obtain ⟨G, hG⟩ : ∃ G, G = grownCap w k 0 55 := ⟨_, rfl⟩
  rw [← hG] at hrz ⊢
  have hGn : k ≤ G := by rw [hG]; exact grownCap_ge w _ _ _
  clear hG
  go_enter Tryz.func79, Tryz.ntmps79
  go_wp2_with (at_builtin; refine Lib.wpList_append_run _ rfl _ _ _ _ rfl _ _ rfl rfl _ _ (hrz _) ?_)
  all_goals (go_ret; exact ⟨rfl, rfl⟩)

set_option maxRecDepth 100000 in
theorem growP_zero (w : World) : Calls Tryz.prog 79 #[.slice none 0 0, .int .i64 0] w fun e w' => e = .returned (.slice none 0 0) ∧ w' = w := by
  go_enter Tryz.func79, Tryz.ntmps79
  go_wp2
  go_ret
  exact ⟨rfl, rfl⟩

theorem growP_spec (k : Nat) (hb : k * 88 ≤ 140737488355328) : FreshCalls Tryz.prog 79 [.one .nil, .one (.int .i64 k)] (.rows 55 5 0 (fun _ _ => .any)) := by
  obtain ⟨i, d, z, hi, hu, hz, _, hs, hby, hzl, _⟩ := T_parts T_ok (show T 55 = some _ from rfl)
  have hs : i.size = 5 := hs.symm
  have hby : i.bytes = 88 := hby.symm
  refine ⟨⟨_, Tryz.func79, by rfl, by rfl⟩, trivial, fun ok w vs hok hr => ?_⟩
  obtain ⟨vs⟩ := vs
  match vs, hr with
  | [v, u], hr =>
    obtain ⟨hv, hu, _⟩ := hr
    have hv : v = .slice none 0 0 := hv
    have hu : u = .int .i64 k := hu
    subst hv hu
    by_cases h0 : k = 0
    · subst h0
      refine (growP_zero w).mono ?_
      rintro e w' ⟨rfl, rfl⟩
      exact ⟨_, ⟨none, 0⟩, rfl, Go.RowKit.Below.refl _ _, rfl, (fun g o h => by cases h), (fun j => by simp [Bk.cell]), trivial, Nat.le_refl _, 0, Nat.le_refl _, .inr ⟨rfl, rfl, rfl, rfl⟩⟩
    · refine (growP_walk k (by omega) hb w i z hi hz hs hby).mono ?_
      rintro e w' ⟨rfl, rfl⟩
      have hzc : z.cells.size = 5 := by
        have := congrArg List.length hzl
        simpa [T] using this.symm
      have hGn : k ≤ grownCap w k 0 55 := grownCap_ge w _ _ _
      refine ⟨_, ⟨some (w.heap.size, 0), 0⟩, rfl, ((Go.RowKit.Below.refl _ w).drew).alloc (Nat.le_refl _) _, rfl, fun g o h => ?_, ?_, trivial, Nat.le_refl _, grownCap w k 0 55, Nat.zero_le _, .inl ⟨w.heap.size, 0, 0, rfl, rfl, .inr (by simp), ?_⟩⟩
      · have : w.heap.size = g := by simpa using congrArg (Option.map Prod.fst) h
        subst this
        exact ⟨Nat.le_refl _, by simp⟩
      · unfold RepBk
        refine ⟨_, 55, heap_alloc_new w.drew _, fun j c hj => ?_⟩
        simp [Bk.cell] at hj
      · have hrs : rowSize (w.drew.alloc (.cells (Builtin.zeroCells z.cells k ++ Builtin.zeroCells z.cells (grownCap w k 0 55 - k)) 55)) w.heap.size = (Builtin.zeroCells z.cells k ++ Builtin.zeroCells z.cells (grownCap w k 0 55 - k)).size := rowSize_of (heap_alloc_new w.drew _)
        rw [hrs]
        simp only [Array.size_append, size_zeroCells, hzc, Bk.wd]
        omega

set_option maxHeartbeats 4000000 in
set_option maxRecDepth 100000 in
theorem growZ_walk (k : Nat) (h0 : 0 < k) (hb : k * 8 ≤ 140737488355328) (w : World) (i : TypeInfo) (z : Value) (hi : Tryz.prog.info? 3 = some i) (hz : i.zero = some z) (hs : i.size = 1) (hby : i.bytes = 8) :
    Calls Tryz.prog 81 #[.slice none 0 0, .int .i64 k] w fun e w' => e = .returned (.slice (some ⟨w.heap.size, 0, none⟩) 0 (grownCap w k 0 3)) ∧
      w' = w.drew.alloc (.cells (Builtin.zeroCells z.cells k ++ Builtin.zeroCells z.cells (grownCap w k 0 3 - k)) 3) := by
  have h1 : ¬ ((k : Int) < 0) := by omega
  have h3 : wrap64 ((k : Int) - (((0 : Nat) : Int) - ((0 : Nat) : Int))) = (k : Int) := by unfold wrap64; omega
  have h4 : (k : Int) > 0 := by omega
  have hrz : ∀ ty, (Builtin.append_ #[30, 3] ty #[.slice none 0 0, .int .i64 (k : Int)]).run Tryz.prog w =
      .ok (.slice (some ⟨w.heap.size, 0, none⟩) k (grownCap w k 0 3)) (w.drew.alloc (.cells (Builtin.zeroCells z.cells k ++ Builtin.zeroCells z.cells (grownCap w k 0 3 - k)) 3)) := fun ty =>
    Lib.run_append_nil_zeros w 30 3 ty 3 i z .i64 .i64 (by rfl) (by rfl) hi hz k h0 (by omega) (by omega) (by rw [hby]; omega)
  obtain ⟨G, hG⟩ : ∃ G, G = grownCap w k 0 3 := ⟨_, rfl⟩
  rw [← hG] at hrz ⊢
  have hGn : k ≤ G := by rw [hG]; exact grownCap_ge w _ _ _
  clear hG
  go_enter Tryz.func81, Tryz.ntmps81
  go_wp2_with (at_builtin; refine Lib.wpList_append_run _ rfl _ _ _ _ rfl _ _ rfl rfl _ _ (hrz _) ?_)
  all_goals (go_ret; exact ⟨rfl, rfl⟩)

set_option maxRecDepth 100000 in
theorem growZ_zero (w : World) : Calls Tryz.prog 81 #[.slice none 0 0, .int .i64 0] w fun e w' => e = .returned (.slice none 0 0) ∧ w' = w := by
  go_enter Tryz.func81, Tryz.ntmps81
  go_wp2
  go_ret
  exact ⟨rfl, rfl⟩

theorem growZ_spec (k : Nat) (hb : k * 8 ≤ 140737488355328) : FreshCalls Tryz.prog 81 [.one .nil, .one (.int .i64 k)] (.ints 3 .i64 []) := by
  obtain ⟨i, d, z, hi, hu, hz, _, hs, hby, hzl, _⟩ := T_parts T_ok (show T 3 = some _ from rfl)
  have hs : i.size = 1 := hs.symm
  have hby : i.bytes = 8 := hby.symm
  refine ⟨⟨_, Tryz.func81, by rfl, by rfl⟩, trivial, fun ok w vs hok hr => ?_⟩
  obtain ⟨vs⟩ := vs
  match vs, hr with
  | [v, u], hr =>
    obtain ⟨hv, hu, _⟩ := hr
    have hv : v = .slice none 0 0 := hv
    have hu : u = .int .i64 k := hu
    subst hv hu
    by_cases h0 : k = 0
    · subst h0
      refine (growZ_zero w).mono ?_
      rintro e w' ⟨rfl, rfl⟩
      exact ⟨_, ⟨none, 0⟩, rfl, Go.RowKit.Below.refl _ _, rfl, (fun g o h => by cases h), (fun j => by simp [Bk.cell]), trivial, Nat.le_refl _, 0, Nat.le_refl _, .inr ⟨rfl, rfl, rfl, rfl⟩⟩
    · refine (growZ_walk k (by omega) hb w i z hi hz hs hby).mono ?_
      rintro e w' ⟨rfl, rfl⟩
      have hzc : z.cells.size = 1 := by
        have := congrArg List.length hzl
        simpa [T] using this.symm
      have hGn : k ≤ grownCap w k 0 3 := grownCap_ge w _ _ _
      refine ⟨_, ⟨some (w.heap.size, 0), 0⟩, rfl, ((Go.RowKit.Below.refl _ w).drew).alloc (Nat.le_refl _) _, rfl, fun g o h => ?_, ?_, trivial, Nat.le_refl _, grownCap w k 0 3, Nat.zero_le _, .inl ⟨w.heap.size, 0, 0, rfl, rfl, .inr (by simp), ?_⟩⟩
      · have : w.heap.size = g := by simpa using congrArg (Option.map Prod.fst) h
        subst this
        exact ⟨Nat.le_refl _, by simp⟩
      · unfold RepBk
        refine ⟨_, 3, heap_alloc_new w.drew _, fun j c hj => ?_⟩
        simp [Bk.cell] at hj
      · have hrs : rowSize (w.drew.alloc (.cells (Builtin.zeroCells z.cells k ++ Builtin.zeroCells z.cells (grownCap w k 0 3 - k)) 3)) w.heap.size = (Builtin.zeroCells z.cells k ++ Builtin.zeroCells z.cells (grownCap w k 0 3 - k)).size := rowSize_of (heap_alloc_new w.drew _)
        rw [hrs]
        simp only [Array.size_append, size_zeroCells, hzc, Bk.wd]
        omega

end Go.Proofs.YtckikgkdplkopaaGreat

/-! ## FnZj -/
namespace Go.Proofs.YtckikgkdplkopaaGreat
open Go Go.Eng

theorem freshArgs {P : Program} {f : FuncId} {xs ys : List V} {B : Bk} (h : FreshCalls P f ys B) (ha : VLeA xs ys) : FreshCalls P f xs B :=
  ⟨h.1, h.2.1, fun ok w vs hok hvs => h.2.2 ok w vs hok (ha.rep hvs)⟩
theorem flat_step {α : Type} {ps : List (List α)} {i : Nat} (h : i < ps.length) : (ps.take (i + 1)).flatten = (ps.take i).flatten ++ ps.getD i default := by
  rw [List.take_add_one, List.flatten_append, List.getD_eq_getElem?_getD, List.getElem?_eq_getElem h]; simp
theorem flat_le {α : Type} (ps : List (List α)) (i : Nat) : (ps.take i).flatten.length ≤ ps.flatten.length := by
  conv => rhs; rw [← List.take_append_drop i ps, List.flatten_append, List.length_append]
  exact Nat.le_add_right _ _

set_option maxHeartbeats 4000000 in
set_option maxRecDepth 10000 in
theorem concatZ_spec (ps : List (List Int)) (hl : ps.flatten.length < 2 ^ 38) (hk : ps.length < 2 ^ 38) : FreshCalls Tryz.prog 35 [.one (.rows 1 ps.length (fun i _ => C.ints .i64 (ps.getD i default)))] (Bk.ints 3 .i64 (ps.flatten)) := by
  refine fresh_of_vc T_ok mixed Tryz.func35 rfl (by decide) _ (by simp [Tryz.ntmps35]) ⟨[0, 2, 3, 5, 6, 8, 9, 10, 11, 12, 20, 25, 26, 27, 28], []⟩ (by kernel_rfl) (Bk.ints 3 .i64 (ps.flatten)) trivial ?_
  show vc T Tryz.prog ⟨[0, 2, 3, 5, 6, 8, 9, 10, 11, 12, 20, 25, 26, 27, 28], []⟩ (Option.get! Tryz.f35.body) _ _
  simp only [Tryz.f35, Tryz.ntmps35, Option.get!, initSt, initM, envOf, Nat.reduceAdd]
  simp only [vx, T, s_i5, s_n0, s_i6, s_i7, ↓reduceIte, s_n1, s_n2, s_n3, s_n4, s_n5, s_n6, s_n7, s_n8, s_n9, reduceCtorEq, s_i1, s_i2, s_i3, s_i4]
  refine LoopK.go (fun y : {i : Nat // i ≤ ps.length} => ⟨[(0, .one (.rows 1 ps.length (fun i _ => C.ints .i64 (ps.getD i default)))), (3, .one (.int .i64 (ps.take y.1).flatten.length)), (9, .one (.rows 1 ps.length (fun i _ => C.ints .i64 (ps.getD i default)))), (10, .one (.int .i64 ps.length)), (11, .one (.int .i64 y.1))], [], 1, 36⟩) (fun y => ps.length - y.1) ⟨0, Nat.zero_le _⟩ ?_ (fun ⟨i, hi⟩ => ?_)
  · refine Sub.auto ?_; simp only [rx, envRen, vRen, cRen, lRen, ownRen, bRen, apartRen, emptyBk, ren, ↓reduceIte, s_n1, s_n2, s_n3, s_n4, s_n5, s_n6, s_n7, s_n8, s_n9, reduceCtorEq, s_i1, s_i2, s_i3, s_i4, autoR, autoOne, Int.natCast_add, Int.natCast_one, Int.natCast_zero]
  have h0 := flat_le ps i
  have i1 : IntKind.i64.wrap ((i : Int) + 1) = ((i + 1 : Nat) : Int) := by rw [IntWalk.i64_in _ (by omega)]; omega
  simp only [vx, T, s_i5, s_n0, s_i6, s_i7, ↓reduceIte, s_n1, s_n2, s_n3, s_n4, s_n5, s_n6, s_n7, s_n8, s_n9, reduceCtorEq, s_i1, s_i2, s_i3, s_i4]
  refine ⟨fun h1 => Later.go ?_, fun h1 => Later.go ?_⟩
  · have hs := flat_step (ps := ps) (i := i) (by omega)
    have h2 := flat_le ps (i + 1)
    have hsl : (ps.take (i + 1)).flatten.length = (ps.take i).flatten.length + (ps.getD i default).length := by rw [hs, List.length_append]
    obtain ⟨a, ha⟩ : ∃ a, a = ps.getD i default := ⟨_, rfl⟩
    rw [← ha] at hsl
    have w1 : IntKind.i64.wrap (((ps.take i).flatten.length : Int) + a.length) = ((ps.take (i + 1)).flatten.length : Int) := by rw [IntWalk.i64_in _ (by omega)]; omega
    simp only [vx, T, s_i5, s_n0, s_i6, s_i7, ↓reduceIte, s_n1, s_n2, s_n3, s_n4, s_n5, s_n6, s_n7, s_n8, s_n9, reduceCtorEq, s_i1, s_i2, s_i3, s_i4, PC, ← ha]
    simp only [w1]
    refine ⟨by omega, fun h => absurd h (by omega), fun _ => Later.go ?_⟩
    simp only [vx, T, s_i5, s_n0, s_i6, s_i7, ↓reduceIte, s_n1, s_n2, s_n3, s_n4, s_n5, s_n6, s_n7, s_n8, s_n9, reduceCtorEq, s_i1, s_i2, s_i3, s_i4, PC, ← ha]
    simp only [i1]
    refine loopQ.go ⟨i + 1, by omega⟩ ?_ ?_
    · refine Sub.auto ?_; simp only [rx, envRen, vRen, cRen, lRen, ownRen, bRen, apartRen, emptyBk, ren, ↓reduceIte, s_n1, s_n2, s_n3, s_n4, s_n5, s_n6, s_n7, s_n8, s_n9, reduceCtorEq, s_i1, s_i2, s_i3, s_i4, autoR, autoOne, Int.natCast_add, Int.natCast_one, Int.natCast_zero]
    · simp only; omega
  · have hip : i = ps.length := by omega
    subst hip
    rw [List.take_length]
    simp only [vx, T, s_i5, s_n0, s_i6, s_i7, ↓reduceIte, s_n1, s_n2, s_n3, s_n4, s_n5, s_n6, s_n7, s_n8, s_n9, reduceCtorEq, s_i1, s_i2, s_i3, s_i4]
    refine CallK.fresh (growZ_spec ps.flatten.length (by omega)) ?_
    simp only [vx, T, s_i5, s_n0, s_i6, s_i7, ↓reduceIte, s_n1, s_n2, s_n3, s_n4, s_n5, s_n6, s_n7, s_n8, s_n9, reduceCtorEq, s_i1, s_i2, s_i3, s_i4]
    refine LoopK.go (fun y : {i : Nat // i ≤ ps.length} => ⟨[(0, .one (.rows 1 ps.length (fun i _ => C.ints .i64 (ps.getD i default)))), (6, .one (.own 1 1 0 (ps.take y.1).flatten.length)), (25, .one (.rows 1 ps.length (fun i _ => C.ints .i64 (ps.getD i default)))), (26, .one (.int .i64 ps.length)), (27, .one (.int .i64 y.1))], [(1, ⟨(Bk.ints 3 .i64 ((ps.take y.1).flatten)), true⟩)], 2, 36⟩) (fun y => ps.length - y.1) ⟨0, Nat.zero_le _⟩ ?_ (fun ⟨i, hi⟩ => ?_)
    · refine Sub.auto ?_; simp only [rx, envRen, vRen, cRen, lRen, ownRen, bRen, apartRen, emptyBk, ren, ↓reduceIte, s_n1, s_n2, s_n3, s_n4, s_n5, s_n6, s_n7, s_n8, s_n9, reduceCtorEq, s_i1, s_i2, s_i3, s_i4, autoR, autoOne, Int.natCast_add, Int.natCast_one, Int.natCast_zero]
      skip
    have h0 := flat_le ps i
    have i1 : IntKind.i64.wrap ((i : Int) + 1) = ((i + 1 : Nat) : Int) := by rw [IntWalk.i64_in _ (by omega)]; omega
    simp only [vx, T, s_i5, s_n0, s_i6, s_i7, ↓reduceIte, s_n1, s_n2, s_n3, s_n4, s_n5, s_n6, s_n7, s_n8, s_n9, reduceCtorEq, s_i1, s_i2, s_i3, s_i4]
    refine ⟨fun h1 => Later.go ?_, fun h1 => Later.go ?_⟩
    · have hs := flat_step (ps := ps) (i := i) (by omega)
      have h2 := flat_le ps (i + 1)
      have hsl : (ps.take (i + 1)).flatten.length = (ps.take i).flatten.length + (ps.getD i default).length := by rw [hs, List.length_append]
      obtain ⟨a, ha⟩ : ∃ a, a = ps.getD i default := ⟨_, rfl⟩
      rw [← ha] at hsl hs
      simp only [vx, T, s_i5, s_n0, s_i6, s_i7, ↓reduceIte, s_n1, s_n2, s_n3, s_n4, s_n5, s_n6, s_n7, s_n8, s_n9, reduceCtorEq, s_i1, s_i2, s_i3, s_i4, PC, ← ha]
      simp only [i1]
      refine ⟨by omega, by rw [← List.length_append, ← hs]; omega, loopQ.go ⟨i + 1, by omega⟩ ?_ ?_⟩
      · refine Sub.auto ?_; simp only [rx, envRen, vRen, cRen, lRen, ownRen, bRen, apartRen, emptyBk, ren, ↓reduceIte, s_n1, s_n2, s_n3, s_n4, s_n5, s_n6, s_n7, s_n8, s_n9, reduceCtorEq, s_i1, s_i2, s_i3, s_i4, autoR, autoOne, Int.natCast_add, Int.natCast_one, Int.natCast_zero, hs]
        skip
      · simp only; omega
    · have hip : i = ps.length := by omega
      subst hip
      rw [List.take_length]
      simp only [vx, T, s_i5, s_n0, s_i6, s_i7, ↓reduceIte, s_n1, s_n2, s_n3, s_n4, s_n5, s_n6, s_n7, s_n8, s_n9, reduceCtorEq, s_i1, s_i2, s_i3, s_i4]
      exact ⟨rfl, rfl⟩

set_option maxHeartbeats 4000000 in
set_option maxRecDepth 10000 in
theorem concatP_spec (ps : List (List Mono)) (hl : ps.flatten.length < 2 ^ 38) (hk : ps.length < 2 ^ 38) : FreshCalls Tryz.prog 33 [.one (.rows 1 ps.length (fun i _ => PC (ps.getD i default)))] (.rows 55 5 (ps.flatten).length (fR (ps.flatten))) := by
  refine fresh_of_vc T_ok mixed Tryz.func33 rfl (by decide) _ (by simp [Tryz.ntmps33]) ⟨[0, 2, 3, 5, 6, 8, 9, 10, 11, 12, 20, 25, 26, 27, 28], []⟩ (by kernel_rfl) (.rows 55 5 (ps.flatten).length (fR (ps.flatten))) trivial ?_
  show vc T Tryz.prog ⟨[0, 2, 3, 5, 6, 8, 9, 10, 11, 12, 20, 25, 26, 27, 28], []⟩ (Option.get! Tryz.f33.body) _ _
  simp only [Tryz.f33, Tryz.ntmps33, Option.get!, initSt, initM, envOf, Nat.reduceAdd]
  simp only [vx, T, s_i5, s_n0, s_i6, s_i7, ↓reduceIte, s_n1, s_n2, s_n3, s_n4, s_n5, s_n6, s_n7, s_n8, s_n9, reduceCtorEq, s_i1, s_i2, s_i3, s_i4]
  refine LoopK.go (fun y : {i : Nat // i ≤ ps.length} => ⟨[(0, .one (.rows 1 ps.length (fun i _ => PC (ps.getD i default)))), (3, .one (.int .i64 (ps.take y.1).flatten.length)), (9, .one (.rows 1 ps.length (fun i _ => PC (ps.getD i default)))), (10, .one (.int .i64 ps.length)), (11, .one (.int .i64 y.1))], [], 1, 36⟩) (fun y => ps.length - y.1) ⟨0, Nat.zero_le _⟩ ?_ (fun ⟨i, hi⟩ => ?_)
  · refine Sub.auto ?_; simp only [rx, envRen, vRen, cRen, lRen, ownRen, bRen, apartRen, emptyBk, ren, ↓reduceIte, s_n1, s_n2, s_n3, s_n4, s_n5, s_n6, s_n7, s_n8, s_n9, reduceCtorEq, s_i1, s_i2, s_i3, s_i4, autoR, autoOne, Int.natCast_add, Int.natCast_one, Int.natCast_zero]
  have h0 := flat_le ps i
  have i1 : IntKind.i64.wrap ((i : Int) + 1) = ((i + 1 : Nat) : Int) := by rw [IntWalk.i64_in _ (by omega)]; omega
  simp only [vx, T, s_i5, s_n0, s_i6, s_i7, ↓reduceIte, s_n1, s_n2, s_n3, s_n4, s_n5, s_n6, s_n7, s_n8, s_n9, reduceCtorEq, s_i1, s_i2, s_i3, s_i4]
  refine ⟨fun h1 => Later.go ?_, fun h1 => Later.go ?_⟩
  · have hs := flat_step (ps := ps) (i := i) (by omega)
    have h2 := flat_le ps (i + 1)
    have hsl : (ps.take (i + 1)).flatten.length = (ps.take i).flatten.length + (ps.getD i default).length := by rw [hs, List.length_append]
    obtain ⟨a, ha⟩ : ∃ a, a = ps.getD i default := ⟨_, rfl⟩
    rw [← ha] at hsl
    have w1 : IntKind.i64.wrap (((ps.take i).flatten.length : Int) + a.length) = ((ps.take (i + 1)).flatten.length : Int) := by rw [IntWalk.i64_in _ (by omega)]; omega
    simp only [vx, T, s_i5, s_n0, s_i6, s_i7, ↓reduceIte, s_n1, s_n2, s_n3, s_n4, s_n5, s_n6, s_n7, s_n8, s_n9, reduceCtorEq, s_i1, s_i2, s_i3, s_i4, PC, ← ha]
    simp only [w1]
    refine ⟨by omega, fun h => absurd h (by omega), fun _ => Later.go ?_⟩
    simp only [vx, T, s_i5, s_n0, s_i6, s_i7, ↓reduceIte, s_n1, s_n2, s_n3, s_n4, s_n5, s_n6, s_n7, s_n8, s_n9, reduceCtorEq, s_i1, s_i2, s_i3, s_i4, PC, ← ha]
    simp only [i1]
    refine loopQ.go ⟨i + 1, by omega⟩ ?_ ?_
    · refine Sub.auto ?_; simp only [rx, envRen, vRen, cRen, lRen, ownRen, bRen, apartRen, emptyBk, ren, ↓reduceIte, s_n1, s_n2, s_n3, s_n4, s_n5, s_n6, s_n7, s_n8, s_n9, reduceCtorEq, s_i1, s_i2, s_i3, s_i4, autoR, autoOne, Int.natCast_add, Int.natCast_one, Int.natCast_zero]
    · simp only; omega
  · have hip : i = ps.length := by omega
    subst hip
    rw [List.take_length]
    simp only [vx, T, s_i5, s_n0, s_i6, s_i7, ↓reduceIte, s_n1, s_n2, s_n3, s_n4, s_n5, s_n6, s_n7, s_n8, s_n9, reduceCtorEq, s_i1, s_i2, s_i3, s_i4]
    refine CallK.fresh (growP_spec ps.flatten.length (by omega)) ?_
    simp only [vx, T, s_i5, s_n0, s_i6, s_i7, ↓reduceIte, s_n1, s_n2, s_n3, s_n4, s_n5, s_n6, s_n7, s_n8, s_n9, reduceCtorEq, s_i1, s_i2, s_i3, s_i4]
    refine LoopK.go (fun y : {i : Nat // i ≤ ps.length} => ⟨[(0, .one (.rows 1 ps.length (fun i _ => PC (ps.getD i default)))), (6, .one (.own 1 5 0 (ps.take y.1).flatten.length)), (25, .one (.rows 1 ps.length (fun i _ => PC (ps.getD i default)))), (26, .one (.int .i64 ps.length)), (27, .one (.int .i64 y.1))], [(1, ⟨(.rows 55 5 ((ps.take y.1).flatten).length (fR ((ps.take y.1).flatten))), true⟩)], 2, 36⟩) (fun y => ps.length - y.1) ⟨0, Nat.zero_le _⟩ ?_ (fun ⟨i, hi⟩ => ?_)
    · refine Sub.auto ?_; simp only [rx, envRen, vRen, cRen, lRen, ownRen, bRen, apartRen, emptyBk, ren, ↓reduceIte, s_n1, s_n2, s_n3, s_n4, s_n5, s_n6, s_n7, s_n8, s_n9, reduceCtorEq, s_i1, s_i2, s_i3, s_i4, autoR, autoOne, Int.natCast_add, Int.natCast_one, Int.natCast_zero]
      exact fun i j h => absurd h (by omega)
    have h0 := flat_le ps i
    have i1 : IntKind.i64.wrap ((i : Int) + 1) = ((i + 1 : Nat) : Int) := by rw [IntWalk.i64_in _ (by omega)]; omega
    simp only [vx, T, s_i5, s_n0, s_i6, s_i7, ↓reduceIte, s_n1, s_n2, s_n3, s_n4, s_n5, s_n6, s_n7, s_n8, s_n9, reduceCtorEq, s_i1, s_i2, s_i3, s_i4]
    refine ⟨fun h1 => Later.go ?_, fun h1 => Later.go ?_⟩
    · have hs := flat_step (ps := ps) (i := i) (by omega)
      have h2 := flat_le ps (i + 1)
      have hsl : (ps.take (i + 1)).flatten.length = (ps.take i).flatten.length + (ps.getD i default).length := by rw [hs, List.length_append]
      obtain ⟨a, ha⟩ : ∃ a, a = ps.getD i default := ⟨_, rfl⟩
      rw [← ha] at hsl hs
      simp only [vx, T, s_i5, s_n0, s_i6, s_i7, ↓reduceIte, s_n1, s_n2, s_n3, s_n4, s_n5, s_n6, s_n7, s_n8, s_n9, reduceCtorEq, s_i1, s_i2, s_i3, s_i4, PC, ← ha]
      simp only [i1]
      refine ⟨by omega, by rw [← List.length_append, ← hs]; omega, loopQ.go ⟨i + 1, by omega⟩ ?_ ?_⟩
      · refine Sub.auto ?_; simp only [rx, envRen, vRen, cRen, lRen, ownRen, bRen, apartRen, emptyBk, ren, ↓reduceIte, s_n1, s_n2, s_n3, s_n4, s_n5, s_n6, s_n7, s_n8, s_n9, reduceCtorEq, s_i1, s_i2, s_i3, s_i4, autoR, autoOne, Int.natCast_add, Int.natCast_one, Int.natCast_zero, hs]
        exact ⟨by simp, by simp, app_rows _ _⟩
      · simp only; omega
    · have hip : i = ps.length := by omega
      subst hip
      rw [List.take_length]
      simp only [vx, T, s_i5, s_n0, s_i6, s_i7, ↓reduceIte, s_n1, s_n2, s_n3, s_n4, s_n5, s_n6, s_n7, s_n8, s_n9, reduceCtorEq, s_i1, s_i2, s_i3, s_i4]
      exact ⟨rfl, rfl, fun _ _ _ _ => rfl⟩
end Go.Proofs.YtckikgkdplkopaaGreat

/-! ## FnZk -/
namespace Go.Proofs.YtckikgkdplkopaaGreat
open Go Go.Eng

set_option maxRecDepth 10000 in
theorem cloneZ_spec (xs : List Int) (hx : xs.length < 2 ^ 40) : PureCalls Tryz.prog 76 [.one (.ints .i64 xs)] (.one (.ints .i64 xs)) := by
  refine pure_of_vc T_ok mixed Tryz.func76 rfl (by decide) _ (by simp [Tryz.ntmps76]) ⟨[0, 2, 4], []⟩ (by kernel_rfl) _ ?_
  show vc T Tryz.prog ⟨[0, 2, 4], []⟩ (Option.get! Tryz.f76.body) _ _
  simp only [Tryz.f76, Tryz.ntmps76, Option.get!, initSt, initM, envOf, Nat.reduceAdd]
  simp only [vx, T, s_i5, s_n0, s_i6, s_i7, ↓reduceIte, s_n1, s_n2, s_n3, s_n4, s_n5, s_n6, s_n7, s_n8, s_n9, reduceCtorEq, s_i1, s_i2, s_i3, s_i4]
  intro b hb
  refine Later.go ?_
  simp only [vx, T, s_i5, s_n0, s_i6, s_i7, ↓reduceIte, s_n1, s_n2, s_n3, s_n4, s_n5, s_n6, s_n7, s_n8, s_n9, reduceCtorEq, s_i1, s_i2, s_i3, s_i4]
  refine ⟨fun h => Later.go ?_, fun h => Later.go ?_⟩
  · simp only [vx, T, s_i5, s_n0, s_i6, s_i7, ↓reduceIte, s_n1, s_n2, s_n3, s_n4, s_n5, s_n6, s_n7, s_n8, s_n9, reduceCtorEq, s_i1, s_i2, s_i3, s_i4]
    have h0 : xs = [] := by
      cases xs with
      | nil => rfl
      | cons x xs => simp at hb; rw [hb] at h; cases h
    refine VLe.auto ?_; simp only [vLe, vLeL, rx, envRen, vRen, cRen, lRen, ownRen, bRen, apartRen, emptyBk, ren, ↓reduceIte, s_n1, s_n2, s_n3, s_n4, s_n5, s_n6, s_n7, s_n8, s_n9, reduceCtorEq, s_i1, s_i2, s_i3, s_i4, h0]
  · simp only [vx, T, s_i5, s_n0, s_i6, s_i7, ↓reduceIte, s_n1, s_n2, s_n3, s_n4, s_n5, s_n6, s_n7, s_n8, s_n9, reduceCtorEq, s_i1, s_i2, s_i3, s_i4]
    exact ⟨⟨by omega, by omega⟩, VLe.refl _⟩

/-! ### Merging like terms of a sorted list. -/
theorem insM_end {c : Rat} {v : List Int} : ∀ {os : List Mono}, (∀ x ∈ os, cmpV x.2 v < 0) → insM c v os = os ++ [(c, v)]
  | [], _ => rfl
  | m :: r, h => by
    simp only [insM]
    rw [if_pos (h m (by simp)), insM_end fun x hx => h x (by simp [hx])]; rfl
theorem insM_lastEq {c : Rat} {v : List Int} {x : Mono} (hx : x.2 = v) : ∀ {ps : List Mono}, (∀ y ∈ ps, cmpV y.2 v < 0) → insM c v (ps ++ [x]) = ps ++ [(x.1 + c, v)]
  | [], _ => by simp only [List.nil_append, insM]; rw [if_neg (by rw [hx]; exact cmpV_irrefl v), if_pos hx]
  | m :: r, h => by
    simp only [List.cons_append, insM]
    rw [if_pos (h m (by simp)), insM_lastEq hx fun y hy => h y (by simp [hy])]
theorem asc_last {os : List Mono} (h : Asc os) {k : Nat} (hk : k + 1 = os.length) : ∀ y ∈ os.take k, cmpV y.2 (os.getD k default).2 < 0 := by
  intro y hy
  obtain ⟨i, hi, rfl⟩ := List.mem_iff_getElem.1 hy
  rw [List.length_take] at hi
  rw [List.getElem_take, getD_eq (by omega)]
  exact List.pairwise_iff_getElem.1 h i k (by omega) (by omega) (by omega)
theorem split_last {os : List Mono} {k : Nat} (hk : k + 1 = os.length) : os = os.take k ++ [os.getD k default] := by
  rw [← take_step (by omega), List.take_of_length_le (by omega)]
theorem insM_same {c : Rat} {v : List Int} {os : List Mono} (h : Asc os) {k : Nat} (hk : k + 1 = os.length) (hv : (os.getD k default).2 = v) : insM c v os = os.set k ((os.getD k default).1 + c, v) := by
  have h1 := asc_last h hk
  rw [hv] at h1
  conv => lhs; rw [split_last hk]
  rw [insM_lastEq hv h1, List.set_eq_take_append_cons_drop, if_pos (by omega), List.drop_eq_nil_of_le (by omega)]
theorem insM_new {c : Rat} {v : List Int} {os : List Mono} (h : Asc os) (hall : ∀ x ∈ os, cmpV x.2 v ≤ 0) (hne : ∀ k, k + 1 = os.length → (os.getD k default).2 ≠ v) : insM c v os = os ++ [(c, v)] := by
  refine insM_end fun x hx => ?_
  have h1 := hall x hx
  obtain ⟨i, hi, rfl⟩ := List.mem_iff_getElem.1 hx
  have h2 := hne (os.length - 1) (by omega)
  have h3 := hall (os.getD (os.length - 1) default) (by rw [getD_eq (by omega)]; exact List.getElem_mem _)
  have h4 : cmpV (os.getD (os.length - 1) default).2 v < 0 := by
    have : cmpV (os.getD (os.length - 1) default).2 v ≠ 0 := fun e => h2 (cmpV_zero.1 e)
    omega
  by_cases h5 : i = os.length - 1
  · subst h5; rw [getD_eq (by omega)] at h4; exact h4
  · have h6 := List.pairwise_iff_getElem.1 h i (os.length - 1) (by omega) (by omega) (by omega)
    rw [getD_eq (by omega)] at h4
    exact cmpV_lt_trans h6 h4
theorem norL_step {ys : List Mono} {i : Nat} (hi : i < ys.length) : norL (ys.take (i + 1)) [] = insM (ys.getD i default).1 (ys.getD i default).2 (norL (ys.take i) []) := by
  rw [take_step hi]
  unfold norL
  rw [List.foldl_append]; rfl

def NorR (l : List Mono) (r : V) (_ : Bk) : Prop := ∃ k f, r = .one (.rows 5 k f) ∧ k = (norM l).length ∧ ∀ i j, i < k → j < 5 → f i j = fR (norM l) i j

set_option maxHeartbeats 4000000 in
set_option maxRecDepth 10000 in
theorem normal_spec {l : List Mono} {n d B : Nat} (h : PB l n d B) (hn : n * (B + 1) < 2 ^ 30) (hn1 : n < 2 ^ 30) (hB : B < 2 ^ 30) (hd : d < 2 ^ 30) {N : Nat} (hN : l.length = N) :
    MutCalls Tryz.prog 32 [.one (.own 0 5 0 N)] (.rows 55 5 N (fR l)) (NorR l) := by
  have hln := h.n
  have hlo : LOk l := fun m hm => Nat.lt_of_le_of_lt (h.m m hm).2.1 (by omega)
  refine mut_of_vc T_ok mixed Tryz.func32 rfl (by decide) _ (by simp [Tryz.ntmps32]) ⟨[0, 2, 3, 5, 6, 9, 10, 11, 12, 30], []⟩ (by kernel_rfl) (.rows 55 5 N (fR l)) trivial _ ?_
  show vc T Tryz.prog ⟨[0, 2, 3, 5, 6, 9, 10, 11, 12, 30], []⟩ (Option.get! Tryz.f32.body) _ _
  simp only [Tryz.f32, Tryz.ntmps32, Option.get!, initSt, initM, envOf, Nat.reduceAdd]
  simp only [vx, T, s_i5, s_n0, s_i6, s_i7, ↓reduceIte, s_n1, s_n2, s_n3, s_n4, s_n5, s_n6, s_n7, s_n8, s_n9, reduceCtorEq, s_i1, s_i2, s_i3, s_i4]
  refine CallK.mut 0 rfl trivial (SortStable_spec l hN (by omega) hlo) ?_
  rintro _ _ ⟨ys, rfl, rfl, hp, hs⟩ _
  have hyl : ys.length = N := hp.length_eq.trans hN
  have hys : PB ys n d B := ⟨by rw [hp.length_eq]; exact hln, fun m hm => h.m m (hp.mem_iff.1 hm)⟩
  have hpre : ∀ i, i ≤ N → (norL (ys.take i) []).length ≤ i ∧ ∀ m ∈ norL (ys.take i) [], qm m.1 ≤ n * (B + 1) ∧ m.2.length ≤ d ∧ In63 m.2 := by
    intro i hi
    have h1 := PB.sumL (l := ys.take i) (d := d) (B := B) (fun m hm => hys.m m (List.mem_of_mem_take hm)) 0 [] ⟨by simp, fun m hm => by cases hm⟩
    rw [Nat.zero_add, List.length_take, Nat.min_eq_left (by omega)] at h1
    refine ⟨h1.1, fun m hm => ?_⟩
    have h2 := h1.2 m hm
    exact ⟨Nat.le_trans h2.1 (Nat.mul_le_mul_right _ (by omega)), h2.2⟩
  simp only [vx, T, s_i5, s_n0, s_i6, s_i7, ↓reduceIte, s_n1, s_n2, s_n3, s_n4, s_n5, s_n6, s_n7, s_n8, s_n9, reduceCtorEq, s_i1, s_i2, s_i3, s_i4]
  refine LoopK.go (fun y : {y : Nat × List Mono // y.1 ≤ N ∧ y.2 = norL (ys.take y.1) []} => ⟨[(2, .one .nil), (3, .one (.own 1 5 0 y.1.2.length)), (9, .one (.own 0 5 0 N)), (10, .one (.int .i64 N)), (11, .one (.int .i64 y.1.1))], [(0, ⟨.rows 55 5 N (fR ys), true⟩), (1, ⟨.rows 55 5 y.1.2.length (fR y.1.2), true⟩)], 2, 57⟩) (fun y => N - y.1.1) ⟨(0, []), Nat.zero_le _, rfl⟩ ?_ (fun ⟨⟨i, os⟩, hi, hos⟩ => ?_)
  · refine Sub.auto ?_; simp only [rx, envRen, vRen, cRen, lRen, ownRen, bRen, apartRen, emptyBk, ren, ↓reduceIte, s_n1, s_n2, s_n3, s_n4, s_n5, s_n6, s_n7, s_n8, s_n9, reduceCtorEq, s_i1, s_i2, s_i3, s_i4, autoR, autoOne, Int.natCast_add, Int.natCast_one, Int.natCast_zero]
  simp only at hi hos
  have hol := (hpre i hi).1
  have hom := (hpre i hi).2
  have hoa : Asc os := by rw [hos]; exact norL_asc _ List.Pairwise.nil
  rw [← hos] at hol hom
  simp only [vx, T, s_i5, s_n0, s_i6, s_i7, ↓reduceIte, s_n1, s_n2, s_n3, s_n4, s_n5, s_n6, s_n7, s_n8, s_n9, reduceCtorEq, s_i1, s_i2, s_i3, s_i4]
  refine ⟨fun h1 => Later.go ?_, fun h1 => Later.go ?_⟩
  · have hil : i < N := by omega
    have i1 : IntKind.i64.wrap ((i : Int) + 1) = ((i + 1 : Nat) : Int) := by rw [IntWalk.i64_in _ (by omega)]; omega
    have hstep := norL_step (ys := ys) (i := i) (by omega)
    obtain ⟨a, ha⟩ : ∃ a, a = ys.getD i default := ⟨_, rfl⟩
    have hai := hys.get (i := i) (by omega)
    rw [← hos, ← ha] at hstep
    rw [← ha] at hai
    have hall : ∀ x ∈ os, cmpV x.2 a.2 ≤ 0 := by
      intro x hx
      rw [hos] at hx
      rcases norL_mem hx with ⟨m, hm, e⟩ | ⟨m, hm, _⟩
      · obtain ⟨j, hj, rfl⟩ := List.mem_iff_getElem.1 hm
        rw [List.length_take] at hj
        rw [List.getElem_take, ← getD_eq (by omega)] at e
        rw [e, ha]
        exact hs j i (Nat.zero_le _) (by omega) hil
      · cases hm
    simp only [vx, T, s_i5, s_n0, s_i6, s_i7, ↓reduceIte, s_n1, s_n2, s_n3, s_n4, s_n5, s_n6, s_n7, s_n8, s_n9, reduceCtorEq, s_i1, s_i2, s_i3, s_i4, fR0, fR1, fR2, fR3, fR4, ← ha]
    refine ⟨by omega, fun h2 => Later.go ?_, fun h2 => Later.go ?_⟩
    · obtain ⟨k, hk⟩ : ∃ k, k + 1 = os.length := ⟨os.length - 1, by omega⟩
      have k1 : IntKind.i64.wrap ((os.length : Int) - 1) = (k : Int) := by rw [IntWalk.i64_in _ (by omega)]; omega
      obtain ⟨b, hb⟩ : ∃ b, b = os.getD k default := ⟨_, rfl⟩
      have hbm := hom b (by rw [hb, getD_eq]; exact List.getElem_mem (by omega))
      simp only [vx, T, s_i5, s_n0, s_i6, s_i7, ↓reduceIte, s_n1, s_n2, s_n3, s_n4, s_n5, s_n6, s_n7, s_n8, s_n9, reduceCtorEq, s_i1, s_i2, s_i3, s_i4, fR0, fR1, fR2, fR3, fR4, k1, ← ha, ← hb]
      refine ⟨by omega, CallK.go (compareV_spec b.2 a.2 (by omega) (by omega)) ?_⟩
      simp only [vx, T, s_i5, s_n0, s_i6, s_i7, ↓reduceIte, s_n1, s_n2, s_n3, s_n4, s_n5, s_n6, s_n7, s_n8, s_n9, reduceCtorEq, s_i1, s_i2, s_i3, s_i4]
      refine ⟨fun h3 => Later.go ?_, fun h3 => Later.go ?_⟩
      · have h3 : b.2 = a.2 := cmpV_zero.1 (by omega)
        have hset := insM_same (c := a.1) (v := a.2) hoa hk (by rw [← hb]; exact h3)
        have hlen : (insM a.1 a.2 os).length = os.length := by rw [hset, List.length_set]
        simp only [vx, T, s_i5, s_n0, s_i6, s_i7, ↓reduceIte, s_n1, s_n2, s_n3, s_n4, s_n5, s_n6, s_n7, s_n8, s_n9, reduceCtorEq, s_i1, s_i2, s_i3, s_i4, fR0, fR1, fR2, fR3, fR4, k1, ← ha, ← hb]
        refine ⟨by omega, CallK.go (iQAdd_spec b.1 a.1 (by omega) (by omega)) ?_⟩
        simp only [vx, T, s_i5, s_n0, s_i6, s_i7, ↓reduceIte, s_n1, s_n2, s_n3, s_n4, s_n5, s_n6, s_n7, s_n8, s_n9, reduceCtorEq, s_i1, s_i2, s_i3, s_i4, QV, QC, frzs]
        simp only [i1]
        refine ⟨by omega, loopQ.go ⟨(i + 1, insM a.1 a.2 os), by simp only; omega, hstep.symm⟩ ?_ ?_⟩
        · refine Sub.auto ?_; simp only [rx, envRen, vRen, cRen, lRen, ownRen, bRen, apartRen, emptyBk, ren, ↓reduceIte, s_n1, s_n2, s_n3, s_n4, s_n5, s_n6, s_n7, s_n8, s_n9, reduceCtorEq, s_i1, s_i2, s_i3, s_i4, autoR, autoOne, Int.natCast_add, Int.natCast_one, Int.natCast_zero, hlen]
          intro i' j' hi' hj'
          rw [set_rows (by omega) i' j' hi' hj', hset, ← hb, h3]
        · simp only; omega
      · have hins := insM_new (c := a.1) (v := a.2) hoa hall (fun k' hk' e => h3 (by rw [show k' = k by omega, ← hb] at e; rw [cmpV_zero.2 e]))
        have hlen : (insM a.1 a.2 os).length = os.length + 1 := by rw [hins, List.length_append]; rfl
        simp only [vx, T, s_i5, s_n0, s_i6, s_i7, ↓reduceIte, s_n1, s_n2, s_n3, s_n4, s_n5, s_n6, s_n7, s_n8, s_n9, reduceCtorEq, s_i1, s_i2, s_i3, s_i4, fR0, fR1, fR2, fR3, fR4, ← ha]
        refine CallK.go (cloneZ_spec a.2 (by omega)) ?_
        simp only [vx, T, s_i5, s_n0, s_i6, s_i7, ↓reduceIte, s_n1, s_n2, s_n3, s_n4, s_n5, s_n6, s_n7, s_n8, s_n9, reduceCtorEq, s_i1, s_i2, s_i3, s_i4, QV, QC]
        simp only [i1]
        refine ⟨by omega, loopQ.go ⟨(i + 1, insM a.1 a.2 os), by simp only; omega, hstep.symm⟩ ?_ ?_⟩
        · refine Sub.auto ?_; simp only [rx, envRen, vRen, cRen, lRen, ownRen, bRen, apartRen, emptyBk, ren, ↓reduceIte, s_n1, s_n2, s_n3, s_n4, s_n5, s_n6, s_n7, s_n8, s_n9, reduceCtorEq, s_i1, s_i2, s_i3, s_i4, autoR, autoOne, Int.natCast_add, Int.natCast_one, Int.natCast_zero, hlen]
          rw [hins]
          exact snoc_rows os (a.1, a.2)
        · simp only; omega
    · have hins := insM_new (c := a.1) (v := a.2) hoa hall (fun k' hk' => absurd h2 (by omega))
      have hlen : (insM a.1 a.2 os).length = os.length + 1 := by rw [hins, List.length_append]; rfl
      simp only [vx, T, s_i5, s_n0, s_i6, s_i7, ↓reduceIte, s_n1, s_n2, s_n3, s_n4, s_n5, s_n6, s_n7, s_n8, s_n9, reduceCtorEq, s_i1, s_i2, s_i3, s_i4, fR0, fR1, fR2, fR3, fR4, ← ha]
      refine CallK.go (cloneZ_spec a.2 (by omega)) ?_
      simp only [vx, T, s_i5, s_n0, s_i6, s_i7, ↓reduceIte, s_n1, s_n2, s_n3, s_n4, s_n5, s_n6, s_n7, s_n8, s_n9, reduceCtorEq, s_i1, s_i2, s_i3, s_i4, QV, QC]
      simp only [i1]
      refine ⟨by omega, loopQ.go ⟨(i + 1, insM a.1 a.2 os), by simp only; omega, hstep.symm⟩ ?_ ?_⟩
      · refine Sub.auto ?_; simp only [rx, envRen, vRen, cRen, lRen, ownRen, bRen, apartRen, emptyBk, ren, ↓reduceIte, s_n1, s_n2, s_n3, s_n4, s_n5, s_n6, s_n7, s_n8, s_n9, reduceCtorEq, s_i1, s_i2, s_i3, s_i4, autoR, autoOne, Int.natCast_add, Int.natCast_one, Int.natCast_zero, hlen]
        rw [hins]
        exact snoc_rows os (a.1, a.2)
      · simp only; omega
  · have hiN : i = N := by omega
    have hfin : os = norL ys [] := by rw [hos, hiN, ← hyl, List.take_length]
    have hq : QOk os := fun m hm => by have := (hom m hm).1; omega
    have hres : os.filter qn = norM l := by
      rw [hfin, ← norM_perm hp]; rfl
    simp only [vx, T, s_i5, s_n0, s_i6, s_i7, ↓reduceIte, s_n1, s_n2, s_n3, s_n4, s_n5, s_n6, s_n7, s_n8, s_n9, reduceCtorEq, s_i1, s_i2, s_i3, s_i4]
    refine CallK.mut 1 rfl trivial (DeleteFunc_spec os rfl (by omega) hq) ?_
    rintro _ _ ⟨k, f, rfl, rfl, hk1, hk2, hf⟩ _
    simp only [vx, T, s_i5, s_n0, s_i6, s_i7, ↓reduceIte, s_n1, s_n2, s_n3, s_n4, s_n5, s_n6, s_n7, s_n8, s_n9, reduceCtorEq, s_i1, s_i2, s_i3, s_i4]
    rw [hres] at hk2 hf
    refine ⟨k, _, rfl, hk2, fun i' j' hi' hj' => ?_⟩
    exact hf i' j' hi' hj'

end Go.Proofs.YtckikgkdplkopaaGreat

/-! ## FnZl -/
namespace Go.Proofs.YtckikgkdplkopaaGreat
open Go Go.Eng

theorem concatP2 (p q : List Mono) (hl : p.length + q.length < 2 ^ 38) : FreshCalls Tryz.prog 33 [.one (.rows 1 2 (fun i j => [PC p, PC q].getD (i * 1 + j) .any))] (.rows 55 5 (p ++ q).length (fR (p ++ q))) := by
  have h := concatP_spec [p, q] (by simpa using hl) (by simp)
  rw [show [p, q].flatten = p ++ q by simp] at h
  refine freshArgs h ⟨.cell (CLe.rows rfl fun i j hi hj => CLe.of_eq ?_), trivial⟩
  have : j = 0 := by omega
  subst this
  match i, hi with
  | 0, _ => rfl
  | 1, _ => rfl
theorem concatZ2 (p q : List Int) (hl : p.length + q.length < 2 ^ 38) : FreshCalls Tryz.prog 35 [.one (.rows 1 2 (fun i j => [C.ints .i64 p, C.ints .i64 q].getD (i * 1 + j) .any))] (.ints 3 .i64 (p ++ q)) := by
  have h := concatZ_spec [p, q] (by simpa using hl) (by simp)
  rw [show [p, q].flatten = p ++ q by simp] at h
  refine freshArgs h ⟨.cell (CLe.rows rfl fun i j hi hj => CLe.of_eq ?_), trivial⟩
  have : j = 0 := by omega
  subst this
  match i, hi with
  | 0, _ => rfl
  | 1, _ => rfl

set_option maxHeartbeats 4000000 in
set_option maxRecDepth 10000 in
theorem iAddP_spec {p q : List Mono} {n d B n' d' B' : Nat} (hp : PB p n d B) (hq : PB q n' d' B') (hd : max d d' < 2 ^ 30) (hn : (n + n') * (max B B' + 1) < 2 ^ 30) (hB : max B B' < 2 ^ 30) : PureCalls Tryz.prog 11 [PV p, PV q] (PV (norM (p ++ q))) := by
  have hl : n + n' < 2 ^ 30 := Nat.lt_of_le_of_lt (Nat.le_mul_of_pos_right _ (by omega)) hn
  have hpl := hp.n
  have hql := hq.n
  refine pure_of_vc T_ok mixed Tryz.func11 rfl (by decide) _ (by simp [Tryz.ntmps11]) ⟨[0, 1, 4], []⟩ (by kernel_rfl) _ ?_
  show vc T Tryz.prog ⟨[0, 1, 4], []⟩ (Option.get! Tryz.f11.body) _ _
  simp only [Tryz.f11, Tryz.ntmps11, Option.get!, initSt, initM, envOf, Nat.reduceAdd]
  simp only [vx, T, s_i5, s_n0, s_i6, s_i7, ↓reduceIte, s_n1, s_n2, s_n3, s_n4, s_n5, s_n6, s_n7, s_n8, s_n9, reduceCtorEq, s_i1, s_i2, s_i3, s_i4, PV, PC]
  refine CallK.fresh (concatP2 p q (by omega)) ?_
  simp only [vx, T, s_i5, s_n0, s_i6, s_i7, ↓reduceIte, s_n1, s_n2, s_n3, s_n4, s_n5, s_n6, s_n7, s_n8, s_n9, reduceCtorEq, s_i1, s_i2, s_i3, s_i4]
  refine CallK.mut 5 rfl trivial (normal_spec (hp.append hq) hn hl hB hd rfl) ?_
  rintro _ _ ⟨k, f, rfl, hk, hf⟩ _
  simp only [vx, T, s_i5, s_n0, s_i6, s_i7, ↓reduceIte, s_n1, s_n2, s_n3, s_n4, s_n5, s_n6, s_n7, s_n8, s_n9, reduceCtorEq, s_i1, s_i2, s_i3, s_i4]
  exact VLe.auto ⟨rfl, hk, hf⟩

set_option maxRecDepth 10000 in
theorem Index_spec (xs : List Int) (v : Int) (hl : xs.length < 2 ^ 38) (hv : v ∈ xs) : PureCalls Tryz.prog 39 [.one (.ints .i64 xs), .one (.int .i64 v)] (.one (.int .i64 (xs.idxOf v : Nat))) := by
  refine pure_of_vc T_ok mixed Tryz.func39 rfl (by decide) _ (by simp [Tryz.ntmps39]) ⟨[0, 1, 4, 5, 7, 8, 9, 16], []⟩ (by kernel_rfl) _ ?_
  show vc T Tryz.prog ⟨[0, 1, 4, 5, 7, 8, 9, 16], []⟩ (Option.get! Tryz.f39.body) _ _
  simp only [Tryz.f39, Tryz.ntmps39, Option.get!, initSt, initM, envOf, Nat.reduceAdd]
  simp only [vx, T, s_i5, s_n0, s_i6, s_i7, ↓reduceIte, s_n1, s_n2, s_n3, s_n4, s_n5, s_n6, s_n7, s_n8, s_n9, reduceCtorEq, s_i1, s_i2, s_i3, s_i4]
  refine LoopK.go (fun y : {i : Nat // i ≤ xs.length ∧ ∀ k, k < i → xs.getD k 0 ≠ v} => ⟨[(0, .one (.ints .i64 xs)), (1, .one (.int .i64 v)), (7, .one (.int .i64 xs.length)), (8, .one (.int .i64 y.1))], [], 1, 19⟩) (fun y => xs.length - y.1) ⟨0, Nat.zero_le _, fun k h => absurd h (Nat.not_lt_zero _)⟩ ?_ (fun ⟨i, hi, hz⟩ => ?_)
  · refine Sub.auto ?_; simp only [rx, envRen, vRen, cRen, lRen, ownRen, bRen, apartRen, emptyBk, ren, ↓reduceIte, s_n1, s_n2, s_n3, s_n4, s_n5, s_n6, s_n7, s_n8, s_n9, reduceCtorEq, s_i1, s_i2, s_i3, s_i4, autoR, autoOne, Int.natCast_add, Int.natCast_one, Int.natCast_zero]
  have i1 : IntKind.i64.wrap ((i : Int) + 1) = ((i + 1 : Nat) : Int) := by rw [IntWalk.i64_in _ (by omega)]; omega
  simp only [vx, T, s_i5, s_n0, s_i6, s_i7, ↓reduceIte, s_n1, s_n2, s_n3, s_n4, s_n5, s_n6, s_n7, s_n8, s_n9, reduceCtorEq, s_i1, s_i2, s_i3, s_i4]
  refine ⟨fun h1 => Later.go ?_, fun h1 => Later.go ?_⟩
  · simp only [vx, T, s_i5, s_n0, s_i6, s_i7, ↓reduceIte, s_n1, s_n2, s_n3, s_n4, s_n5, s_n6, s_n7, s_n8, s_n9, reduceCtorEq, s_i1, s_i2, s_i3, s_i4]
    refine ⟨by omega, ?_⟩
    refine ⟨fun h2 => Later.go ?_, fun h2 => Later.go ?_⟩
    · have e1 : xs.idxOf v = i := by
        unfold List.idxOf
        rw [List.findIdx_eq (by omega)]
        refine ⟨by have e := h2; rw [List.getD_eq_getElem?_getD, List.getElem?_eq_getElem (by omega)] at e; simpa using e.symm, fun j hj => ?_⟩
        have := hz j hj
        rw [List.getD_eq_getElem?_getD, List.getElem?_eq_getElem (by omega)] at this
        simpa using this
      simp only [vx, T, s_i5, s_n0, s_i6, s_i7, ↓reduceIte, s_n1, s_n2, s_n3, s_n4, s_n5, s_n6, s_n7, s_n8, s_n9, reduceCtorEq, s_i1, s_i2, s_i3, s_i4, e1]
      exact VLe.of_eq rfl
    · simp only [vx, T, s_i5, s_n0, s_i6, s_i7, ↓reduceIte, s_n1, s_n2, s_n3, s_n4, s_n5, s_n6, s_n7, s_n8, s_n9, reduceCtorEq, s_i1, s_i2, s_i3, s_i4]
      simp only [i1]
      refine loopQ.go ⟨i + 1, by omega, fun k hk => ?_⟩ ?_ ?_
      · by_cases h3 : k < i
        · exact hz k h3
        · rw [show k = i by omega]; exact fun e => h2 e.symm
      · refine Sub.auto ?_; simp only [rx, envRen, vRen, cRen, lRen, ownRen, bRen, apartRen, emptyBk, ren, ↓reduceIte, s_n1, s_n2, s_n3, s_n4, s_n5, s_n6, s_n7, s_n8, s_n9, reduceCtorEq, s_i1, s_i2, s_i3, s_i4, autoR, autoOne, Int.natCast_add, Int.natCast_one, Int.natCast_zero]
      · simp only; omega
  · exfalso
    obtain ⟨k, hk, rfl⟩ := List.mem_iff_getElem.1 hv
    refine hz k (by omega) ?_
    rw [List.getD_eq_getElem?_getD, List.getElem?_eq_getElem hk]; rfl

theorem pb_derP {p : List Mono} {n d B : Nat} (h : PB p n d B) (hd : d < 2 ^ 30) (v : Int) : PB (derP p v) n d (B + 2) := by
  refine ⟨?_, fun m hm => ?_⟩
  · have : ∀ l : List Mono, (derP l v).length ≤ l.length := by
      intro l
      induction l with
      | nil => exact Nat.le_refl _
      | cons m r ih =>
        have e : derP (m :: r) v = (if m.2.count v = 0 then [] else [(m.1 * (m.2.count v : Nat), m.2.erase v)]) ++ derP r v := by unfold derP; rw [List.flatMap_cons]
        rw [e, List.length_append, List.length_cons]
        split <;> simp only [List.length_nil, List.length_cons] <;> omega
    exact Nat.le_trans (this p) h.n
  · obtain ⟨x, hx, he⟩ := List.mem_flatMap.1 hm
    split at he
    · cases he
    · obtain rfl := List.mem_singleton.1 he
      have h1 := h.m x hx
      have h2 := qm_mul x.1 ((x.2.count v : Nat) : Rat)
      have h3 : qm ((x.2.count v : Nat) : Rat) ≤ 2 := qm_ofInt (z := (x.2.count v : Nat)) (by have := List.count_le_length (a := v) (l := x.2); omega)
      exact ⟨by simp only; omega, Nat.le_trans List.length_erase_le h1.2.1, fun y hy => h1.2.2 y (List.mem_of_mem_erase hy)⟩

theorem take_drop_erase {l : List Int} {v : Int} : l.take (l.idxOf v) ++ l.drop (l.idxOf v + 1) = l.erase v := by
  rw [← List.eraseIdx_eq_take_drop_succ]; exact (List.erase_eq_eraseIdx_of_idxOf rfl).symm
theorem count_step {l : List Int} {v : Int} {j : Nat} (h : j < l.length) : (l.take (j + 1)).count v = (l.take j).count v + (if l.getD j 0 = v then 1 else 0) := by
  rw [List.take_add_one, List.count_append, List.getElem?_eq_getElem h, List.getD_eq_getElem?_getD, List.getElem?_eq_getElem h]
  simp [List.count_singleton]

set_option maxHeartbeats 4000000 in
set_option maxRecDepth 10000 in
theorem iDer_spec {p : List Mono} {n d B : Nat} (v : Int) (hp : PB p n d B) (hd : d < 2 ^ 30) (hn : n * (B + 3) < 2 ^ 30) (hB : B < 2 ^ 29) : PureCalls Tryz.prog 15 [PV p, .one (.int .i64 v)] (PV (derM p v)) := by
  have hpl := hp.n
  have hn1 : n < 2 ^ 30 := Nat.lt_of_le_of_lt (Nat.le_mul_of_pos_right _ (by omega)) hn
  refine pure_of_vc T_ok mixed Tryz.func15 rfl (by decide) _ (by simp [Tryz.ntmps15]) ⟨[0, 1, 4, 5, 7, 8, 10, 11, 12, 13, 14, 15, 16, 20, 21, 22, 23, 28, 33], []⟩ (by kernel_rfl) _ ?_
  show vc T Tryz.prog ⟨[0, 1, 4, 5, 7, 8, 10, 11, 12, 13, 14, 15, 16, 20, 21, 22, 23, 28, 33], []⟩ (Option.get! Tryz.f15.body) _ _
  simp only [Tryz.f15, Tryz.ntmps15, Option.get!, initSt, initM, envOf, Nat.reduceAdd]
  simp only [vx, T, s_i5, s_n0, s_i6, s_i7, ↓reduceIte, s_n1, s_n2, s_n3, s_n4, s_n5, s_n6, s_n7, s_n8, s_n9, reduceCtorEq, s_i1, s_i2, s_i3, s_i4, PV, PC]
  refine LoopK.go (fun y : {y : Nat × List Mono // y.1 ≤ p.length ∧ y.2 = derP (p.take y.1) v ∧ y.2.length ≤ y.1} => ⟨[(1, .one (.int .i64 v)), (4, .one .nil), (5, .one (.own 1 5 0 y.1.2.length)), (13, PV p), (14, .one (.int .i64 p.length)), (15, .one (.int .i64 y.1.1))], [(1, ⟨.rows 55 5 y.1.2.length (fR y.1.2), true⟩)], 5, 62⟩) (fun y => p.length - y.1.1) ⟨(0, []), by omega, rfl, by simp⟩ ?_ (fun ⟨⟨i, ls⟩, hi, hls, hll⟩ => ?_)
  · refine Sub.auto ?_; simp only [rx, envRen, vRen, cRen, lRen, ownRen, bRen, apartRen, emptyBk, ren, ↓reduceIte, s_n1, s_n2, s_n3, s_n4, s_n5, s_n6, s_n7, s_n8, s_n9, reduceCtorEq, s_i1, s_i2, s_i3, s_i4, autoR, autoOne, Int.natCast_add, Int.natCast_one, Int.natCast_zero, PV, PC]
  simp only at hi hls hll
  simp only [vx, T, s_i5, s_n0, s_i6, s_i7, ↓reduceIte, s_n1, s_n2, s_n3, s_n4, s_n5, s_n6, s_n7, s_n8, s_n9, reduceCtorEq, s_i1, s_i2, s_i3, s_i4, PV, PC]
  refine ⟨fun h1 => Later.go ?_, fun h1 => Later.go ?_⟩
  · have hil : i < p.length := by omega
    have i1 : IntKind.i64.wrap ((i : Int) + 1) = ((i + 1 : Nat) : Int) := by rw [IntWalk.i64_in _ (by omega)]; omega
    obtain ⟨a, ha⟩ : ∃ a, a = p.getD i default := ⟨_, rfl⟩
    have hpi := hp.get hil
    have hstep : derP (p.take (i + 1)) v = derP (p.take i) v ++ (if (p.getD i default).2.count v = 0 then [] else [((p.getD i default).1 * ((p.getD i default).2.count v : Nat), (p.getD i default).2.erase v)]) := take_flatMap_step (fun m : Mono => if m.2.count v = 0 then [] else [(m.1 * (m.2.count v : Nat), m.2.erase v)]) hil
    rw [← ha] at hstep hpi
    rw [← hls] at hstep
    simp only [vx, T, s_i5, s_n0, s_i6, s_i7, ↓reduceIte, s_n1, s_n2, s_n3, s_n4, s_n5, s_n6, s_n7, s_n8, s_n9, reduceCtorEq, s_i1, s_i2, s_i3, s_i4, PV, PC, ← ha, mC]
    refine ⟨by omega, LoopK.go (fun y : {j : Nat // j ≤ a.2.length} => ⟨[(1, .one (.int .i64 v)), (4, .one .nil), (5, .one (.own 1 5 0 ls.length)), (7, .one (.ptr 2 0)), (8, .one (.int .i64 ((a.2.take y.1).count v : Nat))), (13, PV p), (14, .one (.int .i64 p.length)), (15, .one (.int .i64 i)), (20, .one (.ints .i64 a.2)), (21, .one (.int .i64 a.2.length)), (22, .one (.int .i64 y.1))], [(1, ⟨.rows 55 5 ls.length (fR ls), true⟩), (2, ⟨.var (mL a), true⟩)], 5, 62⟩) (fun y => a.2.length - y.1) ⟨0, Nat.zero_le _⟩ ?_ (fun ⟨j, hj⟩ => ?_)⟩
    · refine Sub.auto ?_; simp only [rx, envRen, vRen, cRen, lRen, ownRen, bRen, apartRen, emptyBk, ren, ↓reduceIte, s_n1, s_n2, s_n3, s_n4, s_n5, s_n6, s_n7, s_n8, s_n9, reduceCtorEq, s_i1, s_i2, s_i3, s_i4, autoR, autoOne, Int.natCast_add, Int.natCast_one, Int.natCast_zero, PV, PC, mL]
      rfl
    have hcj : (a.2.take j).count v ≤ j := Nat.le_trans List.count_le_length (by rw [List.length_take]; omega)
    simp only [vx, T, s_i5, s_n0, s_i6, s_i7, ↓reduceIte, s_n1, s_n2, s_n3, s_n4, s_n5, s_n6, s_n7, s_n8, s_n9, reduceCtorEq, s_i1, s_i2, s_i3, s_i4, PV, PC, mL]
    refine ⟨fun h2 => Later.go ?_, fun h2 => Later.go ?_⟩
    · have j1 : IntKind.i64.wrap ((j : Int) + 1) = ((j + 1 : Nat) : Int) := by rw [IntWalk.i64_in _ (by omega)]; omega
      have c1 : IntKind.i64.wrap (((a.2.take j).count v : Int) + 1) = (((a.2.take j).count v + 1 : Nat) : Int) := by rw [IntWalk.i64_in _ (by omega)]; omega
      have hcs := count_step (l := a.2) (v := v) (j := j) (by omega)
      simp only [vx, T, s_i5, s_n0, s_i6, s_i7, ↓reduceIte, s_n1, s_n2, s_n3, s_n4, s_n5, s_n6, s_n7, s_n8, s_n9, reduceCtorEq, s_i1, s_i2, s_i3, s_i4, PV, PC, mL]
      refine ⟨by omega, ?_⟩
      refine ⟨fun h3 => Later.go ?_, fun h3 => Later.go ?_⟩
      · rw [if_pos h3] at hcs
        simp only [vx, T, s_i5, s_n0, s_i6, s_i7, ↓reduceIte, s_n1, s_n2, s_n3, s_n4, s_n5, s_n6, s_n7, s_n8, s_n9, reduceCtorEq, s_i1, s_i2, s_i3, s_i4, PV, PC, mL]
        simp only [j1, c1]
        rw [← hcs]
        refine loopQ.go ⟨j + 1, by omega⟩ ?_ ?_
        · refine Sub.auto ?_; simp only [rx, envRen, vRen, cRen, lRen, ownRen, bRen, apartRen, emptyBk, ren, ↓reduceIte, s_n1, s_n2, s_n3, s_n4, s_n5, s_n6, s_n7, s_n8, s_n9, reduceCtorEq, s_i1, s_i2, s_i3, s_i4, autoR, autoOne, Int.natCast_add, Int.natCast_one, Int.natCast_zero, PV, PC, mL]
        · simp only; omega
      · have hcs : (a.2.take (j + 1)).count v = (a.2.take j).count v := by rw [hcs, if_neg h3]; rfl
        simp only [vx, T, s_i5, s_n0, s_i6, s_i7, ↓reduceIte, s_n1, s_n2, s_n3, s_n4, s_n5, s_n6, s_n7, s_n8, s_n9, reduceCtorEq, s_i1, s_i2, s_i3, s_i4, PV, PC, mL]
        simp only [j1]
        rw [← hcs]
        refine loopQ.go ⟨j + 1, by omega⟩ ?_ ?_
        · refine Sub.auto ?_; simp only [rx, envRen, vRen, cRen, lRen, ownRen, bRen, apartRen, emptyBk, ren, ↓reduceIte, s_n1, s_n2, s_n3, s_n4, s_n5, s_n6, s_n7, s_n8, s_n9, reduceCtorEq, s_i1, s_i2, s_i3, s_i4, autoR, autoOne, Int.natCast_add, Int.natCast_one, Int.natCast_zero, PV, PC, mL]
        · simp only; omega
    · have hja : a.2.take j = a.2 := List.take_of_length_le (by omega)
      rw [hja] at hcj ⊢
      simp only [vx, T, s_i5, s_n0, s_i6, s_i7, ↓reduceIte, s_n1, s_n2, s_n3, s_n4, s_n5, s_n6, s_n7, s_n8, s_n9, reduceCtorEq, s_i1, s_i2, s_i3, s_i4, PV, PC, mL]
      refine ⟨fun h3 => Later.go ?_, fun h3 => Later.go ?_⟩
      · rw [if_pos (by omega), List.append_nil] at hstep
        simp only [vx, T, s_i5, s_n0, s_i6, s_i7, ↓reduceIte, s_n1, s_n2, s_n3, s_n4, s_n5, s_n6, s_n7, s_n8, s_n9, reduceCtorEq, s_i1, s_i2, s_i3, s_i4, PV, PC, mL]
        simp only [i1]
        refine loopQ.go ⟨(i + 1, ls), by simp only; omega, hstep.symm, by simp only; omega⟩ ?_ ?_
        · refine Sub.auto ?_; simp only [rx, envRen, vRen, cRen, lRen, ownRen, bRen, apartRen, emptyBk, ren, ↓reduceIte, s_n1, s_n2, s_n3, s_n4, s_n5, s_n6, s_n7, s_n8, s_n9, reduceCtorEq, s_i1, s_i2, s_i3, s_i4, autoR, autoOne, Int.natCast_add, Int.natCast_one, Int.natCast_zero, PV, PC, mL]
        · simp only; omega
      · have hcv : a.2.count v ≠ 0 := by omega
        have hva : v ∈ a.2 := by
          rcases Nat.eq_zero_or_pos (a.2.count v) with h | h
          · exact absurd h hcv
          · exact List.count_pos_iff.1 h
        rw [if_neg hcv] at hstep
        have hix : a.2.idxOf v < a.2.length := List.idxOf_lt_length_of_mem hva
        have hte := take_drop_erase (l := a.2) (v := v)
        obtain ⟨x, hx⟩ : ∃ x, x = a.2.idxOf v := ⟨_, rfl⟩
        have hidx := Index_spec a.2 v (by omega) hva
        rw [← hx] at hix hte hidx
        have x1 : IntKind.i64.wrap ((x : Int) + 1) = ((x + 1 : Nat) : Int) := by rw [IntWalk.i64_in _ (by omega)]; omega
        have e7 : (a.2.drop (x + 1)).take ((a.2.length : Int) - ((x + 1 : Nat) : Int)).toNat = a.2.drop (x + 1) := by
          rw [List.take_of_length_le]
          rw [List.length_drop]; omega
        simp only [vx, T, s_i5, s_n0, s_i6, s_i7, ↓reduceIte, s_n1, s_n2, s_n3, s_n4, s_n5, s_n6, s_n7, s_n8, s_n9, reduceCtorEq, s_i1, s_i2, s_i3, s_i4, PV, PC, mL]
        refine CallK.go hidx ?_
        simp only [vx, T, s_i5, s_n0, s_i6, s_i7, ↓reduceIte, s_n1, s_n2, s_n3, s_n4, s_n5, s_n6, s_n7, s_n8, s_n9, reduceCtorEq, s_i1, s_i2, s_i3, s_i4, PV, PC, mL, x1]
        simp only [e7]
        refine ⟨by omega, by omega, CallK.fresh (concatZ2 _ _ (by rw [List.length_take, List.length_drop]; omega)) ?_⟩
        rw [hte]
        simp only [vx, T, s_i5, s_n0, s_i6, s_i7, ↓reduceIte, s_n1, s_n2, s_n3, s_n4, s_n5, s_n6, s_n7, s_n8, s_n9, reduceCtorEq, s_i1, s_i2, s_i3, s_i4, PV, PC, mL]
        refine CallK.go (iQFromInt_spec (a.2.count v : Nat) (by omega) (by omega)) ?_
        simp only [vx, T, s_i5, s_n0, s_i6, s_i7, ↓reduceIte, s_n1, s_n2, s_n3, s_n4, s_n5, s_n6, s_n7, s_n8, s_n9, reduceCtorEq, s_i1, s_i2, s_i3, s_i4, QV, QC]
        refine CallK.go (iQMul_spec a.1 (Rat.ofInt (a.2.count v : Nat)) (by omega) (Nat.lt_of_le_of_lt (qm_ofInt (by omega)) (by decide))) ?_
        have hcast : Rat.ofInt ((a.2.count v : Nat) : Int) = ((a.2.count v : Nat) : Rat) := rfl
        rw [hcast]
        obtain ⟨c, hc⟩ : ∃ c, c = a.1 * ((a.2.count v : Nat) : Rat) := ⟨_, rfl⟩
        rw [← hc] at hstep ⊢
        have hlen : (ls ++ [(c, a.2.erase v)]).length = ls.length + 1 := by simp
        simp only [vx, T, s_i5, s_n0, s_i6, s_i7, ↓reduceIte, s_n1, s_n2, s_n3, s_n4, s_n5, s_n6, s_n7, s_n8, s_n9, reduceCtorEq, s_i1, s_i2, s_i3, s_i4, QV, QC]
        simp only [i1]
        refine ⟨by omega, loopQ.go ⟨(i + 1, ls ++ [(c, a.2.erase v)]), by simp only; omega, hstep.symm, by simp only; omega⟩ ?_ ?_⟩
        · refine Sub.auto ?_; simp only [rx, envRen, vRen, cRen, lRen, ownRen, bRen, apartRen, emptyBk, ren, ↓reduceIte, s_n1, s_n2, s_n3, s_n4, s_n5, s_n6, s_n7, s_n8, s_n9, reduceCtorEq, s_i1, s_i2, s_i3, s_i4, autoR, autoOne, Int.natCast_add, Int.natCast_one, Int.natCast_zero, PV, PC, mL, hlen]
          exact snoc_rows ls (c, a.2.erase v)
        · simp only; omega
  · have hil : i = p.length := by omega
    have e1 : ls = derP p v := by rw [hls, hil, List.take_length]
    subst e1
    simp only [vx, T, s_i5, s_n0, s_i6, s_i7, ↓reduceIte, s_n1, s_n2, s_n3, s_n4, s_n5, s_n6, s_n7, s_n8, s_n9, reduceCtorEq, s_i1, s_i2, s_i3, s_i4]
    refine CallK.mut 1 rfl trivial (normal_spec (pb_derP hp hd v) (by omega) hn1 (by omega) hd rfl) ?_
    rintro _ _ ⟨k, f, rfl, hk, hf⟩ _
    simp only [vx, T, s_i5, s_n0, s_i6, s_i7, ↓reduceIte, s_n1, s_n2, s_n3, s_n4, s_n5, s_n6, s_n7, s_n8, s_n9, reduceCtorEq, s_i1, s_i2, s_i3, s_i4, PV, PC]
    exact VLe.auto ⟨rfl, hk, hf⟩
end Go.Proofs.YtckikgkdplkopaaGreat

/-! ## Srs -/
namespace Go.Proofs.YtckikgkdplkopaaGreat
open Go Go.Proofs Go.Eng Go.Sort

theorem mergeSort_srtZ (xs : List Int) : (xs.mergeSort fun x y => decide (x ≤ y)) = srtZ xs := rfl

def SortR (e : TypeId) (xs : List Int) (r : V) (B' : Bk) : Prop := r = .tup [] ∧ B' = .ints e .i64 (srtZ xs)

theorem heap_mapBlock_other (w : World) (blk k : Nat) (f : Array Value → Array Value) (h : k ≠ blk) : (mapBlock w blk f).heap[k]? = w.heap[k]? := by
  simp only [mapBlock, Array.getElem?_modify]
  rw [if_neg (fun e => h e.symm)]
theorem heap_mapBlock_same (w : World) (blk : Nat) (f : Array Value → Array Value) {c : Array Value} {e : TypeId} {fr : Nat × Nat} (h : w.heap[blk]? = some (.cells c e fr)) : (mapBlock w blk f).heap[blk]? = some (.cells (f c) e fr) := by
  simp [mapBlock, Array.getElem?_modify, h, onCells]

theorem sortZ_spec (e : TypeId) (xs : List Int) (hl : xs.length < 2 ^ 38) : MutCalls Tryz.prog 36 [.one (.own 0 1 0 xs.length)] (.ints e .i64 xs) (SortR e xs) := by
  refine ⟨⟨_, Tryz.func36, by rfl, by rfl⟩, fun ok w vs l hok hll hla hb hr => ?_⟩
  obtain ⟨vs⟩ := vs
  match vs, hr with
  | [v], hr =>
    obtain ⟨⟨_, _, cap, hcap, hv⟩, _⟩ := hr
    have hsl : (srtZ xs).length = xs.length := srtZ_length xs
    by_cases h0 : xs.length = 0
    · have hx : xs = [] := List.eq_nil_of_length_eq_zero h0
      subst hx
      have hv2 : ∃ p c, v = .slice p 0 c := by
        rcases hv with ⟨g, o, o', _, rfl, _⟩ | ⟨_, rfl, _⟩
        · exact ⟨_, _, rfl⟩
        · exact ⟨_, _, rfl⟩
      obtain ⟨p, c, rfl⟩ := hv2
      refine (Tryz.slices_Sort_int_none p c w).mono ?_
      rintro e1 w' ⟨rfl, rfl⟩
      have hs0 : srtZ [] = [] := List.eq_nil_of_length_eq_zero hsl
      refine ⟨_, .tup [], .ints e .i64 [], rfl, ⟨rfl, by rw [hs0]⟩, trivial, rfl, ⟨rfl, rfl, rfl, Nat.le_refl _, fun _ _ _ => rfl, fun _ => Nat.le_refl _⟩, ?_, ⟨#[], rfl, trivial⟩⟩
      refine RepBk.ext (Ext.of_imp fun g hg => .inl hg) ⟨fun _ h => h, fun _ _ => rfl⟩ l _ (fun _ _ _ => rfl) hb
    · rcases hv with ⟨g, o, o', ha, rfl, ho, hroom⟩ | ⟨_, _, h1, _⟩
      · have ho' : o' = o := by rcases ho with ho | ho <;> omega
        subst ho'
        unfold RepBk at hb
        rw [ha] at hb
        obtain ⟨cur, e', hg, hcell⟩ := hb
        have hgl := (hla g o' ha).1
        have hx : ∀ j, j < xs.length → cur[o' + j]? = some (.int .i64 (xs.getD j 0)) := by
          intro j hj
          obtain ⟨u, hu, hru⟩ := hcell j (.int .i64 (xs.getD j 0)) (by simp [Bk.cell, List.getElem?_eq_getElem hj])
          have hru : u = .int .i64 (xs.getD j 0) := hru
          rw [hu, hru]
        have hH : Holds (Value.int .i64) w g o' xs.toArray := by
          intro j hj
          have hj : j < xs.length := by simpa using hj
          refine ⟨?_, ?_⟩
          · rw [World.cell?, hg]
            simp only [Option.isSome_none, Bool.false_eq_true, if_false]
            rw [hx j hj]
            congr 2
            simp [List.getD_eq_getElem?_getD, hj]
          · simp only [World.frozen?, hg]
            simp
        refine (Tryz.slices_Sort_int g o' cap xs w hH hgl (by omega)).mono ?_
        rintro e1 w' ⟨rfl, n, os, rfl⟩
        rw [mergeSort_srtZ]
        have hgl' : g < (putRow (Value.int .i64) (Sort.ahead w n) g o' (srtZ xs).toArray).heap.size := by simpa using hgl
        have hgs : (putRow (Value.int .i64) (Sort.ahead w n) g o' (srtZ xs).toArray).heap[g]? = some (.cells (putCells (Value.int .i64) o' (srtZ xs).toArray cur) e' (0, 0)) := heap_mapBlock_same (Sort.ahead w n) g _ hg
        refine ⟨_, .tup [], .ints e .i64 (srtZ xs), rfl, ⟨rfl, rfl⟩, trivial, hsl, ⟨rfl, rfl, rfl, by simp, fun k hk hne => ?_, fun g' => ?_⟩, ?_, ⟨#[], rfl, trivial⟩⟩
        · rw [heap_grow_old _ _ (by simpa using hk)]
          exact heap_mapBlock_other (Sort.ahead w n) g k _ (fun e => hne o' (by rw [e]; exact ha))
        · by_cases hg' : g' < w.heap.size
          · by_cases hgg : g' = g
            · subst hgg
              simp only [rowSize, heap_grow_old _ _ hgl', hgs, hg, putCells]
              simp
            · rw [rowSize_of_block (w' := grow _ os) (w := w) (by rw [heap_grow_old _ _ (by simpa using hg')]; exact heap_mapBlock_other (Sort.ahead w n) g g' _ hgg)]
              exact Nat.le_refl _
          · rw [rowSize_lt hg']; exact Nat.zero_le _
        · unfold RepBk
          rw [ha]
          refine ⟨_, e', by rw [heap_grow_old _ _ hgl']; exact hgs, fun j c hj => ?_⟩
          simp only [Bk.cell] at hj
          have hjl : j < (srtZ xs).length := by
            rcases Nat.lt_or_ge j (srtZ xs).length with h | h
            · exact h
            · rw [List.getElem?_eq_none h] at hj; cases hj
          rw [List.getElem?_eq_getElem hjl] at hj
          simp only [Option.map_some, Option.some.injEq] at hj
          subst hj
          refine ⟨.int .i64 ((srtZ xs)[j]), ?_, rfl⟩
          have hc := hx j (by omega)
          simp only [putCells, Array.getElem?_mapIdx, hc, Option.map_some]
          rw [if_pos ⟨by omega, by simp; omega⟩]
          congr 2
          simp [hjl]
      · exact absurd h1 h0

end Go.Proofs.YtckikgkdplkopaaGreat

/-! ## FnZm -/
namespace Go.Proofs.YtckikgkdplkopaaGreat
open Go Go.Eng

set_option maxHeartbeats 4000000 in
set_option maxRecDepth 10000 in
theorem iMulP_spec {p q : List Mono} {n d B n' d' B' : Nat} (hp : PB p n d B) (hq : PB q n' d' B') (hd : d + d' < 2 ^ 30) (hn : n * n' * (B + B' + 1) < 2 ^ 30) (hn1 : n < 2 ^ 30) (hn2 : n' < 2 ^ 30) (hB : B + B' < 2 ^ 30) : PureCalls Tryz.prog 13 [PV p, PV q] (PV (mulM p q)) := by
  have hpl := hp.n
  have hql := hq.n
  obtain ⟨g, hg⟩ : ∃ g : Mono → Mono → Mono, g = fun a b => (a.1 * b.1, srtZ (a.2 ++ b.2)) := ⟨_, rfl⟩
  have hnn : n * n' < 2 ^ 30 := Nat.lt_of_le_of_lt (Nat.le_mul_of_pos_right _ (by omega)) hn
  have hL : p.length * q.length ≤ n * n' := Nat.mul_le_mul hpl hql
  have hlen : ∀ x, x ≤ p.length → ((p.take x).flatMap fun a => q.map (g a)).length = x * q.length := by
    intro x hx
    have : ∀ l : List Mono, (l.flatMap fun a => q.map (g a)).length = l.length * q.length := by
      intro l
      induction l with
      | nil => simp
      | cons a l ih => rw [List.flatMap_cons, List.length_append, ih, List.length_map, List.length_cons, Nat.add_mul]; omega
    rw [this, List.length_take, Nat.min_eq_left hx]
  refine pure_of_vc T_ok mixed Tryz.func13 rfl (by decide) _ (by simp [Tryz.ntmps13]) ⟨[0, 1, 4, 5, 7, 9, 10, 11, 12, 13, 14, 17, 18, 19, 20], []⟩ (by kernel_rfl) _ ?_
  show vc T Tryz.prog ⟨[0, 1, 4, 5, 7, 9, 10, 11, 12, 13, 14, 17, 18, 19, 20], []⟩ (Option.get! Tryz.f13.body) _ _
  simp only [Tryz.f13, Tryz.ntmps13, Option.get!, initSt, initM, envOf, Nat.reduceAdd]
  simp only [vx, T, s_i5, s_n0, s_i6, s_i7, ↓reduceIte, s_n1, s_n2, s_n3, s_n4, s_n5, s_n6, s_n7, s_n8, s_n9, reduceCtorEq, s_i1, s_i2, s_i3, s_i4, PV, PC]
  refine LoopK.go (fun y : {y : Nat × List Mono // y.1 ≤ p.length ∧ y.2 = (p.take y.1).flatMap fun a => q.map (g a)} => ⟨[(1, PV q), (4, .one .nil), (5, .one (.own 1 5 0 y.1.2.length)), (11, PV p), (12, .one (.int .i64 p.length)), (13, .one (.int .i64 y.1.1))], [(1, ⟨.rows 55 5 y.1.2.length (fR y.1.2), true⟩)], 5, 45⟩) (fun y => p.length - y.1.1) ⟨(0, []), by omega, rfl⟩ ?_ (fun ⟨⟨i, ls⟩, hi, hls⟩ => ?_)
  · refine Sub.auto ?_; simp only [rx, envRen, vRen, cRen, lRen, ownRen, bRen, apartRen, emptyBk, ren, ↓reduceIte, s_n1, s_n2, s_n3, s_n4, s_n5, s_n6, s_n7, s_n8, s_n9, reduceCtorEq, s_i1, s_i2, s_i3, s_i4, autoR, autoOne, Int.natCast_add, Int.natCast_one, Int.natCast_zero, PV, PC]
  simp only at hi hls
  simp only [vx, T, s_i5, s_n0, s_i6, s_i7, ↓reduceIte, s_n1, s_n2, s_n3, s_n4, s_n5, s_n6, s_n7, s_n8, s_n9, reduceCtorEq, s_i1, s_i2, s_i3, s_i4, PV, PC]
  refine ⟨fun h1 => Later.go ?_, fun h1 => Later.go ?_⟩
  · have hil : i < p.length := by omega
    have i1 : IntKind.i64.wrap ((i : Int) + 1) = ((i + 1 : Nat) : Int) := by rw [IntWalk.i64_in _ (by omega)]; omega
    obtain ⟨a, ha⟩ : ∃ a, a = p.getD i default := ⟨_, rfl⟩
    have hpi := hp.get hil
    have hstep := take_flatMap_step (fun a => q.map (g a)) hil
    rw [← ha] at hstep hpi
    rw [← hls] at hstep
    simp only [vx, T, s_i5, s_n0, s_i6, s_i7, ↓reduceIte, s_n1, s_n2, s_n3, s_n4, s_n5, s_n6, s_n7, s_n8, s_n9, reduceCtorEq, s_i1, s_i2, s_i3, s_i4, PV, PC, ← ha, mC]
    refine ⟨by omega, LoopK.go (fun y : {y : Nat × List Mono // y.1 ≤ q.length ∧ y.2 = ls ++ (q.take y.1).map (g a)} => ⟨[(1, PV q), (4, .one .nil), (5, .one (.own 1 5 0 y.1.2.length)), (7, .one (.ptr 2 0)), (11, PV p), (12, .one (.int .i64 p.length)), (13, .one (.int .i64 i)), (17, PV q), (18, .one (.int .i64 q.length)), (19, .one (.int .i64 y.1.1))], [(1, ⟨.rows 55 5 y.1.2.length (fR y.1.2), true⟩), (2, ⟨.var (mL a), true⟩)], 5, 45⟩) (fun y => q.length - y.1.1) ⟨(0, ls), by omega, by simp⟩ ?_ (fun ⟨⟨k, ks⟩, hk, hks⟩ => ?_)⟩
    · refine Sub.auto ?_; simp only [rx, envRen, vRen, cRen, lRen, ownRen, bRen, apartRen, emptyBk, ren, ↓reduceIte, s_n1, s_n2, s_n3, s_n4, s_n5, s_n6, s_n7, s_n8, s_n9, reduceCtorEq, s_i1, s_i2, s_i3, s_i4, autoR, autoOne, Int.natCast_add, Int.natCast_one, Int.natCast_zero, PV, PC, mL]
    simp only at hk hks
    simp only [vx, T, s_i5, s_n0, s_i6, s_i7, ↓reduceIte, s_n1, s_n2, s_n3, s_n4, s_n5, s_n6, s_n7, s_n8, s_n9, reduceCtorEq, s_i1, s_i2, s_i3, s_i4, PV, PC, mL]
    refine ⟨fun h2 => Later.go ?_, fun h2 => Later.go ?_⟩
    · have hkl : k < q.length := by omega
      have k1 : IntKind.i64.wrap ((k : Int) + 1) = ((k + 1 : Nat) : Int) := by rw [IntWalk.i64_in _ (by omega)]; omega
      obtain ⟨b, hb⟩ : ∃ b, b = q.getD k default := ⟨_, rfl⟩
      have hqk := hq.get hkl
      have hstep2 := take_map_step (g a) hkl
      rw [← hb] at hstep2 hqk
      have hll := hlen i hi
      rw [← hls] at hll
      have hks2 : ks.length = ls.length + k := by rw [hks, List.length_append, List.length_map, List.length_take]; omega
      have hil2 : (i + 1) * q.length ≤ p.length * q.length := Nat.mul_le_mul_right _ hil
      rw [Nat.add_mul] at hil2
      have e9 : (ks ++ [g a b]).length = ks.length + 1 := by simp
      have hab : (a.2 ++ b.2).length < 2 ^ 38 := by rw [List.length_append]; omega
      simp only [vx, T, s_i5, s_n0, s_i6, s_i7, ↓reduceIte, s_n1, s_n2, s_n3, s_n4, s_n5, s_n6, s_n7, s_n8, s_n9, reduceCtorEq, s_i1, s_i2, s_i3, s_i4, PV, PC, ← hb, mC]
      refine ⟨by omega, CallK.fresh (concatZ2 a.2 b.2 (by omega)) ?_⟩
      simp only [vx, T, s_i5, s_n0, s_i6, s_i7, ↓reduceIte, s_n1, s_n2, s_n3, s_n4, s_n5, s_n6, s_n7, s_n8, s_n9, reduceCtorEq, s_i1, s_i2, s_i3, s_i4, PV, PC, mL]
      refine CallK.mut 14 rfl trivial (sortZ_spec 3 (a.2 ++ b.2) hab) ?_
      rintro _ _ ⟨rfl, rfl⟩ _
      obtain ⟨v, hv⟩ : ∃ v, v = srtZ (a.2 ++ b.2) := ⟨_, rfl⟩
      have hvl : v.length = (a.2 ++ b.2).length := by rw [hv, srtZ_length]
      have hgab : g a b = (a.1 * b.1, v) := by rw [hg, hv]
      rw [← hv, ← hvl]
      simp only [vx, T, s_i5, s_n0, s_i6, s_i7, ↓reduceIte, s_n1, s_n2, s_n3, s_n4, s_n5, s_n6, s_n7, s_n8, s_n9, reduceCtorEq, s_i1, s_i2, s_i3, s_i4, PV, PC, mL]
      refine CallK.go (iQMul_spec a.1 b.1 (by omega) (by omega)) ?_
      simp only [vx, T, s_i5, s_n0, s_i6, s_i7, ↓reduceIte, s_n1, s_n2, s_n3, s_n4, s_n5, s_n6, s_n7, s_n8, s_n9, reduceCtorEq, s_i1, s_i2, s_i3, s_i4, PV, PC, QV, QC]
      simp only [k1]
      refine ⟨by omega, loopQ.go ⟨(k + 1, ks ++ [g a b]), by simp only; omega, by rw [hks, List.append_assoc, ← hstep2]⟩ ?_ ?_⟩
      · refine Sub.auto ?_; simp only [rx, envRen, vRen, cRen, lRen, ownRen, bRen, apartRen, emptyBk, ren, ↓reduceIte, s_n1, s_n2, s_n3, s_n4, s_n5, s_n6, s_n7, s_n8, s_n9, reduceCtorEq, s_i1, s_i2, s_i3, s_i4, autoR, autoOne, Int.natCast_add, Int.natCast_one, Int.natCast_zero, PV, PC, mL, e9]
        rw [hgab]
        exact snocR rfl (a.1 * b.1, v)
      · simp only; omega
    · have hkl : k = q.length := by omega
      simp only [vx, T, s_i5, s_n0, s_i6, s_i7, ↓reduceIte, s_n1, s_n2, s_n3, s_n4, s_n5, s_n6, s_n7, s_n8, s_n9, reduceCtorEq, s_i1, s_i2, s_i3, s_i4, PV, PC]
      simp only [i1]
      refine loopQ.go ⟨(i + 1, ks), by simp only; omega, by rw [hstep, hks, hkl, List.take_length]⟩ ?_ ?_
      · refine Sub.auto ?_; simp only [rx, envRen, vRen, cRen, lRen, ownRen, bRen, apartRen, emptyBk, ren, ↓reduceIte, s_n1, s_n2, s_n3, s_n4, s_n5, s_n6, s_n7, s_n8, s_n9, reduceCtorEq, s_i1, s_i2, s_i3, s_i4, autoR, autoOne, Int.natCast_add, Int.natCast_one, Int.natCast_zero, PV, PC]
      · simp only; omega
  · have hil : i = p.length := by omega
    have e1 : ls = srtM (mulL p q) := by
      rw [hls, hil, List.take_length, hg]
      unfold mulL
      rw [srtM_flatMap]
      refine flatMap_congr' fun a _ => ?_
      unfold srtM
      rw [List.map_map]; rfl
    subst e1
    simp only [vx, T, s_i5, s_n0, s_i6, s_i7, ↓reduceIte, s_n1, s_n2, s_n3, s_n4, s_n5, s_n6, s_n7, s_n8, s_n9, reduceCtorEq, s_i1, s_i2, s_i3, s_i4]
    refine CallK.mut 1 rfl trivial (normal_spec (hp.mulL hq).srtM hn hnn hB hd rfl) ?_
    rintro _ _ ⟨k, f, rfl, hk, hf⟩ _
    rw [← mulM_eq] at hk hf
    simp only [vx, T, s_i5, s_n0, s_i6, s_i7, ↓reduceIte, s_n1, s_n2, s_n3, s_n4, s_n5, s_n6, s_n7, s_n8, s_n9, reduceCtorEq, s_i1, s_i2, s_i3, s_i4, PV, PC]
    exact VLe.auto ⟨rfl, hk, hf⟩

/-! ### Numbers, variables, differences. -/
theorem PB.one {c : Rat} {v : List Int} {d B : Nat} (hc : qm c ≤ B) (hd : v.length ≤ d) (hv : In63 v) : PB [(c, v)] 1 d B :=
  ⟨Nat.le_refl _, fun m hm => by obtain rfl := List.mem_singleton.1 hm; exact ⟨hc, hd, hv⟩⟩
theorem in63_nil : In63 [] := fun x hx => by cases hx

/-- A function that turns a block, called at a row that has just been made. -/
theorem fresh_mut {P : Program} {f : FuncId} {g : Nat → Nat → C} {R : V → Bk → Prop} (h : MutCalls P f [.one (.own 0 5 0 1)] (.rows 55 5 1 g) R) {ok : Nat → Prop} {w : World} (hok : ∀ g, ok g → g < w.heap.size) (o1 : Obj) (cells : Array Value)
    (hs : cells.size = 5) (hrep : ∀ j, j < 5 → ∃ u, cells[j]? = some u ∧ RepI ok w (g 0 j) u) :
    Calls P f #[.slice (some ⟨w.heap.size + 1, 0, none⟩) 1 1] ((w.alloc o1).alloc (.cells cells 55)) fun e w' => ∃ v r B', e = .returned v ∧ R r B' ∧ Go.RowKit.Below w.heap.size w w' ∧
      ∀ k f, r = .one (.rows 5 k f) → RepI (fun g => ok g ∨ (w.heap.size ≤ g ∧ g < w'.heap.size)) w' (.rows 5 k f) v := by
  obtain ⟨W, hW⟩ : ∃ W, W = (w.alloc o1).alloc (.cells cells 55) := ⟨_, rfl⟩
  have hb1 := below_alloc w o1
  have hb2 := below_alloc (w.alloc o1) (.cells cells 55)
  have hWs : W.heap.size = w.heap.size + 2 := by rw [hW]; simp
  have hWg : W.heap[w.heap.size + 1]? = some (.cells cells 55 (0, 0)) := by
    rw [hW]
    have := heap_alloc_new (w.alloc o1) (.cells cells 55)
    simpa using this
  have hWk : ∀ k, k < w.heap.size → W.heap[k]? = w.heap[k]? := fun k hk => by
    rw [hW, hb2.block k (by simp; omega), hb1.block k hk]
  have hx : Ext ok ok w W := ⟨fun g hg => ⟨hg, hWk g (hok g hg)⟩, fun g => by
    by_cases hg : g < w.heap.size
    · rw [rowSize_of_block (hWk g hg)]; exact Nat.le_refl _
    · rw [rowSize_lt hg]; exact Nat.zero_le _⟩
  rw [← hW]
  refine (h.2 ok W #[.slice (some ⟨w.heap.size + 1, 0, none⟩) 1 1] ⟨some (w.heap.size + 1, 0), 1⟩ (fun g hg => by have := hok g hg; omega) rfl (fun g o he => ?_) ?_ ⟨⟨rfl, Nat.le_refl _, 1, Nat.le_refl _, .inl ⟨w.heap.size + 1, 0, 0, rfl, rfl, .inr (by simp), ?_⟩⟩, trivial⟩).mono ?_
  · have : w.heap.size + 1 = g := by simpa using congrArg (Option.map Prod.fst) he
    subst this
    exact ⟨by omega, fun hg => by have := hok _ hg; omega⟩
  · unfold RepBk
    refine ⟨cells, 55, hWg, fun j c hj => ?_⟩
    simp only [Bk.cell] at hj
    split at hj
    · rename_i hj5
      obtain rfl := Option.some.inj hj
      obtain ⟨u, hu, hr⟩ := hrep j (by omega)
      rw [Nat.zero_add, show j / 5 = 0 by omega, show j % 5 = j by omega]
      exact ⟨u, hu, RepI.ext hx _ _ hr⟩
    · cases hj
  · rw [rowSize_of hWg, hs]; exact Nat.le_refl _
  · rintro e w' ⟨v, r, B', he, hR, _, _, hM, _, hv⟩
    refine ⟨v, r, B', he, hR, ?_, ?_⟩
    · have hsz := hM.size
      have ho : W.os = w.os ∧ W.tape = w.tape ∧ W.output = w.output := by rw [hW]; exact ⟨rfl, rfl, rfl⟩
      exact ⟨hM.os.trans ho.1, hM.tape.trans ho.2.1, hM.output.trans ho.2.2, by omega, fun k hk => (hM.block k (by omega) (fun o e => by
        have : w.heap.size + 1 = k := by simpa using congrArg (Option.map Prod.fst) e
        omega)).trans (hWk k hk)⟩
    · rintro k f rfl
      have h1 : RepI (Eng.okM ok W w') w' (.rows 5 k f) v := hv
      exact RepI.ext (Ext.of_imp fun g hg => by rcases hg with hg | ⟨h1, h2⟩; exact .inl hg; exact .inr ⟨by omega, h2⟩) _ _ h1

set_option maxHeartbeats 1000000 in
set_option maxRecDepth 100000 in
theorem const_spec (c : Rat) {B : Nat} (hc : qm c ≤ B) (hB : B < 2 ^ 29) : PureCalls Tryz.prog 45 [QV c] (PV (norM [(c, [])])) := by
  have hm := normal_spec (PB.one (d := 0) hc (Nat.le_refl _) in63_nil) (by omega) (by decide) (by omega) (by decide) (rfl : [(c, ([] : List Int))].length = 1)
  refine ⟨⟨_, Tryz.func45, by rfl, by rfl⟩, fun ok w vs hok hr => ?_⟩
  obtain ⟨vs⟩ := vs
  match vs, hr with
  | [v], hr =>
    obtain ⟨⟨us, rfl, hl⟩, _⟩ := hr
    obtain ⟨us⟩ := us
    have hlen : us.length = 4 := (RepL.length hl).symm
    match us, hlen, hl with
    | [u0, u1, u2, u3], _, hl =>
      obtain ⟨h0, h1, h2, h3, _⟩ := hl
      have h0 : u0 = .bool (zs c.num) := h0
      have h2 : u2 = .bool (zs (c.den : Int)) := h2
      have h1 : RepI ok w (.ints .u32 (zm c.num)) u1 := RepI.of_loc0 h1
      have h3 : RepI ok w (.ints .u32 (zm (c.den : Int))) u3 := RepI.of_loc0 h3
      subst h0 h2
      have h1' := h1
      have h3' := h3
      obtain ⟨a1, c1, rfl, _, _⟩ := h1
      obtain ⟨a3, c3, rfl, _, _⟩ := h3
      have hm1 : MutCalls Tryz.prog 32 [.one (.own 0 5 0 1)] (.rows 55 5 1 (fR [(c, [])])) (NorR [(c, [])]) := hm
      have hcells : ∀ j, j < 5 → ∃ u, #[Value.bool (zs c.num), Value.slice a1 (zm c.num).length c1, Value.bool (zs ↑c.den), Value.slice a3 (zm ↑c.den).length c3, Value.slice none 0 0][j]? = some u ∧ RepI ok w (fR [(c, [])] 0 j) u := by
        intro j hj
        match j, hj with
        | 0, _ => exact ⟨_, rfl, rfl⟩
        | 1, _ => exact ⟨_, rfl, h1'⟩
        | 2, _ => exact ⟨_, rfl, rfl⟩
        | 3, _ => exact ⟨_, rfl, h3'⟩
        | 4, _ => exact ⟨_, rfl, CLe.nil_ints .i64 ok w _ rfl⟩
      clear hr hl hm
      go_enter Tryz.func45, Tryz.ntmps45
      go_wp2_with (go_at_call 32; refine (fresh_mut hm1 hok _ _ rfl hcells).mono ?_; rintro e w' ⟨v, r, B', rfl, ⟨k, f, rfl, hk, hf⟩, hB, hv⟩)
      go_ret
      refine ⟨v, rfl, hB, ?_⟩
      have h5 := hv k f rfl
      exact RepC.of_repI (ρ := loc0) (dom := dom0) (CLe.rows hk (fun i j hi hj => CLe.of_eq (hf i j hi hj)) _ _ _ h5)

set_option maxRecDepth 10000 in
theorem var_spec (v : Int) : PureCalls Tryz.prog 47 [.one (.int .i64 v)] (PV [(Rat.ofInt 1, [v])]) := by
  refine pure_of_vc T_ok mixed Tryz.func47 rfl (by decide) _ (by simp [Tryz.ntmps47]) ⟨[0, 2], []⟩ (by kernel_rfl) _ ?_
  show vc T Tryz.prog ⟨[0, 2], []⟩ (Option.get! Tryz.f47.body) _ _
  simp only [Tryz.f47, Tryz.ntmps47, Option.get!, initSt, initM, envOf, Nat.reduceAdd]
  simp only [vx, T, s_i5, s_n0, s_i6, s_i7, ↓reduceIte, s_n1, s_n2, s_n3, s_n4, s_n5, s_n6, s_n7, s_n8, s_n9, reduceCtorEq, s_i1, s_i2, s_i3, s_i4]
  refine CallK.go (iQFromInt_spec 1 (by decide) (by decide)) ?_
  simp only [vx, T, s_i5, s_n0, s_i6, s_i7, ↓reduceIte, s_n1, s_n2, s_n3, s_n4, s_n5, s_n6, s_n7, s_n8, s_n9, reduceCtorEq, s_i1, s_i2, s_i3, s_i4, QV, QC]
  refine VLe.auto ⟨rfl, rfl, fun i j hi hj => ?_⟩
  obtain rfl : i = 0 := by omega
  show [C.bool _, C.ints .u32 _, C.bool _, C.ints .u32 _, C.ints .i64 [v]].getD (0 * 5 + j) C.any = mC (Rat.ofInt 1, [v]) j
  rw [Nat.zero_mul, Nat.zero_add]
  exact mC_list (Rat.ofInt 1, [v]) hj

def negM (q : List Mono) : List Mono := mulM (norM [(Rat.ofInt (-1), [])]) q
def subM (p q : List Mono) : List Mono := norM (p ++ negM q)

theorem qm_one : qm (Rat.ofInt 1) ≤ 2 := qm_ofInt (by decide)
theorem qm_neg : qm (Rat.ofInt (-1)) ≤ 2 := qm_ofInt (by decide)
theorem pb_neg {q : List Mono} {n d B : Nat} (hq : PB q n d B) : PB (negM q) n d (n * (B + 4)) := by
  have h := ((PB.one (d := 0) qm_neg (Nat.le_refl _) in63_nil).norM).mulM hq
  rw [Nat.one_mul, Nat.one_mul, Nat.zero_add] at h
  exact h.mono (Nat.le_refl _) (Nat.le_refl _) (Nat.mul_le_mul_left _ (by omega))
theorem pb_sub {p q : List Mono} {n d B n' d' B' : Nat} (hp : PB p n d B) (hq : PB q n' d' B') : PB (subM p q) (n + n') (max d d') ((n + n') * (max B (n' * (B' + 4)) + 1)) := (hp.append (pb_neg hq)).norM

set_option maxRecDepth 10000 in
theorem minus_spec {p q : List Mono} {n d B n' d' B' : Nat} (hp : PB p n d B) (hq : PB q n' d' B') (hd : max d d' < 2 ^ 30) (hn : (n + n') * (max B (n' * (B' + 4)) + 1) < 2 ^ 30) (hB : max B (n' * (B' + 4)) < 2 ^ 30) (hB' : B' < 2 ^ 28) (hn' : n' * (B' + 4) < 2 ^ 30) (hn2 : n' < 2 ^ 30) :
    PureCalls Tryz.prog 50 [PV p, PV q] (PV (subM p q)) := by
  have h1 := (PB.one (d := 0) qm_neg (Nat.le_refl _) in63_nil).norM
  have h2 := iMulP_spec h1 hq (by omega) (by rw [Nat.one_mul]; exact Nat.lt_of_le_of_lt (Nat.mul_le_mul_left _ (by omega)) hn') (by decide) hn2 (by omega)
  have h3 := iAddP_spec hp (pb_neg hq) hd hn hB
  refine pure_of_vc T_ok mixed Tryz.func50 rfl (by decide) _ (by simp [Tryz.ntmps50]) ⟨[0, 1, 4], []⟩ (by kernel_rfl) _ ?_
  show vc T Tryz.prog ⟨[0, 1, 4], []⟩ (Option.get! Tryz.f50.body) _ _
  simp only [Tryz.f50, Tryz.ntmps50, Option.get!, initSt, initM, envOf, Nat.reduceAdd]
  simp only [vx, T, s_i5, s_n0, s_i6, s_i7, ↓reduceIte, s_n1, s_n2, s_n3, s_n4, s_n5, s_n6, s_n7, s_n8, s_n9, reduceCtorEq, s_i1, s_i2, s_i3, s_i4, PV, PC, QV, QC]
  refine CallK.go (iQFromInt_spec (-1) (by decide) (by decide)) ?_
  simp only [vx, T, s_i5, s_n0, s_i6, s_i7, ↓reduceIte, s_n1, s_n2, s_n3, s_n4, s_n5, s_n6, s_n7, s_n8, s_n9, reduceCtorEq, s_i1, s_i2, s_i3, s_i4, PV, PC, QV, QC]
  refine CallK.go (const_spec (Rat.ofInt (-1)) qm_neg (by decide)) ?_
  simp only [vx, T, s_i5, s_n0, s_i6, s_i7, ↓reduceIte, s_n1, s_n2, s_n3, s_n4, s_n5, s_n6, s_n7, s_n8, s_n9, reduceCtorEq, s_i1, s_i2, s_i3, s_i4, PV, PC, QV, QC]
  refine CallK.go h2 ?_
  simp only [vx, T, s_i5, s_n0, s_i6, s_i7, ↓reduceIte, s_n1, s_n2, s_n3, s_n4, s_n5, s_n6, s_n7, s_n8, s_n9, reduceCtorEq, s_i1, s_i2, s_i3, s_i4, PV, PC, QV, QC]
  refine CallK.go h3 ?_
  simp only [vx, T, s_i5, s_n0, s_i6, s_i7, ↓reduceIte, s_n1, s_n2, s_n3, s_n4, s_n5, s_n6, s_n7, s_n8, s_n9, reduceCtorEq, s_i1, s_i2, s_i3, s_i4, PV, PC, QV, QC]
  exact VLe.of_eq rfl

set_option maxRecDepth 10000 in
theorem square_spec {p : List Mono} {n d B : Nat} (hp : PB p n d B) (hd : d + d < 2 ^ 30) (hn : n * n * (B + B + 1) < 2 ^ 30) (hn1 : n < 2 ^ 30) (hB : B + B < 2 ^ 30) : PureCalls Tryz.prog 53 [PV p] (PV (mulM p p)) := by
  refine pure_of_vc T_ok mixed Tryz.func53 rfl (by decide) _ (by simp [Tryz.ntmps53]) ⟨[0, 2], []⟩ (by kernel_rfl) _ ?_
  show vc T Tryz.prog ⟨[0, 2], []⟩ (Option.get! Tryz.f53.body) _ _
  simp only [Tryz.f53, Tryz.ntmps53, Option.get!, initSt, initM, envOf, Nat.reduceAdd]
  simp only [vx, T, s_i5, s_n0, s_i6, s_i7, ↓reduceIte, s_n1, s_n2, s_n3, s_n4, s_n5, s_n6, s_n7, s_n8, s_n9, reduceCtorEq, s_i1, s_i2, s_i3, s_i4, PV, PC, QV, QC]
  refine CallK.go (iMulP_spec hp hp hd hn hn1 hn1 hB) ?_
  simp only [vx, T, s_i5, s_n0, s_i6, s_i7, ↓reduceIte, s_n1, s_n2, s_n3, s_n4, s_n5, s_n6, s_n7, s_n8, s_n9, reduceCtorEq, s_i1, s_i2, s_i3, s_i4, PV, PC, QV, QC]
  exact VLe.of_eq rfl

/-- A vector of polynomials. -/
def VV (a : List Mono × List Mono) : V := .agg [PC a.1, PC a.2]

set_option maxRecDepth 10000 in
theorem dot_spec (a b : List Mono × List Mono) {r : List Mono} (h1 : PureCalls Tryz.prog 13 [PV a.1, PV b.1] (PV (mulM a.1 b.1))) (h2 : PureCalls Tryz.prog 13 [PV a.2, PV b.2] (PV (mulM a.2 b.2)))
    (h3 : PureCalls Tryz.prog 11 [PV (mulM a.1 b.1), PV (mulM a.2 b.2)] (PV r)) : PureCalls Tryz.prog 52 [VV a, VV b] (PV r) := by
  refine pure_of_vc T_ok mixed Tryz.func52 rfl (by decide) _ (by simp [Tryz.ntmps52]) ⟨[0, 1, 2, 3, 4], []⟩ (by kernel_rfl) _ ?_
  show vc T Tryz.prog ⟨[0, 1, 2, 3, 4], []⟩ (Option.get! Tryz.f52.body) _ _
  simp only [Tryz.f52, Tryz.ntmps52, Option.get!, initSt, initM, envOf, Nat.reduceAdd]
  simp only [vx, T, s_i5, s_n0, s_i6, s_i7, ↓reduceIte, s_n1, s_n2, s_n3, s_n4, s_n5, s_n6, s_n7, s_n8, s_n9, reduceCtorEq, s_i1, s_i2, s_i3, s_i4, VV, PV, PC]
  refine CallK.go h1 ?_
  simp only [vx, T, s_i5, s_n0, s_i6, s_i7, ↓reduceIte, s_n1, s_n2, s_n3, s_n4, s_n5, s_n6, s_n7, s_n8, s_n9, reduceCtorEq, s_i1, s_i2, s_i3, s_i4, VV, PV, PC]
  refine CallK.go h2 ?_
  simp only [vx, T, s_i5, s_n0, s_i6, s_i7, ↓reduceIte, s_n1, s_n2, s_n3, s_n4, s_n5, s_n6, s_n7, s_n8, s_n9, reduceCtorEq, s_i1, s_i2, s_i3, s_i4, VV, PV, PC]
  refine CallK.go h3 ?_
  simp only [vx, T, s_i5, s_n0, s_i6, s_i7, ↓reduceIte, s_n1, s_n2, s_n3, s_n4, s_n5, s_n6, s_n7, s_n8, s_n9, reduceCtorEq, s_i1, s_i2, s_i3, s_i4, VV, PV, PC]
  exact VLe.of_eq rfl

set_option maxRecDepth 10000 in
theorem cross_spec (a b : List Mono × List Mono) {r : List Mono} (h1 : PureCalls Tryz.prog 13 [PV a.1, PV b.2] (PV (mulM a.1 b.2))) (h2 : PureCalls Tryz.prog 13 [PV a.2, PV b.1] (PV (mulM a.2 b.1)))
    (h3 : PureCalls Tryz.prog 50 [PV (mulM a.1 b.2), PV (mulM a.2 b.1)] (PV r)) : PureCalls Tryz.prog 54 [VV a, VV b] (PV r) := by
  refine pure_of_vc T_ok mixed Tryz.func54 rfl (by decide) _ (by simp [Tryz.ntmps54]) ⟨[0, 1, 2, 3, 4], []⟩ (by kernel_rfl) _ ?_
  show vc T Tryz.prog ⟨[0, 1, 2, 3, 4], []⟩ (Option.get! Tryz.f54.body) _ _
  simp only [Tryz.f54, Tryz.ntmps54, Option.get!, initSt, initM, envOf, Nat.reduceAdd]
  simp only [vx, T, s_i5, s_n0, s_i6, s_i7, ↓reduceIte, s_n1, s_n2, s_n3, s_n4, s_n5, s_n6, s_n7, s_n8, s_n9, reduceCtorEq, s_i1, s_i2, s_i3, s_i4, VV, PV, PC]
  refine CallK.go h1 ?_
  simp only [vx, T, s_i5, s_n0, s_i6, s_i7, ↓reduceIte, s_n1, s_n2, s_n3, s_n4, s_n5, s_n6, s_n7, s_n8, s_n9, reduceCtorEq, s_i1, s_i2, s_i3, s_i4, VV, PV, PC]
  refine CallK.go h2 ?_
  simp only [vx, T, s_i5, s_n0, s_i6, s_i7, ↓reduceIte, s_n1, s_n2, s_n3, s_n4, s_n5, s_n6, s_n7, s_n8, s_n9, reduceCtorEq, s_i1, s_i2, s_i3, s_i4, VV, PV, PC]
  refine CallK.go h3 ?_
  simp only [vx, T, s_i5, s_n0, s_i6, s_i7, ↓reduceIte, s_n1, s_n2, s_n3, s_n4, s_n5, s_n6, s_n7, s_n8, s_n9, reduceCtorEq, s_i1, s_i2, s_i3, s_i4, VV, PV, PC]
  exact VLe.of_eq rfl

def varM (v : Int) : List Mono := [(Rat.ofInt 1, [v])]
def ptM (i : Nat) : List Mono × List Mono := (varM (2 * i), varM (2 * i + 1))

set_option maxRecDepth 10000 in
theorem point_spec (i : Nat) (hi : i < 2 ^ 40) : PureCalls Tryz.prog 49 [.one (.int .i64 i)] (VV (ptM i)) := by
  have w1 : IntKind.i64.wrap (2 * (i : Int)) = 2 * (i : Int) := IntWalk.i64_in _ (by omega)
  have w2 : IntKind.i64.wrap (2 * (i : Int) + 1) = 2 * (i : Int) + 1 := IntWalk.i64_in _ (by omega)
  refine pure_of_vc T_ok mixed Tryz.func49 rfl (by decide) _ (by simp [Tryz.ntmps49]) ⟨[0, 2], []⟩ (by kernel_rfl) _ ?_
  show vc T Tryz.prog ⟨[0, 2], []⟩ (Option.get! Tryz.f49.body) _ _
  simp only [Tryz.f49, Tryz.ntmps49, Option.get!, initSt, initM, envOf, Nat.reduceAdd]
  simp only [vx, T, s_i5, s_n0, s_i6, s_i7, ↓reduceIte, s_n1, s_n2, s_n3, s_n4, s_n5, s_n6, s_n7, s_n8, s_n9, reduceCtorEq, s_i1, s_i2, s_i3, s_i4, w1]
  refine CallK.go (var_spec _) ?_
  simp only [vx, T, s_i5, s_n0, s_i6, s_i7, ↓reduceIte, s_n1, s_n2, s_n3, s_n4, s_n5, s_n6, s_n7, s_n8, s_n9, reduceCtorEq, s_i1, s_i2, s_i3, s_i4, PV, PC, w1, w2]
  refine CallK.go (var_spec _) ?_
  simp only [vx, T, s_i5, s_n0, s_i6, s_i7, ↓reduceIte, s_n1, s_n2, s_n3, s_n4, s_n5, s_n6, s_n7, s_n8, s_n9, reduceCtorEq, s_i1, s_i2, s_i3, s_i4, PV, PC, VV, ptM, varM]
  exact VLe.of_eq rfl

theorem pb_var {v : Int} (h0 : 0 ≤ v) (h1 : v < 9223372036854775808) : PB (varM v) 1 1 2 := PB.one qm_one (Nat.le_refl _) (fun x hx => by
  obtain rfl := List.mem_singleton.1 hx; exact ⟨h0, h1⟩)
def wayM (i k : Nat) : List Mono × List Mono := (subM (ptM k).1 (ptM i).1, subM (ptM k).2 (ptM i).2)
theorem pb_wayx (i k : Nat) (hi : i < 2 ^ 40) (hk : k < 2 ^ 40) : PB (wayM i k).1 2 1 14 := (pb_sub (pb_var (by omega) (by omega)) (pb_var (by omega) (by omega))).mono (by decide) (by decide) (by decide)
theorem pb_wayy (i k : Nat) (hi : i < 2 ^ 40) (hk : k < 2 ^ 40) : PB (wayM i k).2 2 1 14 := (pb_sub (pb_var (by omega) (by omega)) (pb_var (by omega) (by omega))).mono (by decide) (by decide) (by decide)

set_option maxRecDepth 10000 in
theorem way_spec (i k : Nat) (hi : i < 2 ^ 40) (hk : k < 2 ^ 40) : PureCalls Tryz.prog 51 [.one (.int .i64 i), .one (.int .i64 k)] (VV (wayM i k)) := by
  have h1 := minus_spec (pb_var (v := 2 * (k : Int)) (by omega) (by omega)) (pb_var (v := 2 * (i : Int)) (by omega) (by omega)) (by decide) (by decide) (by decide) (by decide) (by decide) (by decide)
  have h2 := minus_spec (pb_var (v := 2 * (k : Int) + 1) (by omega) (by omega)) (pb_var (v := 2 * (i : Int) + 1) (by omega) (by omega)) (by decide) (by decide) (by decide) (by decide) (by decide) (by decide)
  refine pure_of_vc T_ok mixed Tryz.func51 rfl (by decide) _ (by simp [Tryz.ntmps51]) ⟨[0, 1, 4, 5, 6], []⟩ (by kernel_rfl) _ ?_
  show vc T Tryz.prog ⟨[0, 1, 4, 5, 6], []⟩ (Option.get! Tryz.f51.body) _ _
  simp only [Tryz.f51, Tryz.ntmps51, Option.get!, initSt, initM, envOf, Nat.reduceAdd]
  simp only [vx, T, s_i5, s_n0, s_i6, s_i7, ↓reduceIte, s_n1, s_n2, s_n3, s_n4, s_n5, s_n6, s_n7, s_n8, s_n9, reduceCtorEq, s_i1, s_i2, s_i3, s_i4]
  refine CallK.go (point_spec i hi) ?_
  simp only [vx, T, s_i5, s_n0, s_i6, s_i7, ↓reduceIte, s_n1, s_n2, s_n3, s_n4, s_n5, s_n6, s_n7, s_n8, s_n9, reduceCtorEq, s_i1, s_i2, s_i3, s_i4, VV, PC, ptM]
  refine CallK.go (point_spec k hk) ?_
  simp only [vx, T, s_i5, s_n0, s_i6, s_i7, ↓reduceIte, s_n1, s_n2, s_n3, s_n4, s_n5, s_n6, s_n7, s_n8, s_n9, reduceCtorEq, s_i1, s_i2, s_i3, s_i4, VV, PC, ptM]
  refine CallK.go h1 ?_
  simp only [vx, T, s_i5, s_n0, s_i6, s_i7, ↓reduceIte, s_n1, s_n2, s_n3, s_n4, s_n5, s_n6, s_n7, s_n8, s_n9, reduceCtorEq, s_i1, s_i2, s_i3, s_i4, PV, PC]
  refine CallK.go h2 ?_
  simp only [vx, T, s_i5, s_n0, s_i6, s_i7, ↓reduceIte, s_n1, s_n2, s_n3, s_n4, s_n5, s_n6, s_n7, s_n8, s_n9, reduceCtorEq, s_i1, s_i2, s_i3, s_i4, PV, PC, VV, wayM]
  exact VLe.of_eq rfl

end Go.Proofs.YtckikgkdplkopaaGreat

/-! ## Evl -/
namespace Go.Eng

/-- Insertion, and insertion sort: to be reckoned with. -/
def insI (x : Int) : List Int → List Int
  | [] => [x]
  | y :: ys => if x ≤ y then x :: y :: ys else y :: insI x ys
def isrt : List Int → List Int
  | [] => []
  | x :: xs => insI x (isrt xs)
theorem insI_perm (x : Int) : ∀ l, (insI x l).Perm (x :: l)
  | [] => .refl _
  | y :: ys => by
    simp only [insI]
    split
    · exact .refl _
    · exact ((insI_perm x ys).cons y).trans (List.Perm.swap x y ys)
theorem insI_mem {x z : Int} {l : List Int} (h : z ∈ insI x l) : z = x ∨ z ∈ l := by simpa using (insI_perm x l).mem_iff.1 h
theorem insI_pair (x : Int) : ∀ {l : List Int}, l.Pairwise (· ≤ ·) → (insI x l).Pairwise (· ≤ ·)
  | [], _ => List.pairwise_cons.2 ⟨(fun _ h => by cases h), List.Pairwise.nil⟩
  | y :: ys, h => by
    simp only [insI]
    have h1 := List.pairwise_cons.1 h
    split
    · rename_i hxy
      refine List.pairwise_cons.2 ⟨fun z hz => ?_, h⟩
      rcases List.mem_cons.1 hz with rfl | hz
      · exact hxy
      · exact Int.le_trans hxy (h1.1 z hz)
    · rename_i hxy
      refine List.pairwise_cons.2 ⟨fun z hz => ?_, insI_pair x h1.2⟩
      rcases insI_mem hz with rfl | hz
      · omega
      · exact h1.1 z hz
theorem isrt_perm : ∀ l, (isrt l).Perm l
  | [] => .refl _
  | x :: xs => (insI_perm x _).trans ((isrt_perm xs).cons x)
theorem isrt_pair : ∀ l, (isrt l).Pairwise (· ≤ ·)
  | [] => List.Pairwise.nil
  | x :: xs => insI_pair x (isrt_pair xs)
theorem isrt_eq (l : List Int) : srtZ l = isrt l := by rw [← srtZ_congr (isrt_perm l), srtZ_self (isrt_pair l)]
def mulE (p q : List Mono) : List Mono := norM ((mulL p q).map fun m => (m.1, isrt m.2))
theorem mulM_E (p q : List Mono) : mulM p q = mulE p q := by
  rw [mulM_eq]
  unfold mulE srtM
  congr 1
  exact List.map_congr_left fun m _ => by rw [isrt_eq]

def negE (q : List Mono) : List Mono := mulE (norM [(Rat.ofInt (-1), [])]) q
def subE (p q : List Mono) : List Mono := norM (p ++ negE q)
def varE (v : Int) : List Mono := [(Rat.ofInt 1, [v])]

/-- The equation of the example, and its derivative. -/
def exE : List Mono := subE (norM (mulE (subE (varE 2) (varE 0)) (subE (varE 2) (varE 0)) ++ mulE (subE (varE 3) (varE 1)) (subE (varE 3) (varE 1)))) (mulE (norM [(Rat.ofInt 5, [])]) (norM [(Rat.ofInt 5, [])]))
def exL : List Mono := [(Rat.ofInt (-25), []), (Rat.ofInt 1, [0, 0]), (Rat.ofInt (-2), [0, 2]), (Rat.ofInt 1, [1, 1]), (Rat.ofInt (-2), [1, 3]), (Rat.ofInt 1, [2, 2]), (Rat.ofInt 1, [3, 3])]
theorem exE_eq : exE = exL := by decide +kernel
theorem exD_eq : derM exL 0 = [(Rat.ofInt 2, [0]), (Rat.ofInt (-2), [2])] := by decide +kernel

end Go.Eng

/-! ## FnZn -/
namespace Go.Proofs.YtckikgkdplkopaaGreat
open Go Go.Eng

set_option maxRecDepth 10000 in
theorem term_spec (n : Int) (vs : List Int) (h1 : -9223372036854775808 ≤ n) (h2 : n ≤ 9223372036854775807) : PureCalls Tryz.prog 29 [.one (.int .i64 n), .one (.ints .i64 vs)] (MV (Rat.ofInt n, vs)) := by
  refine pure_of_vc T_ok mixed Tryz.func29 rfl (by decide) _ (by simp [Tryz.ntmps29]) ⟨[0, 1, 4], []⟩ (by kernel_rfl) _ ?_
  show vc T Tryz.prog ⟨[0, 1, 4], []⟩ (Option.get! Tryz.f29.body) _ _
  simp only [Tryz.f29, Tryz.ntmps29, Option.get!, initSt, initM, envOf, Nat.reduceAdd]
  simp only [vx, T, s_i5, s_n0, s_i6, s_i7, ↓reduceIte, s_n1, s_n2, s_n3, s_n4, s_n5, s_n6, s_n7, s_n8, s_n9, reduceCtorEq, s_i1, s_i2, s_i3, s_i4]
  refine CallK.go (rQFromInt_spec n h1 h2) ?_
  simp only [vx, T, s_i5, s_n0, s_i6, s_i7, ↓reduceIte, s_n1, s_n2, s_n3, s_n4, s_n5, s_n6, s_n7, s_n8, s_n9, reduceCtorEq, s_i1, s_i2, s_i3, s_i4, QV, QC, MV, mC]
  exact VLe.of_eq rfl
set_option maxRecDepth 10000 in
theorem term0_spec (n : Int) (h1 : -9223372036854775808 ≤ n) (h2 : n ≤ 9223372036854775807) : PureCalls Tryz.prog 29 [.one (.int .i64 n), .one .nil] (MV (Rat.ofInt n, [])) :=
  (term_spec n [] h1 h2).args ⟨.refl _, .cell (CLe.nil_ints _), trivial⟩

/-- A list of polynomials. -/
def LC (ps : List (List Mono)) : C := .rows 1 ps.length (fun i _ => PC (ps.getD i default))
def LV (ps : List (List Mono)) : V := .one (LC ps)
/-- A list of numbers. -/
def qC (q : Rat) : Nat → C
  | 0 => .bool (zs q.num)
  | 1 => .ints .u32 (zm q.num)
  | 2 => .bool (zs (q.den : Int))
  | 3 => .ints .u32 (zm (q.den : Int))
  | _ => .any
def QsC (l : List Rat) : C := .rows 4 l.length (fun i => qC (l.getD i default))

set_option maxRecDepth 10000 in
theorem ofv_spec (l : List Rat) (i : Nat) (hi : i < l.length) (hl : l.length < 2 ^ 40) {B : Nat} (hq : qm (l.getD i default) ≤ B) (hB : B < 2 ^ 29) (g : Nat → Nat → C) (hg : g 0 0 = QsC l) : PureCalls Tryz.prog 44 [.one (.int .i64 i), .one (.elt (.rows 1 1 g) 1 0 0)] (PV (norM [(l.getD i default, [])])) := by
  refine pure_of_vc T_ok mixed Tryz.func44 rfl (by decide) _ (by simp [Tryz.ntmps44]) ⟨[0, 1, 3], []⟩ (by kernel_rfl) _ ?_
  show vc T Tryz.prog ⟨[0, 1, 3], []⟩ (Option.get! Tryz.f44.body) _ _
  simp only [Tryz.f44, Tryz.ntmps44, Option.get!, initSt, initM, envOf, Nat.reduceAdd]
  simp only [vx, T, s_i5, s_n0, s_i6, s_i7, ↓reduceIte, s_n1, s_n2, s_n3, s_n4, s_n5, s_n6, s_n7, s_n8, s_n9, reduceCtorEq, s_i1, s_i2, s_i3, s_i4, hg, QsC, qC]
  refine ⟨by omega, CallK.go (const_spec _ hq hB) ?_⟩
  simp only [vx, T, s_i5, s_n0, s_i6, s_i7, ↓reduceIte, s_n1, s_n2, s_n3, s_n4, s_n5, s_n6, s_n7, s_n8, s_n9, reduceCtorEq, s_i1, s_i2, s_i3, s_i4, PV, PC]
  exact VLe.of_eq rfl

def distM (i k : Nat) (q : Rat) : List Mono := subM (norM (mulM (wayM i k).1 (wayM i k).1 ++ mulM (wayM i k).2 (wayM i k).2)) (mulM (norM [(q, [])]) (norM [(q, [])]))

set_option maxHeartbeats 4000000 in
set_option maxRecDepth 10000 in
theorem ofDist_spec (i k : Nat) (q : Rat) (hi : i < 2 ^ 40) (hk : k < 2 ^ 40) (hq : qm q ≤ 2) (c3 : C) (s : Int) (n : Int) : PureCalls Tryz.prog 19 [.agg [.int .i64 2, .ints .i64 [(i : Int), (k : Int)], .nil, c3, .int .i64 s], .one (QsC [q]), .one .nil, .one (.int .i64 n)] (LV [distM i k q]) := by
  refine pure_of_vc T_ok mixed Tryz.func19 rfl (by decide) _ (by simp [Tryz.ntmps19]) ⟨[0, 1, 2, 3, 4, 5, 6, 7, 8, 9, 10, 11, 12, 13, 14, 15, 16, 17, 18, 19, 20, 21, 22, 23, 24, 25, 26, 27, 28, 35, 36, 53, 70, 88, 116, 143, 161, 179, 203, 230, 276, 287, 298, 314, 322, 330, 369], []⟩ (by kernel_rfl) _ ?_
  show vc T Tryz.prog ⟨[0, 1, 2, 3, 4, 5, 6, 7, 8, 9, 10, 11, 12, 13, 14, 15, 16, 17, 18, 19, 20, 21, 22, 23, 24, 25, 26, 27, 28, 35, 36, 53, 70, 88, 116, 143, 161, 179, 203, 230, 276, 287, 298, 314, 322, 330, 369], []⟩ (Option.get! Tryz.f19.body) _ _
  simp only [Tryz.f19, Tryz.ntmps19, Option.get!, initSt, initM, envOf, Nat.reduceAdd]
  have hw := way_spec i k hi hk
  have bx := pb_wayx i k hi hk
  have by_ := pb_wayy i k hi hk
  have m1 := iMulP_spec bx bx (by decide) (by decide) (by decide) (by decide) (by decide)
  have m2 := iMulP_spec by_ by_ (by decide) (by decide) (by decide) (by decide) (by decide)
  have a1 := iAddP_spec (bx.mulM bx) (by_.mulM by_) (by decide) (by decide) (by decide)
  have bv := (PB.one (d := 0) hq (Nat.le_refl _) in63_nil).norM
  have s1 := square_spec bv (by decide) (by decide) (by decide) (by decide)
  have d1 := minus_spec ((bx.mulM bx).append (by_.mulM by_)).norM (bv.mulM bv) (by decide) (by decide) (by decide) (by decide) (by decide) (by decide)
  simp only [vx, T, s_i5, s_n0, s_i6, s_i7, ↓reduceIte, s_n1, s_n2, s_n3, s_n4, s_n5, s_n6, s_n7, s_n8, s_n9, reduceCtorEq, s_i1, s_i2, s_i3, s_i4, QsC]
  refine ⟨by omega, by omega, CallK.go hw ?_⟩
  simp only [vx, T, s_i5, s_n0, s_i6, s_i7, ↓reduceIte, s_n1, s_n2, s_n3, s_n4, s_n5, s_n6, s_n7, s_n8, s_n9, reduceCtorEq, s_i1, s_i2, s_i3, s_i4, VV, PC]
  refine CallK.go (dot_spec (wayM i k) (wayM i k) m1 m2 a1) ?_
  simp only [vx, T, s_i5, s_n0, s_i6, s_i7, ↓reduceIte, s_n1, s_n2, s_n3, s_n4, s_n5, s_n6, s_n7, s_n8, s_n9, reduceCtorEq, s_i1, s_i2, s_i3, s_i4, PV, PC]
  refine CallK.go (ofv_spec [q] 0 (by simp) (by simp) (B := 2) hq (by decide) _ rfl) ?_
  simp only [vx, T, s_i5, s_n0, s_i6, s_i7, ↓reduceIte, s_n1, s_n2, s_n3, s_n4, s_n5, s_n6, s_n7, s_n8, s_n9, reduceCtorEq, s_i1, s_i2, s_i3, s_i4, PV, PC, List.getD_cons_zero]
  refine CallK.go s1 ?_
  simp only [vx, T, s_i5, s_n0, s_i6, s_i7, ↓reduceIte, s_n1, s_n2, s_n3, s_n4, s_n5, s_n6, s_n7, s_n8, s_n9, reduceCtorEq, s_i1, s_i2, s_i3, s_i4, PV, PC]
  refine CallK.go d1 ?_
  simp only [vx, T, s_i5, s_n0, s_i6, s_i7, ↓reduceIte, s_n1, s_n2, s_n3, s_n4, s_n5, s_n6, s_n7, s_n8, s_n9, reduceCtorEq, s_i1, s_i2, s_i3, s_i4, PV, PC]
  refine VLe.auto ⟨rfl, rfl, fun i' j' hi' hj' => ?_⟩
  obtain rfl : i' = 0 := by omega
  obtain rfl : j' = 0 := by omega
  rfl

theorem mL_getD {l : List Mono} {i j : Nat} (hi : i < l.length) (hj : j < 5) : mC (l.getD i default) j = (l.flatMap mL).getD (i * 5 + j) .any := by
  induction l generalizing i with
  | nil => exact absurd hi (by simp)
  | cons m r ih =>
    rw [List.flatMap_cons, List.getD_eq_getElem?_getD (l := mL m ++ _)]
    have hlen : (mL m).length = 5 := rfl
    match i with
    | 0 =>
      rw [Nat.zero_mul, Nat.zero_add, List.getElem?_append_left (by omega), ← List.getD_eq_getElem?_getD]
      exact (mC_list m hj).symm
    | i + 1 =>
      rw [List.getElem?_append_right (by omega), ← List.getD_eq_getElem?_getD, show (i + 1) * 5 + j - (mL m).length = i * 5 + j by omega, ← ih (by simpa using hi)]; rfl

theorem litP {l : List Mono} {n : Nat} {L : List C} (hn : n = l.length) (hL : L = l.flatMap mL) : CLe (.rows 5 n (fun i j => L.getD (i * 5 + j) .any)) (PC l) := by
  subst hn hL
  exact CLe.rows rfl fun i j hi hj => CLe.of_eq (mL_getD hi hj).symm

def exD : List Mono := [(Rat.ofInt 2, [0]), (Rat.ofInt (-2), [2])]
theorem mok (n : Int) (v : List Int) (h : n.natAbs < 18446744073709551616) (hl : v.length ≤ 2) (hi : In63 v) : qm (Rat.ofInt n) ≤ 2 ∧ v.length ≤ 2 ∧ In63 v := ⟨qm_ofInt h, hl, hi⟩
theorem pb_exL : PB exL 7 2 2 := by
  refine ⟨by decide, fun m hm => ?_⟩
  simp only [exL, List.mem_cons, List.not_mem_nil, or_false] at hm
  rcases hm with rfl | rfl | rfl | rfl | rfl | rfl | rfl <;> exact mok _ _ (by decide) (by decide) (by unfold In63; decide)
theorem pb_exD : PB exD 2 2 2 := by
  refine ⟨by decide, fun m hm => ?_⟩
  simp only [exD, List.mem_cons, List.not_mem_nil, or_false] at hm
  rcases hm with rfl | rfl <;> exact mok _ _ (by decide) (by decide) (by unfold In63; decide)
theorem pok_exL : POk exL := pb_exL.pok (by decide) (by decide) (by decide)
theorem pok_exD : POk exD := pb_exD.pok (by decide) (by decide) (by decide)

theorem dist_ex : distM 0 1 (Rat.ofInt 5) = exL := by
  rw [← exE_eq]
  unfold distM exE subM negM subE negE wayM ptM varM subM negM
  simp only [mulM_E]
  rfl

set_option maxHeartbeats 4000000 in
set_option maxRecDepth 10000 in
theorem awake_spec : PureCalls Tryz.prog 8 [] (.one (.bool true)) := by
  have hd := ofDist_spec 0 1 (Rat.ofInt 5) (by decide) (by decide) (qm_ofInt (by decide))
  rw [dist_ex] at hd
  refine pure_of_vc T_ok mixed Tryz.func8 rfl (by decide) _ (by simp [Tryz.ntmps8]) ⟨[0, 1, 2, 35], []⟩ (by kernel_rfl) _ ?_
  show vc T Tryz.prog ⟨[0, 1, 2, 35], []⟩ (Option.get! Tryz.f8.body) _ _
  simp only [Tryz.f8, Tryz.ntmps8, Option.get!, initSt, initM, envOf, Nat.reduceAdd]
  simp only [vx, T, s_i5, s_n0, s_i6, s_i7, ↓reduceIte, s_n1, s_n2, s_n3, s_n4, s_n5, s_n6, s_n7, s_n8, s_n9, reduceCtorEq, s_i1, s_i2, s_i3, s_i4]
  refine CallK.go (rQFromInt_spec 5 (by decide) (by decide)) ?_
  simp only [vx, T, s_i5, s_n0, s_i6, s_i7, ↓reduceIte, s_n1, s_n2, s_n3, s_n4, s_n5, s_n6, s_n7, s_n8, s_n9, reduceCtorEq, s_i1, s_i2, s_i3, s_i4, QV, QC]
  refine CallK.go (rQFromInt_spec 5 (by decide) (by decide)) ?_
  simp only [vx, T, s_i5, s_n0, s_i6, s_i7, ↓reduceIte, s_n1, s_n2, s_n3, s_n4, s_n5, s_n6, s_n7, s_n8, s_n9, reduceCtorEq, s_i1, s_i2, s_i3, s_i4, QV, QC]
  have hq : CLe (.rows 4 1 fun i j => [C.bool (zs (Rat.ofInt 5).num), C.ints IntKind.u32 (zm (Rat.ofInt 5).num), C.bool (zs ((Rat.ofInt 5).den : Int)), C.ints IntKind.u32 (zm ((Rat.ofInt 5).den : Int))].getD (i * 4 + j) C.any) (QsC [Rat.ofInt 5]) := by
    refine CLe.rows rfl fun i j hi hj => CLe.of_eq ?_
    obtain rfl : i = 0 := by omega
    match j, hj with
    | 0, _ => rfl
    | 1, _ => rfl
    | 2, _ => rfl
    | 3, _ => rfl
  refine CallK.go ((hd _ 0 2).args ⟨.refl _, .cell hq, .refl _, .refl _, trivial⟩) ?_
  simp only [vx, T, s_i5, s_n0, s_i6, s_i7, ↓reduceIte, s_n1, s_n2, s_n3, s_n4, s_n5, s_n6, s_n7, s_n8, s_n9, reduceCtorEq, s_i1, s_i2, s_i3, s_i4, LV, LC, PC]
  refine ⟨fun h => absurd rfl h, fun _ => Later.go ?_⟩
  simp only [vx, T, s_i5, s_n0, s_i6, s_i7, ↓reduceIte, s_n1, s_n2, s_n3, s_n4, s_n5, s_n6, s_n7, s_n8, s_n9, reduceCtorEq, s_i1, s_i2, s_i3, s_i4, LV, LC, PC]
  refine ⟨by decide, CallK.go (term0_spec (-25) (by decide) (by decide)) ?_⟩
  simp only [vx, T, s_i5, s_n0, s_i6, s_i7, ↓reduceIte, s_n1, s_n2, s_n3, s_n4, s_n5, s_n6, s_n7, s_n8, s_n9, reduceCtorEq, s_i1, s_i2, s_i3, s_i4, MV, mC]
  refine CallK.go (term_spec (1) [0, 0] (by decide) (by decide)) ?_
  simp only [vx, T, s_i5, s_n0, s_i6, s_i7, ↓reduceIte, s_n1, s_n2, s_n3, s_n4, s_n5, s_n6, s_n7, s_n8, s_n9, reduceCtorEq, s_i1, s_i2, s_i3, s_i4, MV, mC]
  refine CallK.go (term_spec (-2) [0, 2] (by decide) (by decide)) ?_
  simp only [vx, T, s_i5, s_n0, s_i6, s_i7, ↓reduceIte, s_n1, s_n2, s_n3, s_n4, s_n5, s_n6, s_n7, s_n8, s_n9, reduceCtorEq, s_i1, s_i2, s_i3, s_i4, MV, mC]
  refine CallK.go (term_spec (1) [1, 1] (by decide) (by decide)) ?_
  simp only [vx, T, s_i5, s_n0, s_i6, s_i7, ↓reduceIte, s_n1, s_n2, s_n3, s_n4, s_n5, s_n6, s_n7, s_n8, s_n9, reduceCtorEq, s_i1, s_i2, s_i3, s_i4, MV, mC]
  refine CallK.go (term_spec (-2) [1, 3] (by decide) (by decide)) ?_
  simp only [vx, T, s_i5, s_n0, s_i6, s_i7, ↓reduceIte, s_n1, s_n2, s_n3, s_n4, s_n5, s_n6, s_n7, s_n8, s_n9, reduceCtorEq, s_i1, s_i2, s_i3, s_i4, MV, mC]
  refine CallK.go (term_spec (1) [2, 2] (by decide) (by decide)) ?_
  simp only [vx, T, s_i5, s_n0, s_i6, s_i7, ↓reduceIte, s_n1, s_n2, s_n3, s_n4, s_n5, s_n6, s_n7, s_n8, s_n9, reduceCtorEq, s_i1, s_i2, s_i3, s_i4, MV, mC]
  refine CallK.go (term_spec (1) [3, 3] (by decide) (by decide)) ?_
  simp only [vx, T, s_i5, s_n0, s_i6, s_i7, ↓reduceIte, s_n1, s_n2, s_n3, s_n4, s_n5, s_n6, s_n7, s_n8, s_n9, reduceCtorEq, s_i1, s_i2, s_i3, s_i4, MV, mC]
  refine CallK.go ((Same_spec exL exL pok_exL pok_exL).args ⟨.refl _, .cell (litP rfl rfl), trivial⟩) ?_
  rw [decide_eq_true (rfl : exL = exL)]
  simp only [vx, T, s_i5, s_n0, s_i6, s_i7, ↓reduceIte, s_n1, s_n2, s_n3, s_n4, s_n5, s_n6, s_n7, s_n8, s_n9, reduceCtorEq, s_i1, s_i2, s_i3, s_i4, LV, LC, PC]
  refine ⟨by decide, CallK.go (iDer_spec 0 pb_exL (by decide) (by decide) (by decide)) ?_⟩
  rw [exD_eq]
  simp only [vx, T, s_i5, s_n0, s_i6, s_i7, ↓reduceIte, s_n1, s_n2, s_n3, s_n4, s_n5, s_n6, s_n7, s_n8, s_n9, reduceCtorEq, s_i1, s_i2, s_i3, s_i4, PV, PC]
  refine CallK.go (term_spec 2 [0] (by decide) (by decide)) ?_
  simp only [vx, T, s_i5, s_n0, s_i6, s_i7, ↓reduceIte, s_n1, s_n2, s_n3, s_n4, s_n5, s_n6, s_n7, s_n8, s_n9, reduceCtorEq, s_i1, s_i2, s_i3, s_i4, MV, mC]
  refine CallK.go (term_spec (-2) [2] (by decide) (by decide)) ?_
  simp only [vx, T, s_i5, s_n0, s_i6, s_i7, ↓reduceIte, s_n1, s_n2, s_n3, s_n4, s_n5, s_n6, s_n7, s_n8, s_n9, reduceCtorEq, s_i1, s_i2, s_i3, s_i4, MV, mC]
  refine CallK.go ((Same_spec exD exD pok_exD pok_exD).args ⟨.refl _, .cell (litP rfl rfl), trivial⟩) ?_
  rw [decide_eq_true (rfl : exD = exD)]
  simp only [vx, T, s_i5, s_n0, s_i6, s_i7, ↓reduceIte, s_n1, s_n2, s_n3, s_n4, s_n5, s_n6, s_n7, s_n8, s_n9, reduceCtorEq, s_i1, s_i2, s_i3, s_i4]
  exact VLe.of_eq rfl
end Go.Proofs.YtckikgkdplkopaaGreat

/-! ## EngOp -/
namespace Go.Eng
open Go Go.ChangeShapes Go.WideShapes Go.Deep

/-- The fields lie one behind the other. -/
def contigF (P : Program) : Nat → List Field → Nat → Bool
  | off, [], tot => off == tot
  | off, f :: r, tot => f.offset == off && contigF P (off + P.cellsOf f.type) r tot

/-- A set of types that is closed, and whose types can be opened. -/
def closedB (P : Program) (S : List TypeId) : Bool := S.all fun t =>
  match P.underlying t with
  | some .bool => true
  | some (.int _) => true
  | some .string => true
  | some (.slice e) => decide (0 < P.cellsOf e) && S.contains e && (match P.underlying e with | some (.int _) => P.cellsOf e == 1 | _ => true)
  | some (.struct fs) => contigF P 0 fs.toList (P.cellsOf t) && fs.toList.all fun f => S.contains f.type
  | _ => false

def OkF (R : TypeId → List C → Prop) : List Field → List C → Prop
  | [], cs => cs = []
  | f :: r, cs => ∃ c1 c2, cs = c1 ++ c2 ∧ R f.type c1 ∧ OkF R r c2

/-- The cells of a type, as data that can be read. -/
def OkC (P : Program) : Nat → TypeId → List C → Prop
  | 0, _, _ => False
  | n + 1, t, cs =>
    match P.underlying t with
    | some .bool => ∃ b, cs = [.bool b]
    | some (.int k) => ∃ x, cs = [.int k x] ∧ k.min ≤ x ∧ x ≤ k.max
    | some .string => ∃ s : ByteArray, cs = [.str s] ∧ s.size ≤ maxLen
    | some (.slice e) =>
      match P.underlying e with
      | some (.int k) => ∃ xs : List Int, cs = [.ints k xs] ∧ xs.length ≤ maxLen ∧ ∀ x ∈ xs, k.min ≤ x ∧ x ≤ k.max
      | _ => ∃ m f, cs = [.rows (P.cellsOf e) m f] ∧ m ≤ maxLen ∧ ∀ i, i < m → OkC P n e ((List.range (P.cellsOf e)).map (f i))
    | some (.struct fs) => OkF (OkC P n) fs.toList cs
    | _ => False

/-- Cells and values, pair by pair. -/
def RepIL (ok : Nat → Prop) (w : World) : List C → List Value → Prop
  | [], [] => True
  | c :: cs, v :: vs => RepI ok w c v ∧ RepIL ok w cs vs
  | _, _ => False
theorem RepIL.append {ok : Nat → Prop} {w : World} : ∀ {a b : List C} {x y : List Value}, RepIL ok w a x → RepIL ok w b y → RepIL ok w (a ++ b) (x ++ y)
  | [], _, [], _, _, h => h
  | _ :: _, _, _ :: _, _, h1, h2 => ⟨h1.1, RepIL.append h1.2 h2⟩
  | [], _, _ :: _, _, h, _ => h.elim
  | _ :: _, _, [], _, h, _ => h.elim
theorem RepIL.length {ok : Nat → Prop} {w : World} : ∀ {a : List C} {x : List Value}, RepIL ok w a x → a.length = x.length
  | [], [], _ => rfl
  | _ :: _, _ :: _, h => by simp [RepIL.length h.2]
  | [], _ :: _, h => h.elim
  | _ :: _, [], h => h.elim
theorem RepIL.get {ok : Nat → Prop} {w : World} : ∀ {a : List C} {x : List Value}, RepIL ok w a x → ∀ j, j < a.length → ∃ u, x[j]? = some u ∧ RepI ok w (a.getD j .any) u
  | _ :: _, u :: _, h, 0, _ => ⟨u, rfl, h.1⟩
  | _ :: _, _ :: _, h, j + 1, hj => by simpa using RepIL.get h.2 j (by simpa using hj)
  | [], [], _, j, hj => absurd hj (by simp)
  | [], _ :: _, h, _, _ => h.elim
  | _ :: _, [], h, _, _ => h.elim
theorem RepIL.repL {ok : Nat → Prop} {w : World} : ∀ {a : List C} {x : List Value}, RepIL ok w a x → RepL loc0 dom0 ok w a x
  | [], [], _ => trivial
  | _ :: _, _ :: _, h => ⟨RepC.of_repI h.1, RepIL.repL h.2⟩
  | [], _ :: _, h => h.elim
  | _ :: _, [], h => h.elim

theorem cell_lt {w : World} {a : Addr} {v : Value} (h : w.cell? a = some v) : a.block < w.heap.size ∧ a.spot = none := by
  unfold World.cell? at h
  split at h
  · rename_i c _ _ hb
    refine ⟨(Array.getElem?_eq_some_iff.1 hb).1, ?_⟩
    split at h
    · cases h
    · rename_i hs
      cases hsp : a.spot with
      | none => rfl
      | some x => rw [hsp] at hs; simp at hs
  · cases h

section
variable {H : Type} {enc : TypeId × Value → H} {P : Program} {w : World} {base : Nat} {spare : Nat → Bool} {held : Bool}

theorem open_data {S : List TypeId} (hS : closedB P S = true) : ∀ (fuel : Nat) (t : TypeId) (vs : List Value) (x : DataW H × List MemPlace), t ∈ S → DataW.trod enc P w base spare held fuel t vs = some x →
    ∃ cs, OkC P fuel t cs ∧ RepIL (fun g => g < w.heap.size) w cs vs := by
  intro fuel
  induction fuel with
  | zero => intro t vs x _ h; simp [DataW.trod] at h
  | succ fuel ih =>
    intro t vs x ht h
    have hc := List.all_eq_true.1 hS t ht
    simp only [OkC]
    cases hu : P.underlying t with
    | none => rw [hu] at hc; simp at hc
    | some d =>
      rw [hu] at hc
      cases d with
      | bool =>
        obtain ⟨b, rfl, _⟩ := DataW.trod_bool hu h
        exact ⟨[.bool b], ⟨b, rfl⟩, rfl, trivial⟩
      | int k =>
        obtain ⟨n, rfl, _, hw⟩ := DataW.trod_int hu h
        simp only [Lit.wf, Bool.and_eq_true, decide_eq_true_eq] at hw
        exact ⟨[.int k n], ⟨n, rfl, hw⟩, rfl, trivial⟩
      | string =>
        obtain ⟨s, rfl, _, hs⟩ := DataW.trod_string hu h
        exact ⟨[.str s], ⟨s, rfl, hs⟩, rfl, trivial⟩
      | slice e =>
        simp only [Bool.and_eq_true, decide_eq_true_eq] at hc
        obtain ⟨⟨hpos, he⟩, hk⟩ := hc
        have he : e ∈ S := by simpa using he
        have hfit : (vs = [.slice none 0 0]) ∨ ∃ (a : Addr) (len cap : Nat), vs = [.slice (some a) len cap] ∧ len ≤ cap ∧ len ≤ maxLen ∧
            ∀ i, i < len → ∃ cs', w.cells? base (a.add (i * P.cellsOf e)) (P.cellsOf e) = some cs' ∧ ∃ y, DataW.trod enc P w base spare held fuel e cs' = some y := by
          rcases DataW.trod_slice hu h with ⟨rfl, _⟩ | ⟨a, len, cap, elems, rest, n, hn, rfl, _, _, hl, hm, hlen, hel, _, _⟩
          · exact .inl rfl
          · refine .inr ⟨a, len, cap, rfl, hl, by omega, fun i hi => ?_⟩
            obtain rfl : fuel = n := by omega
            have h1 := hel i hi
            rw [List.getElem?_eq_getElem (by omega)] at h1
            cases hcs : w.cells? base (a.add (i * P.cellsOf e)) (P.cellsOf e) with
            | none => rw [hcs] at h1; simp at h1
            | some cs' => rw [hcs] at h1; exact ⟨cs', rfl, _, h1⟩
        -- by rows
        have hrows : ∃ m f, m ≤ maxLen ∧ (∀ i, i < m → OkC P fuel e ((List.range (P.cellsOf e)).map (f i))) ∧ ∃ v, vs = [v] ∧ RepI (fun g => g < w.heap.size) w (.rows (P.cellsOf e) m f) v := by
          rcases hfit with rfl | ⟨a, len, cap, rfl, hl, hm, hel⟩
          · exact ⟨0, fun _ _ => .any, Nat.zero_le _, fun i hi => absurd hi (Nat.not_lt_zero _), _, rfl, none, 0, rfl, Nat.le_refl _, .inl rfl⟩
          · have hex : ∀ i, i < len → ∃ cs, OkC P fuel e cs ∧ cs.length = P.cellsOf e ∧ ∀ j, j < P.cellsOf e → ∃ u, w.cell? ((a.add (i * P.cellsOf e)).add j) = some u ∧ RepI (fun g => g < w.heap.size) w (cs.getD j .any) u := by
              intro i hi
              obtain ⟨cs', hcs', y, hy⟩ := hel i hi
              obtain ⟨_, hcl, hcell⟩ := World.cells?_some hcs'
              obtain ⟨cs, hok, hrep⟩ := ih e cs' y he hy
              have hlen : cs.length = P.cellsOf e := by rw [hrep.length, hcl]
              refine ⟨cs, hok, hlen, fun j hj => ?_⟩
              obtain ⟨u, hu, hr⟩ := hrep.get j (by omega)
              exact ⟨u, by rw [hcell j hj, hu], hr⟩
            obtain ⟨g, hg⟩ := Classical.axiomOfChoice (r := fun (i : Nat) (cs : List C) => i < len → OkC P fuel e cs ∧ cs.length = P.cellsOf e ∧ ∀ j, j < P.cellsOf e → ∃ u, w.cell? ((a.add (i * P.cellsOf e)).add j) = some u ∧ RepI (fun g => g < w.heap.size) w (cs.getD j .any) u) (fun i => by
              by_cases hi : i < len
              · obtain ⟨cs, h⟩ := hex i hi; exact ⟨cs, fun _ => h⟩
              · exact ⟨[], fun h => absurd h hi⟩)
            refine ⟨len, fun i j => (g i).getD j .any, hm, fun i hi => ?_, _, rfl, some a, cap, rfl, hl, ?_⟩
            · obtain ⟨h1, h2, _⟩ := hg i hi
              have e : (List.range (P.cellsOf e)).map (fun j => (g i).getD j .any) = g i := by
                refine List.ext_getElem (by simp [h2]) fun j hj1 hj2 => ?_
                simp [List.getD_eq_getElem?_getD, List.getElem?_eq_getElem hj2]
              rw [e]; exact h1
            · by_cases h0 : len = 0
              · exact .inl h0
              · right
                obtain ⟨u, hu, _⟩ := (hg 0 (by omega)).2.2 0 hpos
                rw [Nat.zero_mul] at hu
                have ha0 : (a.add 0).add 0 = a := by simp [Addr.add]
                rw [ha0] at hu
                obtain ⟨hlt, hsp⟩ := cell_lt hu
                refine ⟨a.block, a.off, ?_, hlt, fun i j hi hj => ?_⟩
                · obtain ⟨b, o, s⟩ := a; simp only at hsp; subst hsp; rfl
                · obtain ⟨u, hu, hr⟩ := (hg i hi).2.2 j hj
                  refine ⟨u, ?_, hr⟩
                  rw [← hu]
                  congr 1
                  obtain ⟨b, o, s⟩ := a
                  simp only at hsp
                  subst hsp
                  unfold Addr.add
                  split <;> split <;> simp_all <;> omega
        simp only
        cases hue : P.underlying e with
        | none =>
          obtain ⟨m, f, h1, h2, v, rfl, h3⟩ := hrows
          exact ⟨[.rows (P.cellsOf e) m f], ⟨m, f, rfl, h1, h2⟩, h3, trivial⟩
        | some de =>
          cases de with
          | int k =>
            rw [hue] at hk
            have hk : P.cellsOf e = 1 := by simpa using hk
            obtain ⟨m, f, h1, h2, v, rfl, a, cap, rfl, h4, h5⟩ := hrows
            have h2' : ∀ i, i < m → ∃ x, f i 0 = .int k x ∧ k.min ≤ x ∧ x ≤ k.max := by
              intro i hi
              have := h2 i hi
              rw [hk] at this
              cases fuel with
              | zero => exact this.elim
              | succ fuel =>
                simp only [OkC, hue] at this
                obtain ⟨x, hx, hr⟩ := this
                simp only [List.range_succ, List.range_zero, List.nil_append, List.map_cons, List.map_nil, List.cons.injEq, and_true] at hx
                exact ⟨x, hx, hr⟩
            obtain ⟨g, hg⟩ := Classical.axiomOfChoice (r := fun (i : Nat) (x : Int) => i < m → f i 0 = .int k x ∧ k.min ≤ x ∧ x ≤ k.max) (fun i => by
              by_cases hi : i < m
              · obtain ⟨x, h⟩ := h2' i hi; exact ⟨x, fun _ => h⟩
              · exact ⟨0, fun h => absurd h hi⟩)
            have hlen : ((List.range m).map g).length = m := by simp
            refine ⟨[.ints k ((List.range m).map g)], ⟨_, rfl, by rw [hlen]; exact h1, fun x hx => ?_⟩, ⟨a, cap, by rw [hlen], by rw [hlen]; exact h4, ?_⟩, trivial⟩
            · obtain ⟨i, hi, rfl⟩ := List.mem_map.1 hx
              exact (hg i (List.mem_range.1 hi)).2
            · rw [hlen]
              rcases h5 with h5 | ⟨b, o, ha, hb, hcell⟩
              · exact .inl h5
              · refine .inr ⟨b, o, ha, hb, fun i hi => ?_⟩
                obtain ⟨u, hu, hr⟩ := hcell i 0 hi (by omega)
                rw [(hg i hi).1] at hr
                have hr : u = .int k (g i) := hr
                rw [hk, Nat.mul_one, Nat.add_zero] at hu
                rw [hu, hr]
                simp [List.getD_eq_getElem?_getD, hi]
          | _ =>
            obtain ⟨m, f, h1, h2, v, rfl, h3⟩ := hrows
            exact ⟨[.rows (P.cellsOf e) m f], ⟨m, f, rfl, h1, h2⟩, h3, trivial⟩
      | struct fs =>
        simp only [Bool.and_eq_true] at hc
        obtain ⟨hcon, hmem⟩ := hc
        obtain ⟨xs, n, hn, _, hcl, hxl, hf⟩ := DataW.trod_struct hu h
        obtain rfl : fuel = n := by omega
        have hall : ∀ f ∈ fs.toList, ∃ y, DataW.trod enc P w base spare held fuel f.type ((vs.drop f.offset).take (P.cellsOf f.type)) = some y := by
          intro f hfm
          obtain ⟨i, hi, rfl⟩ := List.mem_iff_getElem.1 hfm
          have hi' : i < fs.size := by simpa using hi
          have h1 := hf i fs[i] (Array.getElem?_eq_getElem hi')
          rw [List.getElem?_eq_getElem (by omega)] at h1
          exact ⟨_, by simpa using h1⟩
        have hmem : ∀ f ∈ fs.toList, f.type ∈ S := fun f hf => by simpa using List.all_eq_true.1 hmem f hf
        simp only
        -- field by field
        have key : ∀ (l : List Field) (off : Nat), (∀ f ∈ l, ∃ y, DataW.trod enc P w base spare held fuel f.type ((vs.drop f.offset).take (P.cellsOf f.type)) = some y) → (∀ f ∈ l, f.type ∈ S) → contigF P off l vs.length = true →
            ∃ cs, OkF (OkC P fuel) l cs ∧ RepIL (fun g => g < w.heap.size) w cs (vs.drop off) := by
          intro l
          induction l with
          | nil =>
            intro off _ _ hcf
            simp only [contigF, beq_iff_eq] at hcf
            exact ⟨[], rfl, by rw [List.drop_eq_nil_of_le (by omega)]; trivial⟩
          | cons f r ihl =>
            intro off hy hm hcf
            simp only [contigF, Bool.and_eq_true, beq_iff_eq] at hcf
            obtain ⟨ho, hcf⟩ := hcf
            obtain ⟨y, hy1⟩ := hy f (by simp)
            obtain ⟨c1, h1, h2⟩ := ih f.type _ y (hm f (by simp)) hy1
            obtain ⟨c2, h3, h4⟩ := ihl (off + P.cellsOf f.type) (fun g hg => hy g (by simp [hg])) (fun g hg => hm g (by simp [hg])) hcf
            refine ⟨c1 ++ c2, ⟨c1, c2, rfl, h1, h3⟩, ?_⟩
            have e : vs.drop off = (vs.drop f.offset).take (P.cellsOf f.type) ++ vs.drop (off + P.cellsOf f.type) := by
              rw [ho, ← List.drop_drop, List.take_append_drop]
            rw [e]
            exact h2.append h4
        have := key fs.toList 0 hall hmem (by rw [hcl]; exact hcon)
        rwa [List.drop_zero] at this
      | _ => simp at hc

/-- An argument, as the engine's value. -/
theorem open_arg {S : List TypeId} (hS : closedB P S = true) {t : TypeId} (ht : t ∈ S) {v : Value} {d : DataW H} {p : List MemPlace} (hv : v.oneCell' = true) (h : DataW.Trod enc P w base spare held t v d p) :
    ∃ n c, OkC P n t [c] ∧ RepI (fun g => g < w.heap.size) w c v := by
  obtain ⟨fuel, hf⟩ := h
  have hvc : v.cells.toList = [v] := by
    cases v <;> first | rfl | (simp [Value.oneCell'] at hv)
  rw [hvc] at hf
  obtain ⟨cs, h1, h2⟩ := open_data hS fuel t _ _ ht hf
  match cs, h2 with
  | [c], h2 => exact ⟨fuel, c, h1, h2.1⟩
theorem open_argS {S : List TypeId} (hS : closedB P S = true) {t : TypeId} (ht : t ∈ S) {us : Array Value} {d : DataW H} {p : List MemPlace} (h : DataW.Trod enc P w base spare held t (.agg us) d p) :
    ∃ n cs, OkC P n t cs ∧ RepV1 loc0 dom0 (fun g => g < w.heap.size) w (.agg cs) (.agg us) := by
  obtain ⟨fuel, hf⟩ := h
  obtain ⟨cs, h1, h2⟩ := open_data hS fuel t _ _ ht hf
  exact ⟨fuel, cs, h1, us, rfl, h2.repL⟩
end
end Go.Eng

/-! ## EngLw -/
namespace Go.Eng
open Go Go.ChangeShapes Go.WideShapes Go.RowKit

section
variable {H : Type} {enc : TypeId × Value → H} {P : Program}

/-- An argument reads behind the call as it read before. -/
theorem arg_stays (hl : laidOutB P = true) {t : TypeId} (hr : P.readableRec t = true) (hrow : t < P.types.size) {W W' : World} {v : Value} {d : DataW H} {ps : List MemPlace} (h : DataW.Trod enc P W 0 (fun _ => true) true t v d ps)
    (hb : Below W.heap.size W W') (hlt : ∀ x ∈ ps, x.block < W.heap.size) : DataW.Trod enc P W' 0 (fun b => decide (b < W.heap.size)) true t v d ps :=
  Below.trod hl hr hrow h hb hlt

/-- What the statement of a law asks where the call has returned true and turned nothing. -/
theorem law_post {f : Func} {s : ChangeSpec} {W W' : World} {args : Array Value} {ds : List (DataW H)} {before : List MemPlace} {tb : TypeId}
    (hW : DataW.Whole enc P f.params.toList s.vars false W args.toList ds [] before) (hv : s.vars = []) (hrt : f.resultTypes = #[tb]) (htb : P.underlying tb = some .bool)
    (hres : (s.fn H (ds ++ [])).results = [.lit (.bool true)]) (hargs : DataW.TrodAll enc P W' 0 (fun b => decide (b < W.heap.size)) true f.params.toList args.toList (s.fn H (ds ++ [])).args before)
    (hvs : (s.fn H (ds ++ [])).vars = []) (hb : Below W.heap.size W W') : s.post enc P f false true false false W args (.bool true) W' := by
  refine ⟨ds, [], before, [], before, [], hW, ?_, hargs, ?_, World.keptBut_mono (fun p hp => ⟨hp, .inr (.inl hp)⟩) (hb.frame (· ∈ before)), fun h => by cases h⟩
  · rw [hres, hrt]
    exact trodAll_mk1 (shut_bool htb true)
  · rw [hv, hvs]; rfl

/-- The value of a slice's argument. -/
theorem slice_one {w : World} {r : Reach} {base : Nat} {t e : TypeId} {v : Value} (ht : P.underlying t = some (.slice e)) (h : Value.okWide P w r base t v) : v.oneCell' = true := by
  obtain ⟨a, len, cap, rfl⟩ := okWide_slice ht h
  rfl
end
end Go.Eng

/-! ## FnZo -/
namespace Go.Proofs.YtckikgkdplkopaaGreat
open Go Go.Proofs Go.Eng Go.ChangeShapes Go.WideShapes Go.ChangeAt Go.RowKit

set_option maxHeartbeats 4000000 in
set_option maxRecDepth 10000 in
theorem SmallA_spec (p : List Raw) (n d : Nat) (hn : n < 2 ^ 30) (hd : d < 2 ^ 30) : PureCalls Tryz.prog 23 [RV p, .one (.int .i64 n), .one (.int .i64 d)] (.one (.bool (smallB n d p))) := by
  refine pure_of_vc T_ok mixed Tryz.func23 rfl (by decide) _ (by simp [Tryz.ntmps23]) ⟨[0, 1, 2, 6, 7, 11, 15, 47], []⟩ (by kernel_rfl) _ ?_
  show vc T Tryz.prog ⟨[0, 1, 2, 6, 7, 11, 15, 47], []⟩ (Option.get! Tryz.f23.body) _ _
  simp only [Tryz.f23, Tryz.ntmps23, Option.get!, initSt, initM, envOf, Nat.reduceAdd]
  simp only [vx, T, s_i5, s_n0, s_i6, s_i7, ↓reduceIte, s_n1, s_n2, s_n3, s_n4, s_n5, s_n6, s_n7, s_n8, s_n9, reduceCtorEq, s_i1, s_i2, s_i3, s_i4, RV, RC]
  refine ⟨fun h1 => Later.go ?_, fun h1 => Later.go ?_⟩
  · simp only [vx, T, s_i5, s_n0, s_i6, s_i7, ↓reduceIte, s_n1, s_n2, s_n3, s_n4, s_n5, s_n6, s_n7, s_n8, s_n9, reduceCtorEq, s_i1, s_i2, s_i3, s_i4]
    refine vb ?_
    unfold smallB
    rw [decide_eq_false (by omega)]; rfl
  · obtain ⟨f, hf⟩ : ∃ f : Nat → Bool, f = fun i => decide ((p.getD i default).vs.length ≤ d) && (decide ((p.getD i default).xs.length ≤ 4) && decide ((p.getD i default).ys.length ≤ 4)) := ⟨_, rfl⟩
    have hs : smallB n d p = (List.range p.length).all f := by
      unfold smallB
      rw [decide_eq_true (by omega), ← hf]; rfl
    rw [hs]
    simp only [vx, T, s_i5, s_n0, s_i6, s_i7, ↓reduceIte, s_n1, s_n2, s_n3, s_n4, s_n5, s_n6, s_n7, s_n8, s_n9, reduceCtorEq, s_i1, s_i2, s_i3, s_i4, RV, RC]
    refine LoopK.go (fun y : {i : Nat // i ≤ p.length ∧ ∀ j, j < i → f j = true} => ⟨[(0, RV p), (1, .one (.int .i64 n)), (2, .one (.int .i64 d)), (6, .one (.bool false)), (7, .one (.int .i64 y.1))], [], 1, 48⟩) (fun y => p.length - y.1) ⟨0, by omega, fun j hj => by omega⟩ ?_ (fun ⟨i, hi, he⟩ => ?_)
    · refine Sub.auto ?_; simp only [rx, envRen, vRen, cRen, lRen, ownRen, bRen, apartRen, emptyBk, ren, ↓reduceIte, s_n1, s_n2, s_n3, s_n4, s_n5, s_n6, s_n7, s_n8, s_n9, reduceCtorEq, s_i1, s_i2, s_i3, s_i4, autoR, autoOne, Int.natCast_add, Int.natCast_one, Int.natCast_zero, RV, RC]
    simp only [vx, T, s_i5, s_n0, s_i6, s_i7, ↓reduceIte, s_n1, s_n2, s_n3, s_n4, s_n5, s_n6, s_n7, s_n8, s_n9, reduceCtorEq, s_i1, s_i2, s_i3, s_i4, RV, RC]
    refine ⟨fun h2 => Later.go ?_, fun h2 => Later.go ?_⟩
    · have hip : i < p.length := by omega
      have i1 : IntKind.i64.wrap ((i : Int) + 1) = ((i + 1 : Nat) : Int) := by rw [IntWalk.i64_in _ (by omega)]; omega
      have hfi : f i = (decide ((p.getD i default).vs.length ≤ d) && (decide ((p.getD i default).xs.length ≤ 4) && decide ((p.getD i default).ys.length ≤ 4))) := by rw [hf]
      obtain ⟨a, ha⟩ : ∃ a, a = p.getD i default := ⟨_, rfl⟩
      rw [← ha] at hfi
      have xl : (a.xs.length : Int) ≤ 4 ↔ a.xs.length ≤ 4 := by omega
      simp only [vx, T, s_i5, s_n0, s_i6, s_i7, ↓reduceIte, s_n1, s_n2, s_n3, s_n4, s_n5, s_n6, s_n7, s_n8, s_n9, reduceCtorEq, s_i1, s_i2, s_i3, s_i4, RV, RC, ← ha, rC]
      refine ⟨by omega, fun h3 => Later.go ?_, fun h3 => Later.go ?_⟩
      · simp only [vx, T, s_i5, s_n0, s_i6, s_i7, ↓reduceIte, s_n1, s_n2, s_n3, s_n4, s_n5, s_n6, s_n7, s_n8, s_n9, reduceCtorEq, s_i1, s_i2, s_i3, s_i4, RV, RC, ← ha, rC]
        exact vb (all_range_f hip (by rw [hfi, decide_eq_false (by omega)]; rfl)).symm
      · simp only [vx, T, s_i5, s_n0, s_i6, s_i7, ↓reduceIte, s_n1, s_n2, s_n3, s_n4, s_n5, s_n6, s_n7, s_n8, s_n9, reduceCtorEq, s_i1, s_i2, s_i3, s_i4, RV, RC, ← ha, rC]
        refine ⟨by omega, fun h4 => Later.go ?_, fun h4 => Later.go ?_⟩
        · simp only [vx, T, s_i5, s_n0, s_i6, s_i7, ↓reduceIte, s_n1, s_n2, s_n3, s_n4, s_n5, s_n6, s_n7, s_n8, s_n9, reduceCtorEq, s_i1, s_i2, s_i3, s_i4, RV, RC, ← ha, rC]
          exact vb (all_range_f hip (by rw [hfi, decide_eq_false (p := a.xs.length ≤ 4) (by omega), Bool.false_and, Bool.and_false])).symm
        · simp only [vx, T, s_i5, s_n0, s_i6, s_i7, ↓reduceIte, s_n1, s_n2, s_n3, s_n4, s_n5, s_n6, s_n7, s_n8, s_n9, reduceCtorEq, s_i1, s_i2, s_i3, s_i4, RV, RC, ← ha, rC]
          refine ⟨by omega, ?_⟩
          refine ⟨fun h5 => Later.go ?_, fun h5 => Later.go ?_⟩
          · simp only [vx, T, s_i5, s_n0, s_i6, s_i7, ↓reduceIte, s_n1, s_n2, s_n3, s_n4, s_n5, s_n6, s_n7, s_n8, s_n9, reduceCtorEq, s_i1, s_i2, s_i3, s_i4, RV, RC, ← ha, rC]
            exact vb (all_range_f hip (by rw [hfi, decide_eq_false (p := a.ys.length ≤ 4) (by omega), Bool.and_false, Bool.and_false])).symm
          · simp only [vx, T, s_i5, s_n0, s_i6, s_i7, ↓reduceIte, s_n1, s_n2, s_n3, s_n4, s_n5, s_n6, s_n7, s_n8, s_n9, reduceCtorEq, s_i1, s_i2, s_i3, s_i4, RV, RC, ← ha, rC]
            simp only [i1]
            refine loopQ.go ⟨i + 1, by omega, fun j hj => ?_⟩ ?_ ?_
            · by_cases hji : j = i
              · subst hji
                rw [hfi, decide_eq_true (by omega), decide_eq_true (by omega), decide_eq_true (by omega)]; rfl
              · exact he j (by omega)
            · refine Sub.auto ?_; simp only [rx, envRen, vRen, cRen, lRen, ownRen, bRen, apartRen, emptyBk, ren, ↓reduceIte, s_n1, s_n2, s_n3, s_n4, s_n5, s_n6, s_n7, s_n8, s_n9, reduceCtorEq, s_i1, s_i2, s_i3, s_i4, autoR, autoOne, Int.natCast_add, Int.natCast_one, Int.natCast_zero, RV, RC]
            · simp only; omega
    · simp only [vx, T, s_i5, s_n0, s_i6, s_i7, ↓reduceIte, s_n1, s_n2, s_n3, s_n4, s_n5, s_n6, s_n7, s_n8, s_n9, reduceCtorEq, s_i1, s_i2, s_i3, s_i4]
      refine vb ?_
      exact (all_range.2 fun j hj => he j (by omega)).symm


/-! ### What comes in. -/
set_option maxRecDepth 100000 in
theorem closed1 : closedB Tryz.prog [23, 55, 50, 48, 4, 46, 115, 30, 3] = true := by kernel_rfl

structure RaOk (m : Raw) : Prop where
  x : InR m.xs
  y : InR m.ys
  v : InI m.vs
def RasOk (p : List Raw) : Prop := ∀ m ∈ p, RaOk m

theorem ok_bool {n : Nat} {cs : List C} (h : OkC Tryz.prog n 4 cs) : ∃ b, cs = [.bool b] := by
  cases n with
  | zero => exact h.elim
  | succ n =>
    simp only [OkC, Tryz.underlying4] at h
    exact h
theorem ok_u32s {n : Nat} {cs : List C} (h : OkC Tryz.prog n 46 cs) : ∃ xs, cs = [.ints .u32 xs] ∧ InR xs := by
  cases n with
  | zero => exact h.elim
  | succ n =>
    simp only [OkC, Tryz.underlying46, Tryz.underlying115] at h
    obtain ⟨xs, h1, _, h2⟩ := h
    refine ⟨xs, h1, fun x hx => ?_⟩
    have := h2 x hx
    have e1 : IntKind.u32.min = 0 := rfl
    have e2 : IntKind.u32.max = 4294967295 := rfl
    rw [e1, e2] at this
    omega
theorem ok_i64s {n : Nat} {cs : List C} (h : OkC Tryz.prog n 30 cs) : ∃ xs, cs = [.ints .i64 xs] ∧ InI xs := by
  cases n with
  | zero => exact h.elim
  | succ n =>
    simp only [OkC, Tryz.underlying30, Tryz.underlying3] at h
    obtain ⟨xs, h1, _, h2⟩ := h
    refine ⟨xs, h1, fun x hx => ?_⟩
    have := h2 x hx
    have e1 : IntKind.i64.min = -9223372036854775808 := rfl
    have e2 : IntKind.i64.max = 9223372036854775807 := rfl
    rw [e1, e2] at this
    omega
theorem ok_two {R : TypeId → List C → Prop} {f g : Field} {cs : List C} (h : OkF R [f, g] cs) : ∃ c1 c2, cs = c1 ++ c2 ∧ R f.type c1 ∧ R g.type c2 := by
  obtain ⟨c1, c2, rfl, h1, c3, c4, rfl, h2, h3⟩ := h
  have h3 : c4 = [] := h3
  subst h3
  exact ⟨c1, c3, by simp, h1, h2⟩
theorem ok_int {n : Nat} {cs : List C} (h : OkC Tryz.prog n 48 cs) : ∃ s xs, cs = [.bool s, .ints .u32 xs] ∧ InR xs := by
  cases n with
  | zero => exact h.elim
  | succ n =>
    simp only [OkC, Tryz.underlying48] at h
    obtain ⟨c1, c2, rfl, h1, h2⟩ := ok_two h
    obtain ⟨s, rfl⟩ := ok_bool h1
    obtain ⟨xs, rfl, h3⟩ := ok_u32s h2
    exact ⟨s, xs, rfl, h3⟩
theorem ok_rat {n : Nat} {cs : List C} (h : OkC Tryz.prog n 50 cs) : ∃ s xs t ys, cs = [.bool s, .ints .u32 xs, .bool t, .ints .u32 ys] ∧ InR xs ∧ InR ys := by
  cases n with
  | zero => exact h.elim
  | succ n =>
    simp only [OkC, Tryz.underlying50] at h
    obtain ⟨c1, c2, rfl, h1, h2⟩ := ok_two h
    obtain ⟨s, xs, rfl, h3⟩ := ok_int h1
    obtain ⟨t, ys, rfl, h4⟩ := ok_int h2
    exact ⟨s, xs, t, ys, rfl, h3, h4⟩
theorem ok_mono {n : Nat} {cs : List C} (h : OkC Tryz.prog n 55 cs) : ∃ m : Raw, cs = (List.range 5).map (rC m) ∧ RaOk m := by
  cases n with
  | zero => exact h.elim
  | succ n =>
    simp only [OkC, Tryz.underlying55] at h
    obtain ⟨c1, c2, rfl, h1, h2⟩ := ok_two h
    obtain ⟨s, xs, t, ys, rfl, h3, h4⟩ := ok_rat h1
    obtain ⟨vs, rfl, h5⟩ := ok_i64s h2
    exact ⟨⟨s, xs, t, ys, vs⟩, rfl, h3, h4, h5⟩
set_option maxRecDepth 100000 in
theorem ok_poly {n : Nat} {c : C} (h : OkC Tryz.prog n 23 [c]) : ∃ p : List Raw, RasOk p ∧ CLe c (RC p) := by
  cases n with
  | zero => exact h.elim
  | succ n =>
    simp only [OkC, Tryz.underlying23, Tryz.underlying55] at h
    obtain ⟨m, f, hc, _, hm⟩ := h
    have h5 : Tryz.prog.cellsOf 55 = 5 := by kernel_rfl
    rw [h5] at hc hm
    obtain rfl : c = .rows 5 m f := by simpa using hc
    obtain ⟨g, hg⟩ := Classical.axiomOfChoice (r := fun (i : Nat) (a : Raw) => i < m → (List.range 5).map (f i) = (List.range 5).map (rC a) ∧ RaOk a) (fun i => by
      by_cases hi : i < m
      · obtain ⟨a, h1, h2⟩ := ok_mono (hm i hi); exact ⟨a, fun _ => ⟨h1, h2⟩⟩
      · exact ⟨default, fun h => absurd h hi⟩)
    refine ⟨(List.range m).map g, fun a ha => ?_, CLe.rows (by simp) fun i j hi hj => CLe.of_eq ?_⟩
    · obtain ⟨i, hi, rfl⟩ := List.mem_map.1 ha
      exact (hg i (List.mem_range.1 hi)).2
    · have h1 := congrArg (fun l : List C => l[j]?) (hg i hi).1
      simp only [List.getElem?_map, List.getElem?_range hj, Option.map_some, Option.some.injEq] at h1
      rw [h1]
      congr 1
      rw [List.getD_eq_getElem?_getD, List.getElem?_map, List.getElem?_range hi]; rfl

/-- Where the polynomial is small, all is. -/
theorem small_ok {p : List Raw} {n d : Nat} (hn : n < 2 ^ 30) (hd : d < 2 ^ 30) (hp : RasOk p) (h : smallB n d p = true) : RsOk p ∧ p.length ≤ n ∧ ∀ m ∈ p, m.vs.length ≤ d ∧ m.xs.length ≤ 4 ∧ m.ys.length ≤ 4 := by
  unfold smallB at h
  simp only [Bool.and_eq_true, decide_eq_true_eq] at h
  obtain ⟨h1, h2⟩ := h
  have h3 : ∀ m ∈ p, m.vs.length ≤ d ∧ m.xs.length ≤ 4 ∧ m.ys.length ≤ 4 := by
    intro m hm
    obtain ⟨i, hi, rfl⟩ := List.mem_iff_getElem.1 hm
    have := all_range.1 h2 i hi
    rw [getD_eq hi] at this
    simpa using this
  refine ⟨⟨by omega, fun m hm => ?_⟩, h1, h3⟩
  have h4 := hp m hm
  have h5 := h3 m hm
  exact ⟨h4.x, h4.y, by omega, by omega, h4.v, by omega⟩

/-! ### EquationValid. -/
set_option maxHeartbeats 4000000 in
set_option maxRecDepth 10000 in
theorem lawValid_spec (p : List Raw) (hp : RasOk p) : PureCalls Tryz.prog 6 [RV p] (.one (.bool true)) := by
  refine pure_of_vc T_ok mixed Tryz.func6 rfl (by decide) _ (by simp [Tryz.ntmps6]) ⟨[0, 2, 9], []⟩ (by kernel_rfl) _ ?_
  show vc T Tryz.prog ⟨[0, 2, 9], []⟩ (Option.get! Tryz.f6.body) _ _
  simp only [Tryz.f6, Tryz.ntmps6, Option.get!, initSt, initM, envOf, Nat.reduceAdd]
  simp only [vx, T, s_i5, s_n0, s_i6, s_i7, ↓reduceIte, s_n1, s_n2, s_n3, s_n4, s_n5, s_n6, s_n7, s_n8, s_n9, reduceCtorEq, s_i1, s_i2, s_i3, s_i4]
  refine CallK.go awake_spec ?_
  simp only [vx, T, s_i5, s_n0, s_i6, s_i7, ↓reduceIte, s_n1, s_n2, s_n3, s_n4, s_n5, s_n6, s_n7, s_n8, s_n9, reduceCtorEq, s_i1, s_i2, s_i3, s_i4]
  refine CallK.go (SmallA_spec p 8 4 (by decide) (by decide)) ?_
  simp only [vx, T, s_i5, s_n0, s_i6, s_i7, ↓reduceIte, s_n1, s_n2, s_n3, s_n4, s_n5, s_n6, s_n7, s_n8, s_n9, reduceCtorEq, s_i1, s_i2, s_i3, s_i4]
  refine ⟨fun h1 => Later.go ?_, fun h1 => Later.go ?_⟩
  · simp only [vx, T, s_i5, s_n0, s_i6, s_i7, ↓reduceIte, s_n1, s_n2, s_n3, s_n4, s_n5, s_n6, s_n7, s_n8, s_n9, reduceCtorEq, s_i1, s_i2, s_i3, s_i4]
    refine CallK.go awake_spec ?_
    simp only [vx, T, s_i5, s_n0, s_i6, s_i7, ↓reduceIte, s_n1, s_n2, s_n3, s_n4, s_n5, s_n6, s_n7, s_n8, s_n9, reduceCtorEq, s_i1, s_i2, s_i3, s_i4]
    exact VLe.of_eq rfl
  · have hs : smallB 8 4 p = true := by simpa using h1
    obtain ⟨hok, _, _⟩ := small_ok (by decide) (by decide) hp hs
    simp only [vx, T, s_i5, s_n0, s_i6, s_i7, ↓reduceIte, s_n1, s_n2, s_n3, s_n4, s_n5, s_n6, s_n7, s_n8, s_n9, reduceCtorEq, s_i1, s_i2, s_i3, s_i4]
    refine CallK.go (ePValid_spec p hok) ?_
    simp only [vx, T, s_i5, s_n0, s_i6, s_i7, ↓reduceIte, s_n1, s_n2, s_n3, s_n4, s_n5, s_n6, s_n7, s_n8, s_n9, reduceCtorEq, s_i1, s_i2, s_i3, s_i4]
    refine CallK.go (rPValid_spec p hok) ?_
    simp only [vx, T, s_i5, s_n0, s_i6, s_i7, ↓reduceIte, s_n1, s_n2, s_n3, s_n4, s_n5, s_n6, s_n7, s_n8, s_n9, reduceCtorEq, s_i1, s_i2, s_i3, s_i4]
    exact vb (by simp)
end Go.Proofs.YtckikgkdplkopaaGreat
