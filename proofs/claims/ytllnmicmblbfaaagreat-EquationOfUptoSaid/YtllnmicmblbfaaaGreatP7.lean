/-
  EquationOf, where what it reads is of bulk at most 1048576: the law returns true, and its argument reads afterwards as it read before. No condition beyond the given row's own cells.
  (Text 7 of 9; made by a program out of smaller texts.)
-/
import Derived.Lib.AppendZerosOnto
import Derived.Lib.Walk
import Derived.Deep.Slices
import Derived.ChangeArms
import Derived.ChangeSame
import Derived.Below
import Derived.ProofKit
import Derived.Test.YtllnmicmblbfaaaGreatP6
set_option linter.unusedSimpArgs false
set_option linter.unusedVariables false
set_option maxHeartbeats 16000000
set_option maxRecDepth 10000
open Nat renaming reduceAdd → J1, reduceMul → J2, reduceSub → J3, reduceEqDiff → J4, reduceLT → J5, reduceLeDiff → J6, reduceBEq → J7, reduceDiv → J8, reduceMod → J9, reducePow → J0
open Int renaming reduceToNat → K1, reduceLE → K2, reduceLT → K3, reduceEq → K4, reducePow → K5, reduceSub → K6, reduceNeg → K7, natCast_add → X2, natCast_one → X3, natCast_zero → X4
open List renaming getD_cons_zero → X0, getD_cons_succ → X1, length_take → X5, length_append → X6, getD_eq_getElem?_getD → X7, getElem?_eq_getElem → X8
namespace Go.Proofs.YtllnmicmblbfaaaGreat
open Go Go.Eng
theorem swp_comm {xs : List Mono} {i j : Nat} (hi : i < xs.length) (hj : j < xs.length) : swp xs i j = swp xs j i := by
  refine list_ext_getD (by rw [swp_length, swp_length]) fun k _ => ?_
  rw [swp_get hi hj, swp_get hj hi]
  by_cases h1 : k = j
  · by_cases h2 : k = i
    · rw [if_pos h1, if_pos h2, ← h1, ← h2]
    · rw [if_pos h1, if_neg h2, if_pos h1]
  · rw [if_neg h1]
    by_cases h2 : k = i
    · rw [if_pos h2, if_pos h2]
    · rw [if_neg h2, if_neg h2, if_neg h1]
theorem ins_spec (xs : List Mono) {N : Nat} (hN : xs.length = N) (a b : Nat) (hab : a ≤ b) (hb : b ≤ N) (hl : N < 2 ^ 40) (hx : LOk xs) :
    Mc Tryz.prog 137 [.one (.own 0 5 0 N), .one (.int .i64 a), .one (.int .i64 b), .one cF] (.rows 47 5 N (fR xs)) (SymR xs N a b) := by
  refine mut_of_vc T_ok mixed Tryz.func137 rfl (by decide) _ (by simp [Tryz.ntmps137]) ⟨[0, 1, 2, 3, 8, 9, 14, 34], [(6, (.cons 15 [2, 3, 4, 16] (.cons 17 [] .nil .nil) .nil))]⟩ (by kernel_rfl) (.rows 47 5 N (fR xs)) trivial _ ?_
  show vc T _ _ (Option.get! Tryz.f137.body) _ _
  simp only [Tryz.f137,Tryz.ntmps137,Option.get!,iS,iM,eO,J1]
  have w1 : IntKind.i64.wrap ((a : Int) + 1) = ((a + 1 : Nat) : Int) := by rw [IntWalk.i64_in _ (by omega)]; omega
  simp only [vx,T,K5,J0,K6,K7,↓reduceIte,J1,J2,J3,J4,J5,J6,J7,J8,J9,reduceCtorEq,K1,K2,K3,K4,cF,w1]
  refine Lk (fun y : {y : Nat × List Mono // a + 1 ≤ y.1 ∧ y.1 ≤ max b (a + 1) ∧ Out xs y.2 a b ∧ Srt leM y.2 a y.1} => ⟨[(0, .one (.own 0 5 0 N)), (1, .one (.int .i64 a)), (2, .one (.int .i64 b)), (3, .one cF), (8, .one (.int .i64 y.1.1))], [(0, ⟨.rows 47 5 N (fR y.1.2), true⟩)], 1, 53⟩) (fun y => b - y.1.1) ⟨(a + 1, xs), Nat.le_refl _, by simp only; omega, .refl _ _ _, fun p q h1 h2 h3 => by simp only at h3; omega⟩ ?_ (fun ⟨⟨i, ys⟩, hi1, hi2, ho, hs⟩ => ?_)
  · refine Sa ?_; simp only [rx,Y0,Y1,Y2,Y3,Y4,Y5,Y6,Y7,ren,↓reduceIte,J1,J2,J3,J4,J5,J6,J7,J8,J9,reduceCtorEq,K1,K2,K3,K4,Y8,Y9,X2,X3,X4,cF]
  simp only at hi1 hi2 ho hs
  simp only [vx,T,K5,J0,K6,K7,↓reduceIte,J1,J2,J3,J4,J5,J6,J7,J8,J9,reduceCtorEq,K1,K2,K3,K4,cF]
  refine ⟨fun h1 => Lg ?_, fun h1 => Lg ?_⟩
  · have hib : i < b := by omega
    have i1 := wI i (by omega)
    simp only [vx,T,K5,J0,K6,K7,↓reduceIte,J1,J2,J3,J4,J5,J6,J7,J8,J9,reduceCtorEq,K1,K2,K3,K4,cF]
    refine Lk (fun y : {y : Nat × List Mono // Out xs y.2 a b ∧ Ins leM a i y.1 y.2} => ⟨[(0, .one (.own 0 5 0 N)), (1, .one (.int .i64 a)), (2, .one (.int .i64 b)), (3, .one cF), (8, .one (.int .i64 i)), (9, .one (.int .i64 y.1.1))], [(0, ⟨.rows 47 5 N (fR y.1.2), true⟩)], 1, 53⟩) (fun y => y.1.1) ⟨(i, ys), ho, Ins.init hs (by omega)⟩ ?_ (fun ⟨⟨k, zs⟩, hoz, hI⟩ => ?_)
    · refine Sa ?_; simp only [rx,Y0,Y1,Y2,Y3,Y4,Y5,Y6,Y7,ren,↓reduceIte,J1,J2,J3,J4,J5,J6,J7,J8,J9,reduceCtorEq,K1,K2,K3,K4,Y8,Y9,X2,X3,X4,cF]
    simp only at hoz hI
    have hki := hI.ki
    have hkl := hI.lok
    have hzl := hoz.1
    have hxz := hx.perm hoz.2.1
    simp only [vx,T,K5,J0,K6,K7,↓reduceIte,J1,J2,J3,J4,J5,J6,J7,J8,J9,reduceCtorEq,K1,K2,K3,K4,cF]
    refine ⟨fun h2 => Lg ?_, fun h2 => Lg ?_⟩
    · have k1 : IntKind.i64.wrap ((k : Int) - 1) = ((k - 1 : Nat) : Int) := by rw [IntWalk.i64_in _ (by omega)]; omega
      simp only [vx,T,K5,J0,K6,K7,↓reduceIte,J1,J2,J3,J4,J5,J6,J7,J8,J9,reduceCtorEq,K1,K2,K3,K4,cF,k1,fR0,fR1,fR2,fR3,fR4]
      refine ⟨by omega, by omega, Cg (cl1_spec (zs.getD k default) (zs.getD (k - 1) default) (hxz.get _) (hxz.get _)) ?_⟩
      simp only [vx,T,K5,J0,K6,K7,↓reduceIte,J1,J2,J3,J4,J5,J6,J7,J8,J9,reduceCtorEq,K1,K2,K3,K4,cF]
      refine ⟨fun h3 => Lg ?_, fun h3 => Lg ?_⟩
      · have hst := hI.step (by omega) (by omega) (leM_lt h3)
        rw [swp_comm (by omega) (by omega)] at hst
        simp only [vx,T,K5,J0,K6,K7,↓reduceIte,J1,J2,J3,J4,J5,J6,J7,J8,J9,reduceCtorEq,K1,K2,K3,K4,cF,k1,fR0,fR1,fR2,fR3,fR4]
        refine ⟨by omega, by omega, by omega, by omega, by omega, Lq ⟨(k - 1, swp zs k (k - 1)), hoz.swp (by omega) (by omega) (by omega) (by omega) (by omega), hst⟩ ?_ ?_⟩
        · refine Sa ?_; simp only [rx,Y0,Y1,Y2,Y3,Y4,Y5,Y6,Y7,ren,↓reduceIte,J1,J2,J3,J4,J5,J6,J7,J8,J9,reduceCtorEq,K1,K2,K3,K4,Y8,Y9,X2,X3,X4,cF]
          rw [← hN, ← hzl]
          exact swp_rows (by omega) (by omega)
        · simp only; omega
      · have hd := Ins.done (le := leM) (fun {_ _ _} h1 h2 => leM_tr h1 h2) hI (.inr (leM_ge h3))
        simp only [vx,T,K5,J0,K6,K7,↓reduceIte,J1,J2,J3,J4,J5,J6,J7,J8,J9,reduceCtorEq,K1,K2,K3,K4,cF]
        simp only [i1]
        refine Lq ⟨(i + 1, zs), by simp only; omega, by simp only; omega, hoz, hd⟩ ?_ ?_
        · refine Sa ?_; simp only [rx,Y0,Y1,Y2,Y3,Y4,Y5,Y6,Y7,ren,↓reduceIte,J1,J2,J3,J4,J5,J6,J7,J8,J9,reduceCtorEq,K1,K2,K3,K4,Y8,Y9,X2,X3,X4,cF]
        · simp only; omega
    · have hd := Ins.done (le := leM) (fun {_ _ _} h1 h2 => leM_tr h1 h2) hI (.inl (by omega))
      simp only [vx,T,K5,J0,K6,K7,↓reduceIte,J1,J2,J3,J4,J5,J6,J7,J8,J9,reduceCtorEq,K1,K2,K3,K4,cF]
      simp only [i1]
      refine Lq ⟨(i + 1, zs), by simp only; omega, by simp only; omega, hoz, hd⟩ ?_ ?_
      · refine Sa ?_; simp only [rx,Y0,Y1,Y2,Y3,Y4,Y5,Y6,Y7,ren,↓reduceIte,J1,J2,J3,J4,J5,J6,J7,J8,J9,reduceCtorEq,K1,K2,K3,K4,Y8,Y9,X2,X3,X4,cF]
      · simp only; omega
  · simp only [vx,T,K5,J0,K6,K7,↓reduceIte,J1,J2,J3,J4,J5,J6,J7,J8,J9,reduceCtorEq,K1,K2,K3,K4,cF]
    exact ⟨ys, rfl, rfl, ho, hs.mono (Nat.le_refl _) (by omega)⟩
theorem dvd_step {d p a : Nat} (hp : d ∣ p) (ha : d ∣ a) (h : p < a) : p + d ≤ a := by
  have h1 : d ∣ a - p := Nat.dvd_sub ha hp
  have h2 := Nat.le_of_dvd (by omega) h1
  omega
def SB2 (ys : List Mono) (bs lo hi N : Nat) : Prop := ∀ p, bs ∣ p → lo ≤ p → p < hi → Srt leM ys p (min (p + bs) N)
theorem SB2.first {ys zs : List Mono} {a N : Nat} (h : SB2 ys 20 0 a N) (ha : 20 ∣ a) (ho : Out ys zs a (a + 20)) (hs : Srt leM zs a (a + 20)) : SB2 zs 20 0 (a + 20) N := by
  intro p hp h1 h2
  by_cases h3 : p < a
  · have := dvd_step hp ha h3
    exact (h p hp h1 h3).out ho (.inl (by omega))
  · by_cases h4 : p = a
    · subst h4; exact hs.mono (Nat.le_refl _) (by omega)
    · have := dvd_step ha hp (by omega)
      omega
theorem SB2.last {ys zs : List Mono} {a N : Nat} (h : SB2 ys 20 0 a N) (ha : 20 ∣ a) (hN : N < a + 20) (ho : Out ys zs a N) (hs : Srt leM zs a N) : SB2 zs 20 0 N N := by
  intro p hp h1 h2
  by_cases h3 : p < a
  · have := dvd_step hp ha h3
    exact (h p hp h1 h3).out ho (.inl (by omega))
  · by_cases h4 : p = a
    · subst h4; exact hs.mono (Nat.le_refl _) (by omega)
    · have := dvd_step ha hp (by omega)
      omega
theorem SB2.merge {ys zs : List Mono} {a b bs N : Nat} (h : SB2 ys (2 * bs) 0 a N) (ha : 2 * bs ∣ a) (hb : b = min (a + 2 * bs) N) (ho : Out ys zs a b) (hs : Srt leM zs a b) : SB2 zs (2 * bs) 0 b N := by
  intro p hp h1 h2
  by_cases h3 : p < a
  · have := dvd_step hp ha h3
    exact (h p hp h1 h3).out ho (.inl (by omega))
  · by_cases h4 : p = a
    · subst h4; exact hs.mono (Nat.le_refl _) (by omega)
    · have := dvd_step ha hp (by omega)
      omega
theorem SB2.rest {ys zs : List Mono} {a b bs N : Nat} (h : SB2 ys bs a N N) (hb : a ≤ b) (ho : Out ys zs a b) : SB2 zs bs b N N := by
  intro p hp h1 h2
  exact (h p hp (by omega) h2).out ho (.inr h1)
def StabR (xs : List Mono) (N : Nat) (r : V) (B' : Bk) : Prop := ∃ ys, r = .tup [] ∧ B' = .rows 47 5 N (fR ys) ∧ ys.Perm xs ∧ Srt leM ys 0 N
theorem stable_spec (xs : List Mono) {N : Nat} (hN : xs.length = N) (hl : N < 2 ^ 38) (hx : LOk xs) :
    Mc Tryz.prog 109 [.one (.own 0 5 0 N), .one (.int .i64 N), .one cF] (.rows 47 5 N (fR xs)) (StabR xs N) := by
  refine mut_of_vc T_ok mixed Tryz.func109 rfl (by decide) _ (by simp [Tryz.ntmps109]) ⟨[0, 1, 2, 6, 7, 8, 9, 13, 30, 35, 54], []⟩ (by kernel_rfl) (.rows 47 5 N (fR xs)) trivial _ ?_
  show vc T _ _ (Option.get! Tryz.f109.body) _ _
  simp only [Tryz.f109,Tryz.ntmps109,Option.get!,iS,iM,eO,J1]
  simp only [vx,T,K5,J0,K6,K7,↓reduceIte,J1,J2,J3,J4,J5,J6,J7,J8,J9,reduceCtorEq,K1,K2,K3,K4,cF]
  refine Lk (fun y : {y : Nat × List Mono // 20 ∣ y.1 ∧ y.1 ≤ N ∧ y.2.Perm xs ∧ SB2 y.2 20 0 y.1 N} => ⟨[(0, .one (.own 0 5 0 N)), (1, .one (.int .i64 N)), (2, .one cF), (6, .one (.int .i64 20)), (7, .one (.int .i64 y.1.1)), (8, .one (.int .i64 (y.1.1 + 20 : Nat)))], [(0, ⟨.rows 47 5 N (fR y.1.2), true⟩)], 1, 63⟩) (fun y => N - y.1.1) ⟨(0, xs), Nat.dvd_zero _, Nat.zero_le _, .refl _, fun p _ _ h => absurd h (Nat.not_lt_zero _)⟩ ?_ (fun ⟨⟨a, ys⟩, ha, haN, hp, hs⟩ => ?_)
  · refine Sa ?_; simp only [rx,Y0,Y1,Y2,Y3,Y4,Y5,Y6,Y7,ren,↓reduceIte,J1,J2,J3,J4,J5,J6,J7,J8,J9,reduceCtorEq,K1,K2,K3,K4,Y8,Y9,X2,X3,X4,cF]
    rfl
  simp only at ha haN hp hs
  have hyN : ys.length = N := hp.length_eq.trans hN
  simp only [vx,T,K5,J0,K6,K7,↓reduceIte,J1,J2,J3,J4,J5,J6,J7,J8,J9,reduceCtorEq,K1,K2,K3,K4,cF]
  refine ⟨fun h1 => Lg ?_, fun h1 => Lg ?_⟩
  · have w1 : IntKind.i64.wrap (((a + 20 : Nat) : Int) + 20) = ((a + 20 + 20 : Nat) : Int) := by rw [IntWalk.i64_in _ (by omega)]; omega
    simp only [vx,T,K5,J0,K6,K7,↓reduceIte,J1,J2,J3,J4,J5,J6,J7,J8,J9,reduceCtorEq,K1,K2,K3,K4,cF]
    refine Cm 0 rfl trivial (ins_spec ys hyN a (a + 20) (by omega) (by omega) (by omega) (hx.perm hp)) ?_
    rintro _ _ ⟨zs, rfl, rfl, ho, hz⟩ _
    simp only [vx,T,K5,J0,K6,K7,↓reduceIte,J1,J2,J3,J4,J5,J6,J7,J8,J9,reduceCtorEq,K1,K2,K3,K4,cF]
    simp only [w1]
    refine Lq ⟨(a + 20, zs), Nat.dvd_add ha (Nat.dvd_refl _), by simp only; omega, ho.2.1.trans hp, hs.first ha ho hz⟩ ?_ ?_
    · refine Sa ?_; simp only [rx,Y0,Y1,Y2,Y3,Y4,Y5,Y6,Y7,ren,↓reduceIte,J1,J2,J3,J4,J5,J6,J7,J8,J9,reduceCtorEq,K1,K2,K3,K4,Y8,Y9,X2,X3,X4,cF]
    · simp only; omega
  · simp only [vx,T,K5,J0,K6,K7,↓reduceIte,J1,J2,J3,J4,J5,J6,J7,J8,J9,reduceCtorEq,K1,K2,K3,K4,cF]
    refine Cm 0 rfl trivial (ins_spec ys hyN a N haN (Nat.le_refl _) (by omega) (hx.perm hp)) ?_
    rintro _ _ ⟨zs, rfl, rfl, ho, hz⟩ _
    have hs2 := hs.last ha (by omega) ho hz
    have hp2 := ho.2.1.trans hp
    simp only [vx,T,K5,J0,K6,K7,↓reduceIte,J1,J2,J3,J4,J5,J6,J7,J8,J9,reduceCtorEq,K1,K2,K3,K4,cF]
    refine Lk (fun y : {y : Nat × List Mono // 0 < y.1 ∧ y.1 < 2 ^ 40 ∧ y.2.Perm xs ∧ SB2 y.2 y.1 0 N N} => ⟨[(0, .one (.own 0 5 0 N)), (1, .one (.int .i64 N)), (2, .one cF), (6, .one (.int .i64 y.1.1))], [(0, ⟨.rows 47 5 N (fR y.1.2), true⟩)], 1, 63⟩) (fun y => N - y.1.1) ⟨(20, zs), by simp only; omega, by simp only; omega, hp2, hs2⟩ ?_ (fun ⟨⟨bs, ws⟩, hb0, hb1, hpw, hsw⟩ => ?_)
    · refine Sa ?_; simp only [rx,Y0,Y1,Y2,Y3,Y4,Y5,Y6,Y7,ren,↓reduceIte,J1,J2,J3,J4,J5,J6,J7,J8,J9,reduceCtorEq,K1,K2,K3,K4,Y8,Y9,X2,X3,X4,cF]
      rfl
    simp only at hb0 hb1 hpw hsw
    simp only [vx,T,K5,J0,K6,K7,↓reduceIte,J1,J2,J3,J4,J5,J6,J7,J8,J9,reduceCtorEq,K1,K2,K3,K4,cF]
    refine ⟨fun h2 => Lg ?_, fun h2 => Lg ?_⟩
    · have w2 : IntKind.i64.wrap (2 * (bs : Int)) = ((2 * bs : Nat) : Int) := by rw [IntWalk.i64_in _ (by omega)]; omega
      have w2' : IntKind.i64.wrap ((bs : Int) * 2) = ((2 * bs : Nat) : Int) := by rw [IntWalk.i64_in _ (by omega)]; omega
      simp only [vx,T,K5,J0,K6,K7,↓reduceIte,J1,J2,J3,J4,J5,J6,J7,J8,J9,reduceCtorEq,K1,K2,K3,K4,cF,w2]
      refine Lk (fun y : {y : Nat × List Mono // 2 * bs ∣ y.1 ∧ y.1 ≤ N ∧ y.2.Perm xs ∧ SB2 y.2 (2 * bs) 0 y.1 N ∧ SB2 y.2 bs y.1 N N} => ⟨[(0, .one (.own 0 5 0 N)), (1, .one (.int .i64 N)), (2, .one cF), (6, .one (.int .i64 bs)), (7, .one (.int .i64 y.1.1)), (8, .one (.int .i64 (y.1.1 + 2 * bs : Nat)))], [(0, ⟨.rows 47 5 N (fR y.1.2), true⟩)], 1, 63⟩) (fun y => N - y.1.1) ⟨(0, ws), Nat.dvd_zero _, Nat.zero_le _, hpw, fun p _ _ h => absurd h (Nat.not_lt_zero _), hsw⟩ ?_ (fun ⟨⟨c, us⟩, hc, hcN, hpu, hsu, hru⟩ => ?_)
      · refine Sa ?_; simp only [rx,Y0,Y1,Y2,Y3,Y4,Y5,Y6,Y7,ren,↓reduceIte,J1,J2,J3,J4,J5,J6,J7,J8,J9,reduceCtorEq,K1,K2,K3,K4,Y8,Y9,X2,X3,X4,cF,Nat.zero_add]
      simp only at hc hcN hpu hsu hru
      have huN : us.length = N := hpu.length_eq.trans hN
      have hcb : bs ∣ c := Nat.dvd_trans (Nat.dvd_mul_left _ _) hc
      have w3 : IntKind.i64.wrap ((c : Int) + bs) = ((c + bs : Nat) : Int) := by rw [IntWalk.i64_in _ (by omega)]; omega
      simp only [vx,T,K5,J0,K6,K7,↓reduceIte,J1,J2,J3,J4,J5,J6,J7,J8,J9,reduceCtorEq,K1,K2,K3,K4,cF]
      refine ⟨fun h3 => Lg ?_, fun h3 => Lg ?_⟩
      · have w4 : IntKind.i64.wrap (((c + 2 * bs : Nat) : Int) + ((2 * bs : Nat) : Int)) = ((c + 2 * bs + 2 * bs : Nat) : Int) := by rw [IntWalk.i64_in _ (by omega)]; omega
        simp only [vx,T,K5,J0,K6,K7,↓reduceIte,J1,J2,J3,J4,J5,J6,J7,J8,J9,reduceCtorEq,K1,K2,K3,K4,cF,w2,w3]
        have g1 : Srt leM us c (c + bs) := (hru c hcb (Nat.le_refl _) (by omega)).mono (Nat.le_refl _) (by omega)
        have g2 : Srt leM us (c + bs) (c + 2 * bs) := (hru (c + bs) (Nat.dvd_add hcb (Nat.dvd_refl _)) (by omega) (by omega)).mono (Nat.le_refl _) (by omega)
        refine Cm 0 rfl trivial (sym_spec (c + 2 * bs - c) us huN c (c + bs) (c + 2 * bs) (by omega) (by omega) (by omega) (by omega) (Nat.le_refl _) (hx.perm hpu) g1 g2) ?_
        rintro _ _ ⟨vs, rfl, rfl, ho3, hv⟩ _
        simp only [vx,T,K5,J0,K6,K7,↓reduceIte,J1,J2,J3,J4,J5,J6,J7,J8,J9,reduceCtorEq,K1,K2,K3,K4,cF,w2]
        simp only [w4]
        refine Lq ⟨(c + 2 * bs, vs), Nat.dvd_add hc (Nat.dvd_refl _), by simp only; omega, ho3.2.1.trans hpu, hsu.merge hc (by omega) ho3 hv, hru.rest (by omega) ho3⟩ ?_ ?_
        · refine Sa ?_; simp only [rx,Y0,Y1,Y2,Y3,Y4,Y5,Y6,Y7,ren,↓reduceIte,J1,J2,J3,J4,J5,J6,J7,J8,J9,reduceCtorEq,K1,K2,K3,K4,Y8,Y9,X2,X3,X4,cF]
        · simp only; omega
      · simp only [vx,T,K5,J0,K6,K7,↓reduceIte,J1,J2,J3,J4,J5,J6,J7,J8,J9,reduceCtorEq,K1,K2,K3,K4,cF,w3]
        refine ⟨fun h4 => Lg ?_, fun h4 => Lg ?_⟩
        · simp only [vx,T,K5,J0,K6,K7,↓reduceIte,J1,J2,J3,J4,J5,J6,J7,J8,J9,reduceCtorEq,K1,K2,K3,K4,cF]
          have g1 : Srt leM us c (c + bs) := (hru c hcb (Nat.le_refl _) (by omega)).mono (Nat.le_refl _) (by omega)
          have g2 : Srt leM us (c + bs) N := (hru (c + bs) (Nat.dvd_add hcb (Nat.dvd_refl _)) (by omega) (by omega)).mono (Nat.le_refl _) (by omega)
          refine Cm 0 rfl trivial (sym_spec (N - c) us huN c (c + bs) N (by omega) (by omega) (Nat.le_refl _) (by omega) (Nat.le_refl _) (hx.perm hpu) g1 g2) ?_
          rintro _ _ ⟨vs, rfl, rfl, ho3, hv⟩ _
          simp only [vx,T,K5,J0,K6,K7,↓reduceIte,J1,J2,J3,J4,J5,J6,J7,J8,J9,reduceCtorEq,K1,K2,K3,K4,cF]
          simp only [w2']
          refine Lq ⟨(2 * bs, vs), by simp only; omega, by simp only; omega, ho3.2.1.trans hpu, hsu.merge hc (by omega) ho3 hv⟩ ?_ ?_
          · refine Sa ?_; simp only [rx,Y0,Y1,Y2,Y3,Y4,Y5,Y6,Y7,ren,↓reduceIte,J1,J2,J3,J4,J5,J6,J7,J8,J9,reduceCtorEq,K1,K2,K3,K4,Y8,Y9,X2,X3,X4,cF]
          · simp only; omega
        · have g1 : Srt leM us c N := by
            by_cases h5 : c < N
            · exact (hru c hcb (Nat.le_refl _) h5).mono (Nat.le_refl _) (by omega)
            · intro p q h6 h7 h8; omega
          simp only [vx,T,K5,J0,K6,K7,↓reduceIte,J1,J2,J3,J4,J5,J6,J7,J8,J9,reduceCtorEq,K1,K2,K3,K4,cF]
          simp only [w2']
          refine Lq ⟨(2 * bs, us), by simp only; omega, by simp only; omega, hpu, hsu.merge hc (by omega) (Out.refl _ _ _) g1⟩ ?_ ?_
          · refine Sa ?_; simp only [rx,Y0,Y1,Y2,Y3,Y4,Y5,Y6,Y7,ren,↓reduceIte,J1,J2,J3,J4,J5,J6,J7,J8,J9,reduceCtorEq,K1,K2,K3,K4,Y8,Y9,X2,X3,X4,cF]
          · simp only; omega
    · have g1 : Srt leM ws 0 N := by
        by_cases h5 : 0 < N
        · exact (hsw 0 (Nat.dvd_zero _) (Nat.le_refl _) h5).mono (Nat.le_refl _) (by omega)
        · intro p q h6 h7 h8; omega
      simp only [vx,T,K5,J0,K6,K7,↓reduceIte,J1,J2,J3,J4,J5,J6,J7,J8,J9,reduceCtorEq,K1,K2,K3,K4,cF]
      exact ⟨ws, rfl, rfl, hpw, g1⟩
theorem SortStable_spec (xs : List Mono) {N : Nat} (hN : xs.length = N) (hl : N < 2 ^ 38) (hx : LOk xs) :
    Mc Tryz.prog 77 [.one (.own 0 5 0 N), .one cF] (.rows 47 5 N (fR xs)) (StabR xs N) := by
  refine mut_of_vc T_ok mixed Tryz.func77 rfl (by decide) _ (by simp [Tryz.ntmps77]) ⟨[0, 1], []⟩ (by kernel_rfl) (.rows 47 5 N (fR xs)) trivial _ ?_
  show vc T _ _ (Option.get! Tryz.f77.body) _ _
  simp only [Tryz.f77,Tryz.ntmps77,Option.get!,iS,iM,eO,J1]
  simp only [vx,T,K5,J0,K6,K7,↓reduceIte,J1,J2,J3,J4,J5,J6,J7,J8,J9,reduceCtorEq,K1,K2,K3,K4,cF]
  refine Cm 0 rfl trivial (stable_spec xs hN hl hx) ?_
  rintro _ _ ⟨ys, rfl, rfl, h1, h2⟩ _
  simp only [vx,T,K5,J0,K6,K7,↓reduceIte,J1,J2,J3,J4,J5,J6,J7,J8,J9,reduceCtorEq,K1,K2,K3,K4,cF]
  exact ⟨ys, rfl, rfl, h1, h2⟩
open Go Go.Eng
def qz (m : Mono) : Bool := decide (m.1 = 0)
def qn (m : Mono) : Bool := decide (m.1 ≠ 0)
def ixz (xs : List Mono) : Int := if xs.findIdx qz < xs.length then (xs.findIdx qz : Int) else -1
def cG : C := .fn 82 0 (fun _ => .any)
def QOk (xs : List Mono) : Prop := ∀ m ∈ xs, qm m.1 < 2 ^ 36
theorem QOk.get {xs : List Mono} (h : QOk xs) (k : Nat) : qm (xs.getD k default).1 < 2 ^ 36 := by
  rw [X7]
  cases hg : xs[k]? with
  | none => exact Nat.lt_of_le_of_lt (qm_ofInt (z := 0) (by decide)) (by decide)
  | some m => exact h m (List.mem_of_getElem? hg)
theorem IndexFunc_spec (xs : List Mono) {N : Nat} (hN : xs.length = N) (hl : N < 2 ^ 38) (hx : QOk xs) :
    Pr Tryz.prog 111 [.one (.rows 5 N (fR xs)), .one cG] (.one (.int .i64 (ixz xs))) := by
  refine pv T_ok mixed Tryz.func111 rfl (by decide) _ (by simp [Tryz.ntmps111]) ⟨[0, 1, 4, 5, 7, 8, 9, 16], []⟩ (by kernel_rfl) _ ?_
  show vc T _ _ (Option.get! Tryz.f111.body) _ _
  simp only [Tryz.f111,Tryz.ntmps111,Option.get!,iS,iM,eO,J1]
  simp only [vx,T,K5,J0,K6,K7,↓reduceIte,J1,J2,J3,J4,J5,J6,J7,J8,J9,reduceCtorEq,K1,K2,K3,K4,cG]
  refine Lk (fun y : {i : Nat // i ≤ N ∧ ∀ k, k < i → qz (xs.getD k default) = false} => ⟨[(0, .one (.rows 5 N (fR xs))), (1, .one cG), (7, .one (.int .i64 N)), (8, .one (.int .i64 y.1))], [], 1, 19⟩) (fun y => N - y.1) ⟨0, Nat.zero_le _, fun k h => absurd h (Nat.not_lt_zero _)⟩ ?_ (fun ⟨i, hi, hz⟩ => ?_)
  · refine Sa ?_; simp only [rx,Y0,Y1,Y2,Y3,Y4,Y5,Y6,Y7,ren,↓reduceIte,J1,J2,J3,J4,J5,J6,J7,J8,J9,reduceCtorEq,K1,K2,K3,K4,Y8,Y9,X2,X3,X4,cG]
  have i1 := wI i (by omega)
  simp only [vx,T,K5,J0,K6,K7,↓reduceIte,J1,J2,J3,J4,J5,J6,J7,J8,J9,reduceCtorEq,K1,K2,K3,K4,cG]
  refine ⟨fun h1 => Lg ?_, fun h1 => Lg ?_⟩
  · simp only [vx,T,K5,J0,K6,K7,↓reduceIte,J1,J2,J3,J4,J5,J6,J7,J8,J9,reduceCtorEq,K1,K2,K3,K4,cG,fR0,fR1,fR2,fR3,fR4]
    refine ⟨by omega, Cg (cl2_spec (xs.getD i default) (hx.get i)) ?_⟩
    simp only [vx,T,K5,J0,K6,K7,↓reduceIte,J1,J2,J3,J4,J5,J6,J7,J8,J9,reduceCtorEq,K1,K2,K3,K4,cG]
    refine ⟨fun h2 => Lg ?_, fun h2 => Lg ?_⟩
    · have e1 : xs.findIdx qz = i := by
        rw [List.findIdx_eq (by omega)]
        refine ⟨by rw [← getD_eq (by omega)]; simpa [qz] using h2, fun j hj => ?_⟩
        rw [← getD_eq (by omega)]; exact hz j hj
      have e2 : ixz xs = i := by unfold ixz; rw [e1, if_pos (by omega)]
      simp only [vx,T,K5,J0,K6,K7,↓reduceIte,J1,J2,J3,J4,J5,J6,J7,J8,J9,reduceCtorEq,K1,K2,K3,K4,cG,e2]
      exact Ve rfl
    · simp only [vx,T,K5,J0,K6,K7,↓reduceIte,J1,J2,J3,J4,J5,J6,J7,J8,J9,reduceCtorEq,K1,K2,K3,K4,cG]
      simp only [i1]
      refine Lq ⟨i + 1, by omega, fun k hk => ?_⟩ ?_ ?_
      · by_cases h3 : k < i
        · exact hz k h3
        · rw [show k = i by omega]; simpa [qz] using h2
      · refine Sa ?_; simp only [rx,Y0,Y1,Y2,Y3,Y4,Y5,Y6,Y7,ren,↓reduceIte,J1,J2,J3,J4,J5,J6,J7,J8,J9,reduceCtorEq,K1,K2,K3,K4,Y8,Y9,X2,X3,X4,cG]
      · simp only; omega
  · have e1 : xs.findIdx qz = xs.length := by
      rw [List.findIdx_eq_length]
      intro x hx
      obtain ⟨k, hk, rfl⟩ := List.mem_iff_getElem.1 hx
      rw [← getD_eq hk]; exact hz k (by omega)
    have e2 : ixz xs = -1 := by unfold ixz; rw [if_neg (by omega)]
    simp only [vx,T,K5,J0,K6,K7,↓reduceIte,J1,J2,J3,J4,J5,J6,J7,J8,J9,reduceCtorEq,K1,K2,K3,K4,cG,e2]
    exact Ve rfl
def DelR (xs : List Mono) (N : Nat) (r : V) (B' : Bk) : Prop := ∃ k f, r = .one (.own 0 5 0 k) ∧ B' = .rows 47 5 N f ∧ k ≤ N ∧ k = (xs.filter qn).length ∧ ∀ i j, i < k → j < 5 → f i j = fR (xs.filter qn) i j
theorem qn_qz (m : Mono) : qn m = !qz m := by unfold qn qz; by_cases h : m.1 = 0 <;> simp [h]
theorem take_set_step {ys : List Mono} {i : Nat} {x : Mono} (hi : i < ys.length) : (ys.set i x).take (i + 1) = ys.take i ++ [x] := by
  rw [List.take_add_one, List.take_set_of_le (Nat.le_refl _), List.getElem?_set_self hi]; rfl
theorem fR_take {ys zs : List Mono} {k : Nat} (h : ys.take k = zs) {i j : Nat} (hi : i < k) : fR ys i j = fR zs i j := by
  unfold fR
  rw [← h, X7, X7, List.getElem?_take_of_lt hi]
theorem DeleteFunc_spec (xs : List Mono) {N : Nat} (hN : xs.length = N) (hl : N < 2 ^ 38) (hx : QOk xs) :
    Mc Tryz.prog 81 [.one (.own 0 5 0 N), .one cG] (.rows 47 5 N (fR xs)) (DelR xs N) := by
  refine mut_of_vc T_ok mixed Tryz.func81 rfl (by decide) _ (by simp [Tryz.ntmps81]) ⟨[0, 1, 4, 5, 6, 7, 12, 19, 29], []⟩ (by kernel_rfl) (.rows 47 5 N (fR xs)) trivial _ ?_
  show vc T _ _ (Option.get! Tryz.f81.body) _ _
  simp only [Tryz.f81,Tryz.ntmps81,Option.get!,iS,iM,eO,J1]
  simp only [vx,T,K5,J0,K6,K7,↓reduceIte,J1,J2,J3,J4,J5,J6,J7,J8,J9,reduceCtorEq,K1,K2,K3,K4,cG]
  refine Cg (Pr.arg2c (IndexFunc_spec xs hN hl hx) (CLe.rows rfl fun i j _ _ => CLe.of_eq (by simp)) (CLe.refl _)) ?_
  simp only [vx,T,K5,J0,K6,K7,↓reduceIte,J1,J2,J3,J4,J5,J6,J7,J8,J9,reduceCtorEq,K1,K2,K3,K4,cG]
  refine ⟨fun h1 => Lg ?_, fun h1 => Lg ?_⟩
  · have hall : xs.filter qn = xs := by
      unfold ixz at h1
      split at h1
      · omega
      · rename_i h2
        have h3 : xs.findIdx qz = xs.length := Nat.le_antisymm List.findIdx_le_length (by omega)
        rw [List.filter_eq_self]
        intro m hm
        rw [qn_qz, List.findIdx_eq_length.1 h3 m hm]; rfl
    simp only [vx,T,K5,J0,K6,K7,↓reduceIte,J1,J2,J3,J4,J5,J6,J7,J8,J9,reduceCtorEq,K1,K2,K3,K4,cG]
    exact ⟨N, _, rfl, rfl, Nat.le_refl _, by rw [hall, hN], fun i j _ _ => by rw [hall]⟩
  · have h2 : xs.findIdx qz < xs.length := by
      unfold ixz at h1
      split at h1
      · assumption
      · exact absurd rfl h1
    have e1 : ixz xs = (xs.findIdx qz : Int) := by unfold ixz; rw [if_pos h2]
    obtain ⟨k, hk⟩ : ∃ k, k = xs.findIdx qz := ⟨_, rfl⟩
    rw [← hk] at h2 e1
    have hp := List.findIdx_eq (xs := xs) (p := qz) h2 |>.1 hk.symm
    have htk : xs.take k = (xs.take (k + 1)).filter qn := by
      rw [take_step h2, List.filter_append]
      have f1 : (xs.take k).filter qn = xs.take k := by
        rw [List.filter_eq_self]
        intro m hm
        obtain ⟨j, hj, rfl⟩ := List.mem_iff_getElem.1 hm
        rw [X5] at hj
        rw [List.getElem_take, qn_qz, hp.2 j (by omega)]; rfl
      have f2 : [xs.getD k default].filter qn = [] := by
        rw [List.filter_cons_of_neg (by rw [qn_qz, getD_eq h2, hp.1]; simp)]; rfl
      rw [f1, f2, List.append_nil]
    have w1 : IntKind.i64.wrap ((k : Int) + 1) = ((k + 1 : Nat) : Int) := by rw [IntWalk.i64_in _ (by omega)]; omega
    rw [e1]
    simp only [vx,T,K5,J0,K6,K7,↓reduceIte,J1,J2,J3,J4,J5,J6,J7,J8,J9,reduceCtorEq,K1,K2,K3,K4,cG,w1]
    refine Lk (fun y : {y : Nat × Nat × List Mono // y.2.1 < y.1 ∧ y.1 ≤ N ∧ y.2.2.length = N ∧ y.2.2.take y.2.1 = (xs.take y.1).filter qn ∧ ∀ c, y.1 ≤ c → y.2.2.getD c default = xs.getD c default} => ⟨[(0, .one (.own 0 5 0 N)), (1, .one cG), (5, .one (.int .i64 y.1.2.1)), (6, .one (.int .i64 y.1.1))], [(0, ⟨.rows 47 5 N (fR y.1.2.2), true⟩)], 1, 42⟩) (fun y => N - y.1.1) ⟨(k + 1, k, xs), by simp only; omega, by simp only; omega, hN, htk, fun _ _ => rfl⟩ ?_ (fun ⟨⟨j, i, ys⟩, hij, hj, hyl, ht, hr⟩ => ?_)
    · refine Sa ?_; simp only [rx,Y0,Y1,Y2,Y3,Y4,Y5,Y6,Y7,ren,↓reduceIte,J1,J2,J3,J4,J5,J6,J7,J8,J9,reduceCtorEq,K1,K2,K3,K4,Y8,Y9,X2,X3,X4,cG]
    simp only at hij hj hyl ht hr
    simp only [vx,T,K5,J0,K6,K7,↓reduceIte,J1,J2,J3,J4,J5,J6,J7,J8,J9,reduceCtorEq,K1,K2,K3,K4,cG]
    refine ⟨fun h3 => Lg ?_, fun h3 => Lg ?_⟩
    · have hjN : j < N := by omega
      have j1 : IntKind.i64.wrap ((j : Int) + 1) = ((j + 1 : Nat) : Int) := by rw [IntWalk.i64_in _ (by omega)]; omega
      have i1 := wI i (by omega)
      obtain ⟨a, ha⟩ : ∃ a, a = ys.getD j default := ⟨_, rfl⟩
      have hax : a = xs.getD j default := by rw [ha]; exact hr j (Nat.le_refl _)
      have hts : (xs.take (j + 1)).filter qn = ys.take i ++ (if qn a then [a] else []) := by
        rw [take_step (by omega), List.filter_append, ← ht, ← hax]
        congr 1
        cases hq : qn a
        · rw [List.filter_cons_of_neg (by simp [hq])]; rfl
        · rw [List.filter_cons_of_pos hq]; rfl
      simp only [vx,T,K5,J0,K6,K7,↓reduceIte,J1,J2,J3,J4,J5,J6,J7,J8,J9,reduceCtorEq,K1,K2,K3,K4,cG,fR0,fR1,fR2,fR3,fR4,← ha]
      refine ⟨by omega, Cg (cl2_spec a (by rw [hax]; exact hx.get j)) ?_⟩
      simp only [vx,T,K5,J0,K6,K7,↓reduceIte,J1,J2,J3,J4,J5,J6,J7,J8,J9,reduceCtorEq,K1,K2,K3,K4,cG]
      refine ⟨fun h4 => Lg ?_, fun h4 => Lg ?_⟩
      · have h4 : qn a = true := by unfold qn; simpa using h4
        rw [if_pos h4] at hts
        simp only [vx,T,K5,J0,K6,K7,↓reduceIte,J1,J2,J3,J4,J5,J6,J7,J8,J9,reduceCtorEq,K1,K2,K3,K4,cG,← ha]
        simp only [i1,j1]
        refine ⟨by omega, Lq ⟨(j + 1, i + 1, ys.set i a), by simp only; omega, by simp only; omega, by rw [List.length_set]; exact hyl, by rw [hts]; exact take_set_step (by omega), fun c hc => ?_⟩ ?_ ?_⟩
        · simp only at hc ⊢
          rw [getD_set_other (by omega)]; exact hr c (by omega)
        · refine Sa ?_; simp only [rx,Y0,Y1,Y2,Y3,Y4,Y5,Y6,Y7,ren,↓reduceIte,J1,J2,J3,J4,J5,J6,J7,J8,J9,reduceCtorEq,K1,K2,K3,K4,Y8,Y9,X2,X3,X4,cG]
          intro i' j' hi' hj'
          exact set_mono (by omega) a i' j' hj'
        · simp only; omega
      · have h4 : qn a = false := by unfold qn; simpa using h4
        rw [h4, if_neg (by simp), List.append_nil] at hts
        simp only [vx,T,K5,J0,K6,K7,↓reduceIte,J1,J2,J3,J4,J5,J6,J7,J8,J9,reduceCtorEq,K1,K2,K3,K4,cG]
        simp only [j1]
        refine Lq ⟨(j + 1, i, ys), by simp only; omega, by simp only; omega, hyl, by rw [hts], fun c hc => hr c (by simp only at hc; omega)⟩ ?_ ?_
        · refine Sa ?_; simp only [rx,Y0,Y1,Y2,Y3,Y4,Y5,Y6,Y7,ren,↓reduceIte,J1,J2,J3,J4,J5,J6,J7,J8,J9,reduceCtorEq,K1,K2,K3,K4,Y8,Y9,X2,X3,X4,cG]
        · simp only; omega
    · have hjN : j = N := by omega
      rw [hjN, ← hN, List.take_length] at ht
      have hlen : i = (xs.filter qn).length := by rw [← ht, X5]; omega
      simp only [vx,T,K5,J0,K6,K7,↓reduceIte,J1,J2,J3,J4,J5,J6,J7,J8,J9,reduceCtorEq,K1,K2,K3,K4,cG]
      refine ⟨by omega, by omega, ?_⟩
      refine ⟨i, _, rfl, rfl, by omega, hlen, fun i' j' hi' hj' => ?_⟩
      unfold clrF
      rw [if_neg (by omega)]
      exact fR_take ht hi'
open Go Go.Proofs Go.RowKit Go.Eng
set_option maxRecDepth 100000 in
theorem growP_walk (k : Nat) (h0 : 0 < k) (hb : k * 88 ≤ 140737488355328) (w : World) (i : TypeInfo) (z : Value) (hi : Tryz.prog.info? 47 = some i) (hz : i.zero = some z) (hs : i.size = 5) (hby : i.bytes = 88) :
    Calls Tryz.prog 92 #[.slice none 0 0, .int .i64 k] w fun e w' => e = .returned (.slice (some ⟨w.heap.size, 0, none⟩) 0 (grownCap w k 0 47)) ∧
      w' = w.drew.alloc (.cells (Builtin.zeroCells z.cells k ++ Builtin.zeroCells z.cells (grownCap w k 0 47 - k)) 47) := by
  have h1 : ¬ ((k : Int) < 0) := by omega
  have h3 : wrap64 ((k : Int) - (((0 : Nat) : Int) - ((0 : Nat) : Int))) = (k : Int) := by unfold wrap64; omega
  have h4 : (k : Int) > 0 := by omega
  have hrz : ∀ ty, (Builtin.append_ #[33, 3] ty #[.slice none 0 0, .int .i64 (k : Int)]).run Tryz.prog w =
      .ok (.slice (some ⟨w.heap.size, 0, none⟩) k (grownCap w k 0 47)) (w.drew.alloc (.cells (Builtin.zeroCells z.cells k ++ Builtin.zeroCells z.cells (grownCap w k 0 47 - k)) 47)) := fun ty =>
    Lib.run_append_nil_zeros w 33 3 ty 47 i z .i64 .i64 (by rfl) (by rfl) hi hz k h0 (by omega) (by omega) (by rw [hby]; omega)
  obtain ⟨G, hG⟩ : ∃ G, G = grownCap w k 0 47 := ⟨_, rfl⟩
  rw [← hG] at hrz ⊢
  have hGn : k ≤ G := by rw [hG]; exact grownCap_ge w _ _ _
  clear hG
  go_enter Tryz.func92, Tryz.ntmps92
  go_wp2_with (at_builtin; refine Lib.wpList_append_run _ rfl _ _ _ _ rfl _ _ rfl rfl _ _ (hrz _) ?_)
  all_goals (go_ret; exact ⟨rfl, rfl⟩)
set_option maxRecDepth 100000 in
theorem growP_zero (w : World) : Calls Tryz.prog 92 #[.slice none 0 0, .int .i64 0] w fun e w' => e = .returned (.slice none 0 0) ∧ w' = w := by
  go_enter Tryz.func92, Tryz.ntmps92
  go_wp2
  go_ret
  exact ⟨rfl, rfl⟩
theorem growP_spec (k : Nat) (hb : k * 88 ≤ 140737488355328) : Fr Tryz.prog 92 [.one .nil, .one (.int .i64 k)] (.rows 47 5 0 (fun _ _ => .any)) := by
  obtain ⟨i, d, z, hi, hu, hz, _, hs, hby, hzl, _⟩ := T_parts T_ok (show T 47 = some _ from rfl)
  have hs : i.size = 5 := hs.symm
  have hby : i.bytes = 88 := hby.symm
  refine ⟨⟨_, Tryz.func92, by rfl, by rfl⟩, trivial, fun ok w vs hok hr => ?_⟩
  obtain ⟨vs⟩ := vs
  match vs, hr with
  | [v, u], hr =>
    obtain ⟨hv, hu, _⟩ := hr
    have hv : v = .slice none 0 0 := hv
    have hu : u = .int .i64 k := hu
    subst hv hu
    by_cases h0 : k = 0
    · subst h0
      refine (growP_zero w).mono ?_
      rintro e w' ⟨rfl, rfl⟩
      exact ⟨_, ⟨none, 0⟩, rfl, Go.RowKit.Below.refl _ _, rfl, (fun g o h => by cases h), (fun j => by simp [Bk.cell]), trivial, Nat.le_refl _, 0, Nat.le_refl _, .inr ⟨rfl, rfl, rfl, rfl⟩⟩
    · refine (growP_walk k (by omega) hb w i z hi hz hs hby).mono ?_
      rintro e w' ⟨rfl, rfl⟩
      have hzc : z.cells.size = 5 := by
        have := congrArg List.length hzl
        simpa [T] using this.symm
      have hGn : k ≤ grownCap w k 0 47 := grownCap_ge w _ _ _
      refine ⟨_, ⟨some (w.heap.size, 0), 0⟩, rfl, ((Go.RowKit.Below.refl _ w).drew).alloc (Nat.le_refl _) _, rfl, fun g o h => ?_, ?_, trivial, Nat.le_refl _, grownCap w k 0 47, Nat.zero_le _, .inl ⟨w.heap.size, 0, 0, rfl, rfl, .inr (by simp), ?_⟩⟩
      · have : w.heap.size = g := by simpa using congrArg (Option.map Prod.fst) h
        subst this
        exact ⟨Nat.le_refl _, by simp⟩
      · unfold RepBk
        refine ⟨_, 47, heap_alloc_new w.drew _, fun j c hj => ?_⟩
        simp [Bk.cell] at hj
      · have hrs : rowSize (w.drew.alloc (.cells (Builtin.zeroCells z.cells k ++ Builtin.zeroCells z.cells (grownCap w k 0 47 - k)) 47)) w.heap.size = (Builtin.zeroCells z.cells k ++ Builtin.zeroCells z.cells (grownCap w k 0 47 - k)).size := rowSize_of (heap_alloc_new w.drew _)
        rw [hrs]
        simp only [Array.size_append,size_zeroCells,hzc,Bk.wd]
        omega
set_option maxRecDepth 100000 in
theorem growZ_walk (k : Nat) (h0 : 0 < k) (hb : k * 8 ≤ 140737488355328) (w : World) (i : TypeInfo) (z : Value) (hi : Tryz.prog.info? 3 = some i) (hz : i.zero = some z) (hs : i.size = 1) (hby : i.bytes = 8) :
    Calls Tryz.prog 72 #[.slice none 0 0, .int .i64 k] w fun e w' => e = .returned (.slice (some ⟨w.heap.size, 0, none⟩) 0 (grownCap w k 0 3)) ∧
      w' = w.drew.alloc (.cells (Builtin.zeroCells z.cells k ++ Builtin.zeroCells z.cells (grownCap w k 0 3 - k)) 3) := by
  have h1 : ¬ ((k : Int) < 0) := by omega
  have h3 : wrap64 ((k : Int) - (((0 : Nat) : Int) - ((0 : Nat) : Int))) = (k : Int) := by unfold wrap64; omega
  have h4 : (k : Int) > 0 := by omega
  have hrz : ∀ ty, (Builtin.append_ #[22, 3] ty #[.slice none 0 0, .int .i64 (k : Int)]).run Tryz.prog w =
      .ok (.slice (some ⟨w.heap.size, 0, none⟩) k (grownCap w k 0 3)) (w.drew.alloc (.cells (Builtin.zeroCells z.cells k ++ Builtin.zeroCells z.cells (grownCap w k 0 3 - k)) 3)) := fun ty =>
    Lib.run_append_nil_zeros w 22 3 ty 3 i z .i64 .i64 (by rfl) (by rfl) hi hz k h0 (by omega) (by omega) (by rw [hby]; omega)
  obtain ⟨G, hG⟩ : ∃ G, G = grownCap w k 0 3 := ⟨_, rfl⟩
  rw [← hG] at hrz ⊢
  have hGn : k ≤ G := by rw [hG]; exact grownCap_ge w _ _ _
  clear hG
  go_enter Tryz.func72, Tryz.ntmps72
  go_wp2_with (at_builtin; refine Lib.wpList_append_run _ rfl _ _ _ _ rfl _ _ rfl rfl _ _ (hrz _) ?_)
  all_goals (go_ret; exact ⟨rfl, rfl⟩)
set_option maxRecDepth 100000 in
theorem growZ_zero (w : World) : Calls Tryz.prog 72 #[.slice none 0 0, .int .i64 0] w fun e w' => e = .returned (.slice none 0 0) ∧ w' = w := by
  go_enter Tryz.func72, Tryz.ntmps72
  go_wp2
  go_ret
  exact ⟨rfl, rfl⟩
theorem growZ_spec (k : Nat) (hb : k * 8 ≤ 140737488355328) : Fr Tryz.prog 72 [.one .nil, .one (.int .i64 k)] (.ints 3 .i64 []) := by
  obtain ⟨i, d, z, hi, hu, hz, _, hs, hby, hzl, _⟩ := T_parts T_ok (show T 3 = some _ from rfl)
  have hs : i.size = 1 := hs.symm
  have hby : i.bytes = 8 := hby.symm
  refine ⟨⟨_, Tryz.func72, by rfl, by rfl⟩, trivial, fun ok w vs hok hr => ?_⟩
  obtain ⟨vs⟩ := vs
  match vs, hr with
  | [v, u], hr =>
    obtain ⟨hv, hu, _⟩ := hr
    have hv : v = .slice none 0 0 := hv
    have hu : u = .int .i64 k := hu
    subst hv hu
    by_cases h0 : k = 0
    · subst h0
      refine (growZ_zero w).mono ?_
      rintro e w' ⟨rfl, rfl⟩
      exact ⟨_, ⟨none, 0⟩, rfl, Go.RowKit.Below.refl _ _, rfl, (fun g o h => by cases h), (fun j => by simp [Bk.cell]), trivial, Nat.le_refl _, 0, Nat.le_refl _, .inr ⟨rfl, rfl, rfl, rfl⟩⟩
    · refine (growZ_walk k (by omega) hb w i z hi hz hs hby).mono ?_
      rintro e w' ⟨rfl, rfl⟩
      have hzc : z.cells.size = 1 := by
        have := congrArg List.length hzl
        simpa [T] using this.symm
      have hGn : k ≤ grownCap w k 0 3 := grownCap_ge w _ _ _
      refine ⟨_, ⟨some (w.heap.size, 0), 0⟩, rfl, ((Go.RowKit.Below.refl _ w).drew).alloc (Nat.le_refl _) _, rfl, fun g o h => ?_, ?_, trivial, Nat.le_refl _, grownCap w k 0 3, Nat.zero_le _, .inl ⟨w.heap.size, 0, 0, rfl, rfl, .inr (by simp), ?_⟩⟩
      · have : w.heap.size = g := by simpa using congrArg (Option.map Prod.fst) h
        subst this
        exact ⟨Nat.le_refl _, by simp⟩
      · unfold RepBk
        refine ⟨_, 3, heap_alloc_new w.drew _, fun j c hj => ?_⟩
        simp [Bk.cell] at hj
      · have hrs : rowSize (w.drew.alloc (.cells (Builtin.zeroCells z.cells k ++ Builtin.zeroCells z.cells (grownCap w k 0 3 - k)) 3)) w.heap.size = (Builtin.zeroCells z.cells k ++ Builtin.zeroCells z.cells (grownCap w k 0 3 - k)).size := rowSize_of (heap_alloc_new w.drew _)
        rw [hrs]
        simp only [Array.size_append,size_zeroCells,hzc,Bk.wd]
        omega
open Go Go.Eng
theorem freshArgs {P : Program} {f : FuncId} {xs ys : List V} {B : Bk} (h : Fr P f ys B) (ha : VLeA xs ys) : Fr P f xs B :=
  ⟨h.1, h.2.1, fun ok w vs hok hvs => h.2.2 ok w vs hok (ha.rep hvs)⟩
theorem flat_step {α : Type} {ps : List (List α)} {i : Nat} (h : i < ps.length) : (ps.take (i + 1)).flatten = (ps.take i).flatten ++ ps.getD i default := by
  rw [List.take_add_one, List.flatten_append, X7, X8 h]; simp
theorem flat_le {α : Type} (ps : List (List α)) (i : Nat) : (ps.take i).flatten.length ≤ ps.flatten.length := by
  conv => rhs; rw [← List.take_append_drop i ps, List.flatten_append, X6]
  exact Nat.le_add_right _ _
theorem concatZ_spec (ps : List (List Int)) (hl : ps.flatten.length < 2 ^ 38) (hk : ps.length < 2 ^ 38) : Fr Tryz.prog 48 [.one (.rows 1 ps.length (fun i _ => C.ints .i64 (ps.getD i default)))] (Bk.ints 3 .i64 (ps.flatten)) := by
  refine fresh_of_vc T_ok mixed Tryz.func48 rfl (by decide) _ (by simp [Tryz.ntmps48]) ⟨[0, 2, 3, 5, 6, 8, 9, 10, 11, 12, 20, 25, 26, 27, 28], []⟩ (by kernel_rfl) (Bk.ints 3 .i64 (ps.flatten)) trivial ?_
  show vc T _ _ (Option.get! Tryz.f48.body) _ _
  simp only [Tryz.f48,Tryz.ntmps48,Option.get!,iS,iM,eO,J1]
  simp only [vx,T,K5,J0,K6,K7,↓reduceIte,J1,J2,J3,J4,J5,J6,J7,J8,J9,reduceCtorEq,K1,K2,K3,K4]
  refine Lk (fun y : {i : Nat // i ≤ ps.length} => ⟨[(0, .one (.rows 1 ps.length (fun i _ => C.ints .i64 (ps.getD i default)))), (3, .one (.int .i64 (ps.take y.1).flatten.length)), (9, .one (.rows 1 ps.length (fun i _ => C.ints .i64 (ps.getD i default)))), (10, .one (.int .i64 ps.length)), (11, .one (.int .i64 y.1))], [], 1, 36⟩) (fun y => ps.length - y.1) ⟨0, Nat.zero_le _⟩ ?_ (fun ⟨i, hi⟩ => ?_)
  · refine Sa ?_; simp only [rx,Y0,Y1,Y2,Y3,Y4,Y5,Y6,Y7,ren,↓reduceIte,J1,J2,J3,J4,J5,J6,J7,J8,J9,reduceCtorEq,K1,K2,K3,K4,Y8,Y9,X2,X3,X4]
  have h0 := flat_le ps i
  have i1 := wI i (by omega)
  simp only [vx,T,K5,J0,K6,K7,↓reduceIte,J1,J2,J3,J4,J5,J6,J7,J8,J9,reduceCtorEq,K1,K2,K3,K4]
  refine ⟨fun h1 => Lg ?_, fun h1 => Lg ?_⟩
  · have hs := flat_step (ps := ps) (i := i) (by omega)
    have h2 := flat_le ps (i + 1)
    have hsl : (ps.take (i + 1)).flatten.length = (ps.take i).flatten.length + (ps.getD i default).length := by rw [hs, X6]
    obtain ⟨a, ha⟩ : ∃ a, a = ps.getD i default := ⟨_, rfl⟩
    rw [← ha] at hsl
    have w1 : IntKind.i64.wrap (((ps.take i).flatten.length : Int) + a.length) = ((ps.take (i + 1)).flatten.length : Int) := by rw [IntWalk.i64_in _ (by omega)]; omega
    simp only [vx,T,K5,J0,K6,K7,↓reduceIte,J1,J2,J3,J4,J5,J6,J7,J8,J9,reduceCtorEq,K1,K2,K3,K4,PC,← ha]
    simp only [w1]
    refine ⟨by omega, fun h => absurd h (by omega), fun _ => Lg ?_⟩
    simp only [vx,T,K5,J0,K6,K7,↓reduceIte,J1,J2,J3,J4,J5,J6,J7,J8,J9,reduceCtorEq,K1,K2,K3,K4,PC,← ha]
    simp only [i1]
    refine Lq ⟨i + 1, by omega⟩ ?_ ?_
    · refine Sa ?_; simp only [rx,Y0,Y1,Y2,Y3,Y4,Y5,Y6,Y7,ren,↓reduceIte,J1,J2,J3,J4,J5,J6,J7,J8,J9,reduceCtorEq,K1,K2,K3,K4,Y8,Y9,X2,X3,X4]
    · simp only; omega
  · have hip : i = ps.length := by omega
    subst hip
    rw [List.take_length]
    simp only [vx,T,K5,J0,K6,K7,↓reduceIte,J1,J2,J3,J4,J5,J6,J7,J8,J9,reduceCtorEq,K1,K2,K3,K4]
    refine CallK.fresh (growZ_spec ps.flatten.length (by omega)) ?_
    simp only [vx,T,K5,J0,K6,K7,↓reduceIte,J1,J2,J3,J4,J5,J6,J7,J8,J9,reduceCtorEq,K1,K2,K3,K4]
    refine Lk (fun y : {i : Nat // i ≤ ps.length} => ⟨[(0, .one (.rows 1 ps.length (fun i _ => C.ints .i64 (ps.getD i default)))), (6, .one (.own 1 1 0 (ps.take y.1).flatten.length)), (25, .one (.rows 1 ps.length (fun i _ => C.ints .i64 (ps.getD i default)))), (26, .one (.int .i64 ps.length)), (27, .one (.int .i64 y.1))], [(1, ⟨(Bk.ints 3 .i64 ((ps.take y.1).flatten)), true⟩)], 2, 36⟩) (fun y => ps.length - y.1) ⟨0, Nat.zero_le _⟩ ?_ (fun ⟨i, hi⟩ => ?_)
    · refine Sa ?_; simp only [rx,Y0,Y1,Y2,Y3,Y4,Y5,Y6,Y7,ren,↓reduceIte,J1,J2,J3,J4,J5,J6,J7,J8,J9,reduceCtorEq,K1,K2,K3,K4,Y8,Y9,X2,X3,X4]
      skip
    have h0 := flat_le ps i
    have i1 := wI i (by omega)
    simp only [vx,T,K5,J0,K6,K7,↓reduceIte,J1,J2,J3,J4,J5,J6,J7,J8,J9,reduceCtorEq,K1,K2,K3,K4]
    refine ⟨fun h1 => Lg ?_, fun h1 => Lg ?_⟩
    · have hs := flat_step (ps := ps) (i := i) (by omega)
      have h2 := flat_le ps (i + 1)
      have hsl : (ps.take (i + 1)).flatten.length = (ps.take i).flatten.length + (ps.getD i default).length := by rw [hs, X6]
      obtain ⟨a, ha⟩ : ∃ a, a = ps.getD i default := ⟨_, rfl⟩
      rw [← ha] at hsl hs
      simp only [vx,T,K5,J0,K6,K7,↓reduceIte,J1,J2,J3,J4,J5,J6,J7,J8,J9,reduceCtorEq,K1,K2,K3,K4,PC,← ha]
      simp only [i1]
      refine ⟨by omega, by rw [← X6, ← hs]; omega, Lq ⟨i + 1, by omega⟩ ?_ ?_⟩
      · refine Sa ?_; simp only [rx,Y0,Y1,Y2,Y3,Y4,Y5,Y6,Y7,ren,↓reduceIte,J1,J2,J3,J4,J5,J6,J7,J8,J9,reduceCtorEq,K1,K2,K3,K4,Y8,Y9,X2,X3,X4,hs]
        skip
      · simp only; omega
    · have hip : i = ps.length := by omega
      subst hip
      rw [List.take_length]
      simp only [vx,T,K5,J0,K6,K7,↓reduceIte,J1,J2,J3,J4,J5,J6,J7,J8,J9,reduceCtorEq,K1,K2,K3,K4]
      exact ⟨rfl, rfl⟩
theorem concatP_spec (ps : List (List Mono)) (hl : ps.flatten.length < 2 ^ 38) (hk : ps.length < 2 ^ 38) : Fr Tryz.prog 58 [.one (.rows 1 ps.length (fun i _ => PC (ps.getD i default)))] (.rows 47 5 (ps.flatten).length (fR (ps.flatten))) := by
  refine fresh_of_vc T_ok mixed Tryz.func58 rfl (by decide) _ (by simp [Tryz.ntmps58]) ⟨[0, 2, 3, 5, 6, 8, 9, 10, 11, 12, 20, 25, 26, 27, 28], []⟩ (by kernel_rfl) (.rows 47 5 (ps.flatten).length (fR (ps.flatten))) trivial ?_
  show vc T _ _ (Option.get! Tryz.f58.body) _ _
  simp only [Tryz.f58,Tryz.ntmps58,Option.get!,iS,iM,eO,J1]
  simp only [vx,T,K5,J0,K6,K7,↓reduceIte,J1,J2,J3,J4,J5,J6,J7,J8,J9,reduceCtorEq,K1,K2,K3,K4]
  refine Lk (fun y : {i : Nat // i ≤ ps.length} => ⟨[(0, .one (.rows 1 ps.length (fun i _ => PC (ps.getD i default)))), (3, .one (.int .i64 (ps.take y.1).flatten.length)), (9, .one (.rows 1 ps.length (fun i _ => PC (ps.getD i default)))), (10, .one (.int .i64 ps.length)), (11, .one (.int .i64 y.1))], [], 1, 36⟩) (fun y => ps.length - y.1) ⟨0, Nat.zero_le _⟩ ?_ (fun ⟨i, hi⟩ => ?_)
  · refine Sa ?_; simp only [rx,Y0,Y1,Y2,Y3,Y4,Y5,Y6,Y7,ren,↓reduceIte,J1,J2,J3,J4,J5,J6,J7,J8,J9,reduceCtorEq,K1,K2,K3,K4,Y8,Y9,X2,X3,X4]
  have h0 := flat_le ps i
  have i1 := wI i (by omega)
  simp only [vx,T,K5,J0,K6,K7,↓reduceIte,J1,J2,J3,J4,J5,J6,J7,J8,J9,reduceCtorEq,K1,K2,K3,K4]
  refine ⟨fun h1 => Lg ?_, fun h1 => Lg ?_⟩
  · have hs := flat_step (ps := ps) (i := i) (by omega)
    have h2 := flat_le ps (i + 1)
    have hsl : (ps.take (i + 1)).flatten.length = (ps.take i).flatten.length + (ps.getD i default).length := by rw [hs, X6]
    obtain ⟨a, ha⟩ : ∃ a, a = ps.getD i default := ⟨_, rfl⟩
    rw [← ha] at hsl
    have w1 : IntKind.i64.wrap (((ps.take i).flatten.length : Int) + a.length) = ((ps.take (i + 1)).flatten.length : Int) := by rw [IntWalk.i64_in _ (by omega)]; omega
    simp only [vx,T,K5,J0,K6,K7,↓reduceIte,J1,J2,J3,J4,J5,J6,J7,J8,J9,reduceCtorEq,K1,K2,K3,K4,PC,← ha]
    simp only [w1]
    refine ⟨by omega, fun h => absurd h (by omega), fun _ => Lg ?_⟩
    simp only [vx,T,K5,J0,K6,K7,↓reduceIte,J1,J2,J3,J4,J5,J6,J7,J8,J9,reduceCtorEq,K1,K2,K3,K4,PC,← ha]
    simp only [i1]
    refine Lq ⟨i + 1, by omega⟩ ?_ ?_
    · refine Sa ?_; simp only [rx,Y0,Y1,Y2,Y3,Y4,Y5,Y6,Y7,ren,↓reduceIte,J1,J2,J3,J4,J5,J6,J7,J8,J9,reduceCtorEq,K1,K2,K3,K4,Y8,Y9,X2,X3,X4]
    · simp only; omega
  · have hip : i = ps.length := by omega
    subst hip
    rw [List.take_length]
    simp only [vx,T,K5,J0,K6,K7,↓reduceIte,J1,J2,J3,J4,J5,J6,J7,J8,J9,reduceCtorEq,K1,K2,K3,K4]
    refine CallK.fresh (growP_spec ps.flatten.length (by omega)) ?_
    simp only [vx,T,K5,J0,K6,K7,↓reduceIte,J1,J2,J3,J4,J5,J6,J7,J8,J9,reduceCtorEq,K1,K2,K3,K4]
    refine Lk (fun y : {i : Nat // i ≤ ps.length} => ⟨[(0, .one (.rows 1 ps.length (fun i _ => PC (ps.getD i default)))), (6, .one (.own 1 5 0 (ps.take y.1).flatten.length)), (25, .one (.rows 1 ps.length (fun i _ => PC (ps.getD i default)))), (26, .one (.int .i64 ps.length)), (27, .one (.int .i64 y.1))], [(1, ⟨(.rows 47 5 ((ps.take y.1).flatten).length (fR ((ps.take y.1).flatten))), true⟩)], 2, 36⟩) (fun y => ps.length - y.1) ⟨0, Nat.zero_le _⟩ ?_ (fun ⟨i, hi⟩ => ?_)
    · refine Sa ?_; simp only [rx,Y0,Y1,Y2,Y3,Y4,Y5,Y6,Y7,ren,↓reduceIte,J1,J2,J3,J4,J5,J6,J7,J8,J9,reduceCtorEq,K1,K2,K3,K4,Y8,Y9,X2,X3,X4]
      exact fun i j h => absurd h (by omega)
    have h0 := flat_le ps i
    have i1 := wI i (by omega)
    simp only [vx,T,K5,J0,K6,K7,↓reduceIte,J1,J2,J3,J4,J5,J6,J7,J8,J9,reduceCtorEq,K1,K2,K3,K4]
    refine ⟨fun h1 => Lg ?_, fun h1 => Lg ?_⟩
    · have hs := flat_step (ps := ps) (i := i) (by omega)
      have h2 := flat_le ps (i + 1)
      have hsl : (ps.take (i + 1)).flatten.length = (ps.take i).flatten.length + (ps.getD i default).length := by rw [hs, X6]
      obtain ⟨a, ha⟩ : ∃ a, a = ps.getD i default := ⟨_, rfl⟩
      rw [← ha] at hsl hs
      simp only [vx,T,K5,J0,K6,K7,↓reduceIte,J1,J2,J3,J4,J5,J6,J7,J8,J9,reduceCtorEq,K1,K2,K3,K4,PC,← ha]
      simp only [i1]
      refine ⟨by omega, by rw [← X6, ← hs]; omega, Lq ⟨i + 1, by omega⟩ ?_ ?_⟩
      · refine Sa ?_; simp only [rx,Y0,Y1,Y2,Y3,Y4,Y5,Y6,Y7,ren,↓reduceIte,J1,J2,J3,J4,J5,J6,J7,J8,J9,reduceCtorEq,K1,K2,K3,K4,Y8,Y9,X2,X3,X4,hs]
        exact ⟨by simp, by simp, app_rows _ _⟩
      · simp only; omega
    · have hip : i = ps.length := by omega
      subst hip
      rw [List.take_length]
      simp only [vx,T,K5,J0,K6,K7,↓reduceIte,J1,J2,J3,J4,J5,J6,J7,J8,J9,reduceCtorEq,K1,K2,K3,K4]
      exact ⟨rfl, rfl, fun _ _ _ _ => rfl⟩
open Go Go.Eng
theorem cloneZ_spec (xs : List Int) (hx : xs.length < 2 ^ 40) : Pr Tryz.prog 80 [.one (.ints .i64 xs)] (.one (.ints .i64 xs)) := by
  refine pv T_ok mixed Tryz.func80 rfl (by decide) _ (by simp [Tryz.ntmps80]) ⟨[0, 2, 4], []⟩ (by kernel_rfl) _ ?_
  show vc T _ _ (Option.get! Tryz.f80.body) _ _
  simp only [Tryz.f80,Tryz.ntmps80,Option.get!,iS,iM,eO,J1]
  simp only [vx,T,K5,J0,K6,K7,↓reduceIte,J1,J2,J3,J4,J5,J6,J7,J8,J9,reduceCtorEq,K1,K2,K3,K4]
  intro b hb
  refine Lg ?_
  simp only [vx,T,K5,J0,K6,K7,↓reduceIte,J1,J2,J3,J4,J5,J6,J7,J8,J9,reduceCtorEq,K1,K2,K3,K4]
  refine ⟨fun h => Lg ?_, fun h => Lg ?_⟩
  · simp only [vx,T,K5,J0,K6,K7,↓reduceIte,J1,J2,J3,J4,J5,J6,J7,J8,J9,reduceCtorEq,K1,K2,K3,K4]
    have h0 : xs = [] := by
      cases xs with
      | nil => rfl
      | cons x xs => simp at hb; rw [hb] at h; cases h
    refine Va ?_; simp only [vLe,vLeL,rx,Y0,Y1,Y2,Y3,Y4,Y5,Y6,Y7,ren,↓reduceIte,J1,J2,J3,J4,J5,J6,J7,J8,J9,reduceCtorEq,K1,K2,K3,K4,h0]
  · simp only [vx,T,K5,J0,K6,K7,↓reduceIte,J1,J2,J3,J4,J5,J6,J7,J8,J9,reduceCtorEq,K1,K2,K3,K4]
    exact ⟨⟨by omega, by omega⟩, VLe.refl _⟩
theorem insM_end {c : Rat} {v : List Int} : ∀ {os : List Mono}, (∀ x ∈ os, cmpV x.2 v < 0) → insM c v os = os ++ [(c, v)]
  | [], _ => rfl
  | m :: r, h => by
    simp only [insM]
    rw [if_pos (h m (by simp)), insM_end fun x hx => h x (by simp [hx])]; rfl
theorem insM_lastEq {c : Rat} {v : List Int} {x : Mono} (hx : x.2 = v) : ∀ {ps : List Mono}, (∀ y ∈ ps, cmpV y.2 v < 0) → insM c v (ps ++ [x]) = ps ++ [(x.1 + c, v)]
  | [], _ => by simp only [List.nil_append,insM]; rw [if_neg (by rw [hx]; exact cmpV_irrefl v), if_pos hx]
  | m :: r, h => by
    simp only [List.cons_append,insM]
    rw [if_pos (h m (by simp)), insM_lastEq hx fun y hy => h y (by simp [hy])]
theorem asc_last {os : List Mono} (h : Asc os) {k : Nat} (hk : k + 1 = os.length) : ∀ y ∈ os.take k, cmpV y.2 (os.getD k default).2 < 0 := by
  intro y hy
  obtain ⟨i, hi, rfl⟩ := List.mem_iff_getElem.1 hy
  rw [X5] at hi
  rw [List.getElem_take, getD_eq (by omega)]
  exact List.pairwise_iff_getElem.1 h i k (by omega) (by omega) (by omega)
theorem split_last {os : List Mono} {k : Nat} (hk : k + 1 = os.length) : os = os.take k ++ [os.getD k default] := by
  rw [← take_step (by omega), List.take_of_length_le (by omega)]
theorem insM_same {c : Rat} {v : List Int} {os : List Mono} (h : Asc os) {k : Nat} (hk : k + 1 = os.length) (hv : (os.getD k default).2 = v) : insM c v os = os.set k ((os.getD k default).1 + c, v) := by
  have h1 := asc_last h hk
  rw [hv] at h1
  conv => lhs; rw [split_last hk]
  rw [insM_lastEq hv h1, List.set_eq_take_append_cons_drop, if_pos (by omega), List.drop_eq_nil_of_le (by omega)]
theorem insM_new {c : Rat} {v : List Int} {os : List Mono} (h : Asc os) (hall : ∀ x ∈ os, cmpV x.2 v ≤ 0) (hne : ∀ k, k + 1 = os.length → (os.getD k default).2 ≠ v) : insM c v os = os ++ [(c, v)] := by
  refine insM_end fun x hx => ?_
  have h1 := hall x hx
  obtain ⟨i, hi, rfl⟩ := List.mem_iff_getElem.1 hx
  have h2 := hne (os.length - 1) (by omega)
  have h3 := hall (os.getD (os.length - 1) default) (by rw [getD_eq (by omega)]; exact List.getElem_mem _)
  have h4 : cmpV (os.getD (os.length - 1) default).2 v < 0 := by
    have : cmpV (os.getD (os.length - 1) default).2 v ≠ 0 := fun e => h2 (cmpV_zero.1 e)
    omega
  by_cases h5 : i = os.length - 1
  · subst h5; rw [getD_eq (by omega)] at h4; exact h4
  · have h6 := List.pairwise_iff_getElem.1 h i (os.length - 1) (by omega) (by omega) (by omega)
    rw [getD_eq (by omega)] at h4
    exact cmpV_lt_trans h6 h4
theorem norL_step {ys : List Mono} {i : Nat} (hi : i < ys.length) : norL (ys.take (i + 1)) [] = insM (ys.getD i default).1 (ys.getD i default).2 (norL (ys.take i) []) := by
  rw [take_step hi]
  unfold norL
  rw [List.foldl_append]; rfl
def NorR (l : List Mono) (r : V) (_ : Bk) : Prop := ∃ k f, r = .one (.rows 5 k f) ∧ k = (norM l).length ∧ ∀ i j, i < k → j < 5 → f i j = fR (norM l) i j
theorem normal_spec {l : List Mono} {n d B : Nat} (h : PB l n d B) (hn : n * (B + 1) < 2 ^ 30) (hn1 : n < 2 ^ 30) (hB : B < 2 ^ 30) (hd : d < 2 ^ 30) {N : Nat} (hN : l.length = N) :
    Mc Tryz.prog 51 [.one (.own 0 5 0 N)] (.rows 47 5 N (fR l)) (NorR l) := by
  have hln := h.n
  have hlo : LOk l := fun m hm => Nat.lt_of_le_of_lt (h.m m hm).2.1 (by omega)
  refine mut_of_vc T_ok mixed Tryz.func51 rfl (by decide) _ (by simp [Tryz.ntmps51]) ⟨[0, 2, 3, 5, 6, 9, 10, 11, 12, 30], []⟩ (by kernel_rfl) (.rows 47 5 N (fR l)) trivial _ ?_
  show vc T _ _ (Option.get! Tryz.f51.body) _ _
  simp only [Tryz.f51,Tryz.ntmps51,Option.get!,iS,iM,eO,J1]
  simp only [vx,T,K5,J0,K6,K7,↓reduceIte,J1,J2,J3,J4,J5,J6,J7,J8,J9,reduceCtorEq,K1,K2,K3,K4]
  refine Cm 0 rfl trivial (SortStable_spec l hN (by omega) hlo) ?_
  rintro _ _ ⟨ys, rfl, rfl, hp, hs⟩ _
  have hyl : ys.length = N := hp.length_eq.trans hN
  have hys : PB ys n d B := ⟨by rw [hp.length_eq]; exact hln, fun m hm => h.m m (hp.mem_iff.1 hm)⟩
  have hpre : ∀ i, i ≤ N → (norL (ys.take i) []).length ≤ i ∧ ∀ m ∈ norL (ys.take i) [], qm m.1 ≤ n * (B + 1) ∧ m.2.length ≤ d ∧ In63 m.2 := by
    intro i hi
    have h1 := PB.sumL (l := ys.take i) (d := d) (B := B) (fun m hm => hys.m m (List.mem_of_mem_take hm)) 0 [] ⟨by simp, fun m hm => by cases hm⟩
    rw [Nat.zero_add, X5, Nat.min_eq_left (by omega)] at h1
    refine ⟨h1.1, fun m hm => ?_⟩
    have h2 := h1.2 m hm
    exact ⟨Nat.le_trans h2.1 (Nat.mul_le_mul_right _ (by omega)), h2.2⟩
  simp only [vx,T,K5,J0,K6,K7,↓reduceIte,J1,J2,J3,J4,J5,J6,J7,J8,J9,reduceCtorEq,K1,K2,K3,K4]
  refine Lk (fun y : {y : Nat × List Mono // y.1 ≤ N ∧ y.2 = norL (ys.take y.1) []} => ⟨[(2, .one .nil), (3, .one (.own 1 5 0 y.1.2.length)), (9, .one (.own 0 5 0 N)), (10, .one (.int .i64 N)), (11, .one (.int .i64 y.1.1))], [(0, ⟨.rows 47 5 N (fR ys), true⟩), (1, ⟨.rows 47 5 y.1.2.length (fR y.1.2), true⟩)], 2, 57⟩) (fun y => N - y.1.1) ⟨(0, []), Nat.zero_le _, rfl⟩ ?_ (fun ⟨⟨i, os⟩, hi, hos⟩ => ?_)
  · refine Sa ?_; simp only [rx,Y0,Y1,Y2,Y3,Y4,Y5,Y6,Y7,ren,↓reduceIte,J1,J2,J3,J4,J5,J6,J7,J8,J9,reduceCtorEq,K1,K2,K3,K4,Y8,Y9,X2,X3,X4]
  simp only at hi hos
  have hol := (hpre i hi).1
  have hom := (hpre i hi).2
  have hoa : Asc os := by rw [hos]; exact norL_asc _ List.Pairwise.nil
  rw [← hos] at hol hom
  simp only [vx,T,K5,J0,K6,K7,↓reduceIte,J1,J2,J3,J4,J5,J6,J7,J8,J9,reduceCtorEq,K1,K2,K3,K4]
  refine ⟨fun h1 => Lg ?_, fun h1 => Lg ?_⟩
  · have hil : i < N := by omega
    have i1 := wI i (by omega)
    have hstep := norL_step (ys := ys) (i := i) (by omega)
    obtain ⟨a, ha⟩ : ∃ a, a = ys.getD i default := ⟨_, rfl⟩
    have hai := hys.get (i := i) (by omega)
    rw [← hos, ← ha] at hstep
    rw [← ha] at hai
    have hall : ∀ x ∈ os, cmpV x.2 a.2 ≤ 0 := by
      intro x hx
      rw [hos] at hx
      rcases norL_mem hx with ⟨m, hm, e⟩ | ⟨m, hm, _⟩
      · obtain ⟨j, hj, rfl⟩ := List.mem_iff_getElem.1 hm
        rw [X5] at hj
        rw [List.getElem_take, ← getD_eq (by omega)] at e
        rw [e, ha]
        exact hs j i (Nat.zero_le _) (by omega) hil
      · cases hm
    simp only [vx,T,K5,J0,K6,K7,↓reduceIte,J1,J2,J3,J4,J5,J6,J7,J8,J9,reduceCtorEq,K1,K2,K3,K4,fR0,fR1,fR2,fR3,fR4,← ha]
    refine ⟨by omega, fun h2 => Lg ?_, fun h2 => Lg ?_⟩
    · obtain ⟨k, hk⟩ : ∃ k, k + 1 = os.length := ⟨os.length - 1, by omega⟩
      have k1 : IntKind.i64.wrap ((os.length : Int) - 1) = (k : Int) := by rw [IntWalk.i64_in _ (by omega)]; omega
      obtain ⟨b, hb⟩ : ∃ b, b = os.getD k default := ⟨_, rfl⟩
      have hbm := hom b (by rw [hb, getD_eq]; exact List.getElem_mem (by omega))
      simp only [vx,T,K5,J0,K6,K7,↓reduceIte,J1,J2,J3,J4,J5,J6,J7,J8,J9,reduceCtorEq,K1,K2,K3,K4,fR0,fR1,fR2,fR3,fR4,k1,← ha,← hb]
      refine ⟨by omega, Cg (compareV_spec b.2 a.2 (by omega) (by omega)) ?_⟩
      simp only [vx,T,K5,J0,K6,K7,↓reduceIte,J1,J2,J3,J4,J5,J6,J7,J8,J9,reduceCtorEq,K1,K2,K3,K4]
      refine ⟨fun h3 => Lg ?_, fun h3 => Lg ?_⟩
      · have h3 : b.2 = a.2 := cmpV_zero.1 (by omega)
        have hset := insM_same (c := a.1) (v := a.2) hoa hk (by rw [← hb]; exact h3)
        have hlen : (insM a.1 a.2 os).length = os.length := by rw [hset, List.length_set]
        simp only [vx,T,K5,J0,K6,K7,↓reduceIte,J1,J2,J3,J4,J5,J6,J7,J8,J9,reduceCtorEq,K1,K2,K3,K4,fR0,fR1,fR2,fR3,fR4,k1,← ha,← hb]
        refine ⟨by omega, Cg (iQAdd_spec b.1 a.1 (by omega) (by omega)) ?_⟩
        simp only [vx,T,K5,J0,K6,K7,↓reduceIte,J1,J2,J3,J4,J5,J6,J7,J8,J9,reduceCtorEq,K1,K2,K3,K4,QV,QC,frzs]
        simp only [i1]
        refine ⟨by omega, Lq ⟨(i + 1, insM a.1 a.2 os), by simp only; omega, hstep.symm⟩ ?_ ?_⟩
        · refine Sa ?_; simp only [rx,Y0,Y1,Y2,Y3,Y4,Y5,Y6,Y7,ren,↓reduceIte,J1,J2,J3,J4,J5,J6,J7,J8,J9,reduceCtorEq,K1,K2,K3,K4,Y8,Y9,X2,X3,X4,hlen]
          intro i' j' hi' hj'
          rw [set_rows (by omega) i' j' hi' hj', hset, ← hb, h3]
        · simp only; omega
      · have hins := insM_new (c := a.1) (v := a.2) hoa hall (fun k' hk' e => h3 (by rw [show k' = k by omega, ← hb] at e; rw [cmpV_zero.2 e]))
        have hlen : (insM a.1 a.2 os).length = os.length + 1 := by rw [hins, X6]; rfl
        simp only [vx,T,K5,J0,K6,K7,↓reduceIte,J1,J2,J3,J4,J5,J6,J7,J8,J9,reduceCtorEq,K1,K2,K3,K4,fR0,fR1,fR2,fR3,fR4,← ha]
        refine Cg (cloneZ_spec a.2 (by omega)) ?_
        simp only [vx,T,K5,J0,K6,K7,↓reduceIte,J1,J2,J3,J4,J5,J6,J7,J8,J9,reduceCtorEq,K1,K2,K3,K4,QV,QC]
        simp only [i1]
        refine ⟨by omega, Lq ⟨(i + 1, insM a.1 a.2 os), by simp only; omega, hstep.symm⟩ ?_ ?_⟩
        · refine Sa ?_; simp only [rx,Y0,Y1,Y2,Y3,Y4,Y5,Y6,Y7,ren,↓reduceIte,J1,J2,J3,J4,J5,J6,J7,J8,J9,reduceCtorEq,K1,K2,K3,K4,Y8,Y9,X2,X3,X4,hlen]
          rw [hins]
          exact snoc_rows os (a.1, a.2)
        · simp only; omega
    · have hins := insM_new (c := a.1) (v := a.2) hoa hall (fun k' hk' => absurd h2 (by omega))
      have hlen : (insM a.1 a.2 os).length = os.length + 1 := by rw [hins, X6]; rfl
      simp only [vx,T,K5,J0,K6,K7,↓reduceIte,J1,J2,J3,J4,J5,J6,J7,J8,J9,reduceCtorEq,K1,K2,K3,K4,fR0,fR1,fR2,fR3,fR4,← ha]
      refine Cg (cloneZ_spec a.2 (by omega)) ?_
      simp only [vx,T,K5,J0,K6,K7,↓reduceIte,J1,J2,J3,J4,J5,J6,J7,J8,J9,reduceCtorEq,K1,K2,K3,K4,QV,QC]
      simp only [i1]
      refine ⟨by omega, Lq ⟨(i + 1, insM a.1 a.2 os), by simp only; omega, hstep.symm⟩ ?_ ?_⟩
      · refine Sa ?_; simp only [rx,Y0,Y1,Y2,Y3,Y4,Y5,Y6,Y7,ren,↓reduceIte,J1,J2,J3,J4,J5,J6,J7,J8,J9,reduceCtorEq,K1,K2,K3,K4,Y8,Y9,X2,X3,X4,hlen]
        rw [hins]
        exact snoc_rows os (a.1, a.2)
      · simp only; omega
  · have hiN : i = N := by omega
    have hfin : os = norL ys [] := by rw [hos, hiN, ← hyl, List.take_length]
    have hq : QOk os := fun m hm => by have := (hom m hm).1; omega
    have hres : os.filter qn = norM l := by
      rw [hfin, ← norM_perm hp]; rfl
    simp only [vx,T,K5,J0,K6,K7,↓reduceIte,J1,J2,J3,J4,J5,J6,J7,J8,J9,reduceCtorEq,K1,K2,K3,K4]
    refine Cm 1 rfl trivial (DeleteFunc_spec os rfl (by omega) hq) ?_
    rintro _ _ ⟨k, f, rfl, rfl, hk1, hk2, hf⟩ _
    simp only [vx,T,K5,J0,K6,K7,↓reduceIte,J1,J2,J3,J4,J5,J6,J7,J8,J9,reduceCtorEq,K1,K2,K3,K4]
    rw [hres] at hk2 hf
    refine ⟨k, _, rfl, hk2, fun i' j' hi' hj' => ?_⟩
    exact hf i' j' hi' hj'
open Go Go.Eng
theorem concatP2 (p q : List Mono) (hl : p.length + q.length < 2 ^ 38) : Fr Tryz.prog 58 [.one (.rows 1 2 (fun i j => [PC p, PC q].getD (i * 1 + j) .any))] (.rows 47 5 (p ++ q).length (fR (p ++ q))) := by
  have h := concatP_spec [p, q] (by simpa using hl) (by simp)
  rw [show [p, q].flatten = p ++ q by simp] at h
  refine freshArgs h ⟨.cell (CLe.rows rfl fun i j hi hj => CLe.of_eq ?_), trivial⟩
  have : j = 0 := by omega
  subst this
  match i, hi with
  | 0, _ => rfl
  | 1, _ => rfl
theorem concatZ2 (p q : List Int) (hl : p.length + q.length < 2 ^ 38) : Fr Tryz.prog 48 [.one (.rows 1 2 (fun i j => [C.ints .i64 p, C.ints .i64 q].getD (i * 1 + j) .any))] (.ints 3 .i64 (p ++ q)) := by
  have h := concatZ_spec [p, q] (by simpa using hl) (by simp)
  rw [show [p, q].flatten = p ++ q by simp] at h
  refine freshArgs h ⟨.cell (CLe.rows rfl fun i j hi hj => CLe.of_eq ?_), trivial⟩
  have : j = 0 := by omega
  subst this
  match i, hi with
  | 0, _ => rfl
  | 1, _ => rfl
theorem iAddP_spec {p q : List Mono} {n d B n' d' B' : Nat} (hp : PB p n d B) (hq : PB q n' d' B') (hd : max d d' < 2 ^ 30) (hn : (n + n') * (max B B' + 1) < 2 ^ 30) (hB : max B B' < 2 ^ 30) : Pr Tryz.prog 28 [PV p, PV q] (PV (norM (p ++ q))) := by
  have hl : n + n' < 2 ^ 30 := Nat.lt_of_le_of_lt (Nat.le_mul_of_pos_right _ (by omega)) hn
  have hpl := hp.n
  have hql := hq.n
  refine pv T_ok mixed Tryz.func28 rfl (by decide) _ (by simp [Tryz.ntmps28]) ⟨[0, 1, 4], []⟩ (by kernel_rfl) _ ?_
  show vc T _ _ (Option.get! Tryz.f28.body) _ _
  simp only [Tryz.f28,Tryz.ntmps28,Option.get!,iS,iM,eO,J1]
  simp only [vx,T,K5,J0,K6,K7,↓reduceIte,J1,J2,J3,J4,J5,J6,J7,J8,J9,reduceCtorEq,K1,K2,K3,K4,PV,PC]
  refine CallK.fresh (concatP2 p q (by omega)) ?_
  simp only [vx,T,K5,J0,K6,K7,↓reduceIte,J1,J2,J3,J4,J5,J6,J7,J8,J9,reduceCtorEq,K1,K2,K3,K4]
  refine Cm 5 rfl trivial (normal_spec (hp.append hq) hn hl hB hd rfl) ?_
  rintro _ _ ⟨k, f, rfl, hk, hf⟩ _
  simp only [vx,T,K5,J0,K6,K7,↓reduceIte,J1,J2,J3,J4,J5,J6,J7,J8,J9,reduceCtorEq,K1,K2,K3,K4]
  exact Va ⟨rfl, hk, hf⟩
theorem Index_spec (xs : List Int) (v : Int) (hl : xs.length < 2 ^ 38) (hv : v ∈ xs) : Pr Tryz.prog 47 [.one (.ints .i64 xs), .one (.int .i64 v)] (.one (.int .i64 (xs.idxOf v : Nat))) := by
  refine pv T_ok mixed Tryz.func47 rfl (by decide) _ (by simp [Tryz.ntmps47]) ⟨[0, 1, 4, 5, 7, 8, 9, 16], []⟩ (by kernel_rfl) _ ?_
  show vc T _ _ (Option.get! Tryz.f47.body) _ _
  simp only [Tryz.f47,Tryz.ntmps47,Option.get!,iS,iM,eO,J1]
  simp only [vx,T,K5,J0,K6,K7,↓reduceIte,J1,J2,J3,J4,J5,J6,J7,J8,J9,reduceCtorEq,K1,K2,K3,K4]
  refine Lk (fun y : {i : Nat // i ≤ xs.length ∧ ∀ k, k < i → xs.getD k 0 ≠ v} => ⟨[(0, .one (.ints .i64 xs)), (1, .one (.int .i64 v)), (7, .one (.int .i64 xs.length)), (8, .one (.int .i64 y.1))], [], 1, 19⟩) (fun y => xs.length - y.1) ⟨0, Nat.zero_le _, fun k h => absurd h (Nat.not_lt_zero _)⟩ ?_ (fun ⟨i, hi, hz⟩ => ?_)
  · refine Sa ?_; simp only [rx,Y0,Y1,Y2,Y3,Y4,Y5,Y6,Y7,ren,↓reduceIte,J1,J2,J3,J4,J5,J6,J7,J8,J9,reduceCtorEq,K1,K2,K3,K4,Y8,Y9,X2,X3,X4]
  have i1 := wI i (by omega)
  simp only [vx,T,K5,J0,K6,K7,↓reduceIte,J1,J2,J3,J4,J5,J6,J7,J8,J9,reduceCtorEq,K1,K2,K3,K4]
  refine ⟨fun h1 => Lg ?_, fun h1 => Lg ?_⟩
  · simp only [vx,T,K5,J0,K6,K7,↓reduceIte,J1,J2,J3,J4,J5,J6,J7,J8,J9,reduceCtorEq,K1,K2,K3,K4]
    refine ⟨by omega, ?_⟩
    refine ⟨fun h2 => Lg ?_, fun h2 => Lg ?_⟩
    · have e1 : xs.idxOf v = i := by
        unfold List.idxOf
        rw [List.findIdx_eq (by omega)]
        refine ⟨by have e := h2; rw [X7, X8 (by omega)] at e; simpa using e.symm, fun j hj => ?_⟩
        have := hz j hj
        rw [X7, X8 (by omega)] at this
        simpa using this
      simp only [vx,T,K5,J0,K6,K7,↓reduceIte,J1,J2,J3,J4,J5,J6,J7,J8,J9,reduceCtorEq,K1,K2,K3,K4,e1]
      exact Ve rfl
    · simp only [vx,T,K5,J0,K6,K7,↓reduceIte,J1,J2,J3,J4,J5,J6,J7,J8,J9,reduceCtorEq,K1,K2,K3,K4]
      simp only [i1]
      refine Lq ⟨i + 1, by omega, fun k hk => ?_⟩ ?_ ?_
      · by_cases h3 : k < i
        · exact hz k h3
        · rw [show k = i by omega]; exact fun e => h2 e.symm
      · refine Sa ?_; simp only [rx,Y0,Y1,Y2,Y3,Y4,Y5,Y6,Y7,ren,↓reduceIte,J1,J2,J3,J4,J5,J6,J7,J8,J9,reduceCtorEq,K1,K2,K3,K4,Y8,Y9,X2,X3,X4]
      · simp only; omega
  · exfalso
    obtain ⟨k, hk, rfl⟩ := List.mem_iff_getElem.1 hv
    refine hz k (by omega) ?_
    rw [X7, X8 hk]; rfl
theorem pb_derP {p : List Mono} {n d B : Nat} (h : PB p n d B) (hd : d < 2 ^ 30) (v : Int) : PB (derP p v) n d (B + 2) := by
  refine ⟨?_, fun m hm => ?_⟩
  · have : ∀ l : List Mono, (derP l v).length ≤ l.length := by
      intro l
      induction l with
      | nil => exact Nat.le_refl _
      | cons m r ih =>
        have e : derP (m :: r) v = (if m.2.count v = 0 then [] else [(m.1 * (m.2.count v : Nat), m.2.erase v)]) ++ derP r v := by unfold derP; rw [List.flatMap_cons]
        rw [e, X6, List.length_cons]
        split <;> simp only [List.length_nil,List.length_cons] <;> omega
    exact Nat.le_trans (this p) h.n
  · obtain ⟨x, hx, he⟩ := List.mem_flatMap.1 hm
    split at he
    · cases he
    · obtain rfl := List.mem_singleton.1 he
      have h1 := h.m x hx
      have h2 := qm_mul x.1 ((x.2.count v : Nat) : Rat)
      have h3 : qm ((x.2.count v : Nat) : Rat) ≤ 2 := qm_ofInt (z := (x.2.count v : Nat)) (by have := List.count_le_length (a := v) (l := x.2); omega)
      exact ⟨by simp only; omega, Nat.le_trans List.length_erase_le h1.2.1, fun y hy => h1.2.2 y (List.mem_of_mem_erase hy)⟩
theorem take_drop_erase {l : List Int} {v : Int} : l.take (l.idxOf v) ++ l.drop (l.idxOf v + 1) = l.erase v := by
  rw [← List.eraseIdx_eq_take_drop_succ]; exact (List.erase_eq_eraseIdx_of_idxOf rfl).symm
theorem count_step {l : List Int} {v : Int} {j : Nat} (h : j < l.length) : (l.take (j + 1)).count v = (l.take j).count v + (if l.getD j 0 = v then 1 else 0) := by
  rw [List.take_add_one, List.count_append, X8 h, X7, X8 h]
  simp [List.count_singleton]
theorem iDer_spec {p : List Mono} {n d B : Nat} (v : Int) (hp : PB p n d B) (hd : d < 2 ^ 30) (hn : n * (B + 3) < 2 ^ 30) (hB : B < 2 ^ 29) : Pr Tryz.prog 13 [PV p, .one (.int .i64 v)] (PV (derM p v)) := by
  have hpl := hp.n
  have hn1 : n < 2 ^ 30 := Nat.lt_of_le_of_lt (Nat.le_mul_of_pos_right _ (by omega)) hn
  refine pv T_ok mixed Tryz.func13 rfl (by decide) _ (by simp [Tryz.ntmps13]) ⟨[0, 1, 4, 5, 7, 8, 10, 11, 12, 13, 14, 15, 16, 20, 21, 22, 23, 28, 33], []⟩ (by kernel_rfl) _ ?_
  show vc T _ _ (Option.get! Tryz.f13.body) _ _
  simp only [Tryz.f13,Tryz.ntmps13,Option.get!,iS,iM,eO,J1]
  simp only [vx,T,K5,J0,K6,K7,↓reduceIte,J1,J2,J3,J4,J5,J6,J7,J8,J9,reduceCtorEq,K1,K2,K3,K4,PV,PC]
  refine Lk (fun y : {y : Nat × List Mono // y.1 ≤ p.length ∧ y.2 = derP (p.take y.1) v ∧ y.2.length ≤ y.1} => ⟨[(1, .one (.int .i64 v)), (4, .one .nil), (5, .one (.own 1 5 0 y.1.2.length)), (13, PV p), (14, .one (.int .i64 p.length)), (15, .one (.int .i64 y.1.1))], [(1, ⟨.rows 47 5 y.1.2.length (fR y.1.2), true⟩)], 5, 62⟩) (fun y => p.length - y.1.1) ⟨(0, []), by omega, rfl, by simp⟩ ?_ (fun ⟨⟨i, ls⟩, hi, hls, hll⟩ => ?_)
  · refine Sa ?_; simp only [rx,Y0,Y1,Y2,Y3,Y4,Y5,Y6,Y7,ren,↓reduceIte,J1,J2,J3,J4,J5,J6,J7,J8,J9,reduceCtorEq,K1,K2,K3,K4,Y8,Y9,X2,X3,X4,PV,PC]
  simp only at hi hls hll
  simp only [vx,T,K5,J0,K6,K7,↓reduceIte,J1,J2,J3,J4,J5,J6,J7,J8,J9,reduceCtorEq,K1,K2,K3,K4,PV,PC]
  refine ⟨fun h1 => Lg ?_, fun h1 => Lg ?_⟩
  · have hil : i < p.length := by omega
    have i1 := wI i (by omega)
    obtain ⟨a, ha⟩ : ∃ a, a = p.getD i default := ⟨_, rfl⟩
    have hpi := hp.get hil
    have hstep : derP (p.take (i + 1)) v = derP (p.take i) v ++ (if (p.getD i default).2.count v = 0 then [] else [((p.getD i default).1 * ((p.getD i default).2.count v : Nat), (p.getD i default).2.erase v)]) := take_flatMap_step (fun m : Mono => if m.2.count v = 0 then [] else [(m.1 * (m.2.count v : Nat), m.2.erase v)]) hil
    rw [← ha] at hstep hpi
    rw [← hls] at hstep
    simp only [vx,T,K5,J0,K6,K7,↓reduceIte,J1,J2,J3,J4,J5,J6,J7,J8,J9,reduceCtorEq,K1,K2,K3,K4,PV,PC,← ha,mC]
    refine ⟨by omega, Lk (fun y : {j : Nat // j ≤ a.2.length} => ⟨[(1, .one (.int .i64 v)), (4, .one .nil), (5, .one (.own 1 5 0 ls.length)), (7, .one (.ptr 2 0)), (8, .one (.int .i64 ((a.2.take y.1).count v : Nat))), (13, PV p), (14, .one (.int .i64 p.length)), (15, .one (.int .i64 i)), (20, .one (.ints .i64 a.2)), (21, .one (.int .i64 a.2.length)), (22, .one (.int .i64 y.1))], [(1, ⟨.rows 47 5 ls.length (fR ls), true⟩), (2, ⟨.var (mL a), true⟩)], 5, 62⟩) (fun y => a.2.length - y.1) ⟨0, Nat.zero_le _⟩ ?_ (fun ⟨j, hj⟩ => ?_)⟩
    · refine Sa ?_; simp only [rx,Y0,Y1,Y2,Y3,Y4,Y5,Y6,Y7,ren,↓reduceIte,J1,J2,J3,J4,J5,J6,J7,J8,J9,reduceCtorEq,K1,K2,K3,K4,Y8,Y9,X2,X3,X4,PV,PC,mL]
      rfl
    have hcj : (a.2.take j).count v ≤ j := Nat.le_trans List.count_le_length (by rw [X5]; omega)
    simp only [vx,T,K5,J0,K6,K7,↓reduceIte,J1,J2,J3,J4,J5,J6,J7,J8,J9,reduceCtorEq,K1,K2,K3,K4,PV,PC,mL]
    refine ⟨fun h2 => Lg ?_, fun h2 => Lg ?_⟩
    · have j1 : IntKind.i64.wrap ((j : Int) + 1) = ((j + 1 : Nat) : Int) := by rw [IntWalk.i64_in _ (by omega)]; omega
      have c1 : IntKind.i64.wrap (((a.2.take j).count v : Int) + 1) = (((a.2.take j).count v + 1 : Nat) : Int) := by rw [IntWalk.i64_in _ (by omega)]; omega
      have hcs := count_step (l := a.2) (v := v) (j := j) (by omega)
      simp only [vx,T,K5,J0,K6,K7,↓reduceIte,J1,J2,J3,J4,J5,J6,J7,J8,J9,reduceCtorEq,K1,K2,K3,K4,PV,PC,mL]
      refine ⟨by omega, ?_⟩
      refine ⟨fun h3 => Lg ?_, fun h3 => Lg ?_⟩
      · rw [if_pos h3] at hcs
        simp only [vx,T,K5,J0,K6,K7,↓reduceIte,J1,J2,J3,J4,J5,J6,J7,J8,J9,reduceCtorEq,K1,K2,K3,K4,PV,PC,mL]
        simp only [j1,c1]
        rw [← hcs]
        refine Lq ⟨j + 1, by omega⟩ ?_ ?_
        · refine Sa ?_; simp only [rx,Y0,Y1,Y2,Y3,Y4,Y5,Y6,Y7,ren,↓reduceIte,J1,J2,J3,J4,J5,J6,J7,J8,J9,reduceCtorEq,K1,K2,K3,K4,Y8,Y9,X2,X3,X4,PV,PC,mL]
        · simp only; omega
      · have hcs : (a.2.take (j + 1)).count v = (a.2.take j).count v := by rw [hcs, if_neg h3]; rfl
        simp only [vx,T,K5,J0,K6,K7,↓reduceIte,J1,J2,J3,J4,J5,J6,J7,J8,J9,reduceCtorEq,K1,K2,K3,K4,PV,PC,mL]
        simp only [j1]
        rw [← hcs]
        refine Lq ⟨j + 1, by omega⟩ ?_ ?_
        · refine Sa ?_; simp only [rx,Y0,Y1,Y2,Y3,Y4,Y5,Y6,Y7,ren,↓reduceIte,J1,J2,J3,J4,J5,J6,J7,J8,J9,reduceCtorEq,K1,K2,K3,K4,Y8,Y9,X2,X3,X4,PV,PC,mL]
        · simp only; omega
    · have hja : a.2.take j = a.2 := List.take_of_length_le (by omega)
      rw [hja] at hcj ⊢
      simp only [vx,T,K5,J0,K6,K7,↓reduceIte,J1,J2,J3,J4,J5,J6,J7,J8,J9,reduceCtorEq,K1,K2,K3,K4,PV,PC,mL]
      refine ⟨fun h3 => Lg ?_, fun h3 => Lg ?_⟩
      · rw [if_pos (by omega), List.append_nil] at hstep
        simp only [vx,T,K5,J0,K6,K7,↓reduceIte,J1,J2,J3,J4,J5,J6,J7,J8,J9,reduceCtorEq,K1,K2,K3,K4,PV,PC,mL]
        simp only [i1]
        refine Lq ⟨(i + 1, ls), by simp only; omega, hstep.symm, by simp only; omega⟩ ?_ ?_
        · refine Sa ?_; simp only [rx,Y0,Y1,Y2,Y3,Y4,Y5,Y6,Y7,ren,↓reduceIte,J1,J2,J3,J4,J5,J6,J7,J8,J9,reduceCtorEq,K1,K2,K3,K4,Y8,Y9,X2,X3,X4,PV,PC,mL]
        · simp only; omega
      · have hcv : a.2.count v ≠ 0 := by omega
        have hva : v ∈ a.2 := by
          rcases Nat.eq_zero_or_pos (a.2.count v) with h | h
          · exact absurd h hcv
          · exact List.count_pos_iff.1 h
        rw [if_neg hcv] at hstep
        have hix : a.2.idxOf v < a.2.length := List.idxOf_lt_length_of_mem hva
        have hte := take_drop_erase (l := a.2) (v := v)
        obtain ⟨x, hx⟩ : ∃ x, x = a.2.idxOf v := ⟨_, rfl⟩
        have hidx := Index_spec a.2 v (by omega) hva
        rw [← hx] at hix hte hidx
        have x1 : IntKind.i64.wrap ((x : Int) + 1) = ((x + 1 : Nat) : Int) := by rw [IntWalk.i64_in _ (by omega)]; omega
        have e7 : (a.2.drop (x + 1)).take ((a.2.length : Int) - ((x + 1 : Nat) : Int)).toNat = a.2.drop (x + 1) := by
          rw [List.take_of_length_le]
          rw [List.length_drop]; omega
        simp only [vx,T,K5,J0,K6,K7,↓reduceIte,J1,J2,J3,J4,J5,J6,J7,J8,J9,reduceCtorEq,K1,K2,K3,K4,PV,PC,mL]
        refine Cg hidx ?_
        simp only [vx,T,K5,J0,K6,K7,↓reduceIte,J1,J2,J3,J4,J5,J6,J7,J8,J9,reduceCtorEq,K1,K2,K3,K4,PV,PC,mL,x1]
        simp only [e7]
        refine ⟨by omega, by omega, CallK.fresh (concatZ2 _ _ (by rw [X5, List.length_drop]; omega)) ?_⟩
        rw [hte]
        simp only [vx,T,K5,J0,K6,K7,↓reduceIte,J1,J2,J3,J4,J5,J6,J7,J8,J9,reduceCtorEq,K1,K2,K3,K4,PV,PC,mL]
        refine Cg (iQFromInt_spec (a.2.count v : Nat) (by omega) (by omega)) ?_
        simp only [vx,T,K5,J0,K6,K7,↓reduceIte,J1,J2,J3,J4,J5,J6,J7,J8,J9,reduceCtorEq,K1,K2,K3,K4,QV,QC]
        refine Cg (iQMul_spec a.1 (Rat.ofInt (a.2.count v : Nat)) (by omega) (Nat.lt_of_le_of_lt (qm_ofInt (by omega)) (by decide))) ?_
        have hcast : Rat.ofInt ((a.2.count v : Nat) : Int) = ((a.2.count v : Nat) : Rat) := rfl
        rw [hcast]
        obtain ⟨c, hc⟩ : ∃ c, c = a.1 * ((a.2.count v : Nat) : Rat) := ⟨_, rfl⟩
        rw [← hc] at hstep ⊢
        have hlen : (ls ++ [(c, a.2.erase v)]).length = ls.length + 1 := by simp
        simp only [vx,T,K5,J0,K6,K7,↓reduceIte,J1,J2,J3,J4,J5,J6,J7,J8,J9,reduceCtorEq,K1,K2,K3,K4,QV,QC]
        simp only [i1]
        refine ⟨by omega, Lq ⟨(i + 1, ls ++ [(c, a.2.erase v)]), by simp only; omega, hstep.symm, by simp only; omega⟩ ?_ ?_⟩
        · refine Sa ?_; simp only [rx,Y0,Y1,Y2,Y3,Y4,Y5,Y6,Y7,ren,↓reduceIte,J1,J2,J3,J4,J5,J6,J7,J8,J9,reduceCtorEq,K1,K2,K3,K4,Y8,Y9,X2,X3,X4,PV,PC,mL,hlen]
          exact snoc_rows ls (c, a.2.erase v)
        · simp only; omega
  · have hil : i = p.length := by omega
    have e1 : ls = derP p v := by rw [hls, hil, List.take_length]
    subst e1
    simp only [vx,T,K5,J0,K6,K7,↓reduceIte,J1,J2,J3,J4,J5,J6,J7,J8,J9,reduceCtorEq,K1,K2,K3,K4]
    refine Cm 1 rfl trivial (normal_spec (pb_derP hp hd v) (by omega) hn1 (by omega) hd rfl) ?_
    rintro _ _ ⟨k, f, rfl, hk, hf⟩ _
    simp only [vx,T,K5,J0,K6,K7,↓reduceIte,J1,J2,J3,J4,J5,J6,J7,J8,J9,reduceCtorEq,K1,K2,K3,K4,PV,PC]
    exact Va ⟨rfl, hk, hf⟩
end Go.Proofs.YtllnmicmblbfaaaGreat
/-
  slices.Sort of integers, as a function that turns a block.
-/
namespace Go.Proofs.YtllnmicmblbfaaaGreat
open Go Go.Proofs Go.Eng Go.Sort
theorem mergeSort_srtZ (xs : List Int) : (xs.mergeSort fun x y => decide (x ≤ y)) = srtZ xs := rfl
def SortR (e : TypeId) (xs : List Int) (r : V) (B' : Bk) : Prop := r = .tup [] ∧ B' = .ints e .i64 (srtZ xs)
theorem heap_mapBlock_other (w : World) (blk k : Nat) (f : Array Value → Array Value) (h : k ≠ blk) : (mapBlock w blk f).heap[k]? = w.heap[k]? := by
  simp only [mapBlock,Array.getElem?_modify]
  rw [if_neg (fun e => h e.symm)]
theorem heap_mapBlock_same (w : World) (blk : Nat) (f : Array Value → Array Value) {c : Array Value} {e : TypeId} {fr : Nat × Nat} (h : w.heap[blk]? = some (.cells c e fr)) : (mapBlock w blk f).heap[blk]? = some (.cells (f c) e fr) := by
  simp [mapBlock, Array.getElem?_modify, h, onCells]
theorem sortZ_spec (e : TypeId) (xs : List Int) (hl : xs.length < 2 ^ 38) : Mc Tryz.prog 57 [.one (.own 0 1 0 xs.length)] (.ints e .i64 xs) (SortR e xs) := by
  refine ⟨⟨_, Tryz.func57, by rfl, by rfl⟩, fun ok w vs l hok hll hla hb hr => ?_⟩
  obtain ⟨vs⟩ := vs
  match vs, hr with
  | [v], hr =>
    obtain ⟨⟨_, _, cap, hcap, hv⟩, _⟩ := hr
    have hsl : (srtZ xs).length = xs.length := srtZ_length xs
    by_cases h0 : xs.length = 0
    · have hx : xs = [] := List.eq_nil_of_length_eq_zero h0
      subst hx
      have hv2 : ∃ p c, v = .slice p 0 c := by
        rcases hv with ⟨g, o, o', _, rfl, _⟩ | ⟨_, rfl, _⟩
        · exact ⟨_, _, rfl⟩
        · exact ⟨_, _, rfl⟩
      obtain ⟨p, c, rfl⟩ := hv2
      refine (Tryz.slices_Sort_int_none p c w).mono ?_
      rintro e1 w' ⟨rfl, rfl⟩
      have hs0 : srtZ [] = [] := List.eq_nil_of_length_eq_zero hsl
      refine ⟨_, .tup [], .ints e .i64 [], rfl, ⟨rfl, by rw [hs0]⟩, trivial, rfl, ⟨rfl, rfl, rfl, Nat.le_refl _, fun _ _ _ => rfl, fun _ => Nat.le_refl _⟩, ?_, ⟨#[], rfl, trivial⟩⟩
      refine RepBk.ext (Ext.of_imp fun g hg => .inl hg) ⟨fun _ h => h, fun _ _ => rfl⟩ l _ (fun _ _ _ => rfl) hb
    · rcases hv with ⟨g, o, o', ha, rfl, ho, hroom⟩ | ⟨_, _, h1, _⟩
      · have ho' : o' = o := by rcases ho with ho | ho <;> omega
        subst ho'
        unfold RepBk at hb
        rw [ha] at hb
        obtain ⟨cur, e', hg, hcell⟩ := hb
        have hgl := (hla g o' ha).1
        have hx : ∀ j, j < xs.length → cur[o' + j]? = some (.int .i64 (xs.getD j 0)) := by
          intro j hj
          obtain ⟨u, hu, hru⟩ := hcell j (.int .i64 (xs.getD j 0)) (by simp [Bk.cell, X8 hj])
          have hru : u = .int .i64 (xs.getD j 0) := hru
          rw [hu, hru]
        have hH : Holds (Value.int .i64) w g o' xs.toArray := by
          intro j hj
          have hj : j < xs.length := by simpa using hj
          refine ⟨?_, ?_⟩
          · rw [World.cell?, hg]
            simp only [Option.isSome_none,Bool.false_eq_true,if_false]
            rw [hx j hj]
            congr 2
            simp [X7, hj]
          · simp only [World.frozen?,hg]
            simp
        refine (Tryz.slices_Sort_int g o' cap xs w hH hgl (by omega)).mono ?_
        rintro e1 w' ⟨rfl, n, os, rfl⟩
        rw [mergeSort_srtZ]
        have hgl' : g < (putRow (Value.int .i64) (Sort.ahead w n) g o' (srtZ xs).toArray).heap.size := by simpa using hgl
        have hgs : (putRow (Value.int .i64) (Sort.ahead w n) g o' (srtZ xs).toArray).heap[g]? = some (.cells (putCells (Value.int .i64) o' (srtZ xs).toArray cur) e' (0, 0)) := heap_mapBlock_same (Sort.ahead w n) g _ hg
        refine ⟨_, .tup [], .ints e .i64 (srtZ xs), rfl, ⟨rfl, rfl⟩, trivial, hsl, ⟨rfl, rfl, rfl, by simp, fun k hk hne => ?_, fun g' => ?_⟩, ?_, ⟨#[], rfl, trivial⟩⟩
        · rw [heap_grow_old _ _ (by simpa using hk)]
          exact heap_mapBlock_other (Sort.ahead w n) g k _ (fun e => hne o' (by rw [e]; exact ha))
        · by_cases hg' : g' < w.heap.size
          · by_cases hgg : g' = g
            · subst hgg
              simp only [rowSize,heap_grow_old _ _ hgl',hgs,hg,putCells]
              simp
            · rw [rowSize_of_block (w' := grow _ os) (w := w) (by rw [heap_grow_old _ _ (by simpa using hg')]; exact heap_mapBlock_other (Sort.ahead w n) g g' _ hgg)]
              exact Nat.le_refl _
          · rw [rowSize_lt hg']; exact Nat.zero_le _
        · unfold RepBk
          rw [ha]
          refine ⟨_, e', by rw [heap_grow_old _ _ hgl']; exact hgs, fun j c hj => ?_⟩
          simp only [Bk.cell] at hj
          have hjl : j < (srtZ xs).length := by
            rcases Nat.lt_or_ge j (srtZ xs).length with h | h
            · exact h
            · rw [List.getElem?_eq_none h] at hj; cases hj
          rw [X8 hjl] at hj
          simp only [Option.map_some,Option.some.injEq] at hj
          subst hj
          refine ⟨.int .i64 ((srtZ xs)[j]), ?_, rfl⟩
          have hc := hx j (by omega)
          simp only [putCells,Array.getElem?_mapIdx,hc,Option.map_some]
          rw [if_pos ⟨by omega, by simp; omega⟩]
          congr 2
          simp [hjl]
      · exact absurd h1 h0
open Go Go.Eng
theorem iMulP_spec {p q : List Mono} {n d B n' d' B' : Nat} (hp : PB p n d B) (hq : PB q n' d' B') (hd : d + d' < 2 ^ 30) (hn : n * n' * (B + B' + 1) < 2 ^ 30) (hn1 : n < 2 ^ 30) (hn2 : n' < 2 ^ 30) (hB : B + B' < 2 ^ 30) : Pr Tryz.prog 27 [PV p, PV q] (PV (mulM p q)) := by
  have hpl := hp.n
  have hql := hq.n
  obtain ⟨g, hg⟩ : ∃ g : Mono → Mono → Mono, g = fun a b => (a.1 * b.1, srtZ (a.2 ++ b.2)) := ⟨_, rfl⟩
  have hnn : n * n' < 2 ^ 30 := Nat.lt_of_le_of_lt (Nat.le_mul_of_pos_right _ (by omega)) hn
  have hL : p.length * q.length ≤ n * n' := Nat.mul_le_mul hpl hql
  have hlen : ∀ x, x ≤ p.length → ((p.take x).flatMap fun a => q.map (g a)).length = x * q.length := by
    intro x hx
    have : ∀ l : List Mono, (l.flatMap fun a => q.map (g a)).length = l.length * q.length := by
      intro l
      induction l with
      | nil => simp
      | cons a l ih => rw [List.flatMap_cons, X6, ih, List.length_map, List.length_cons, Nat.add_mul]; omega
    rw [this, X5, Nat.min_eq_left hx]
  refine pv T_ok mixed Tryz.func27 rfl (by decide) _ (by simp [Tryz.ntmps27]) ⟨[0, 1, 4, 5, 7, 9, 10, 11, 12, 13, 14, 17, 18, 19, 20], []⟩ (by kernel_rfl) _ ?_
  show vc T _ _ (Option.get! Tryz.f27.body) _ _
  simp only [Tryz.f27,Tryz.ntmps27,Option.get!,iS,iM,eO,J1]
  simp only [vx,T,K5,J0,K6,K7,↓reduceIte,J1,J2,J3,J4,J5,J6,J7,J8,J9,reduceCtorEq,K1,K2,K3,K4,PV,PC]
  refine Lk (fun y : {y : Nat × List Mono // y.1 ≤ p.length ∧ y.2 = (p.take y.1).flatMap fun a => q.map (g a)} => ⟨[(1, PV q), (4, .one .nil), (5, .one (.own 1 5 0 y.1.2.length)), (11, PV p), (12, .one (.int .i64 p.length)), (13, .one (.int .i64 y.1.1))], [(1, ⟨.rows 47 5 y.1.2.length (fR y.1.2), true⟩)], 5, 45⟩) (fun y => p.length - y.1.1) ⟨(0, []), by omega, rfl⟩ ?_ (fun ⟨⟨i, ls⟩, hi, hls⟩ => ?_)
  · refine Sa ?_; simp only [rx,Y0,Y1,Y2,Y3,Y4,Y5,Y6,Y7,ren,↓reduceIte,J1,J2,J3,J4,J5,J6,J7,J8,J9,reduceCtorEq,K1,K2,K3,K4,Y8,Y9,X2,X3,X4,PV,PC]
  simp only at hi hls
  simp only [vx,T,K5,J0,K6,K7,↓reduceIte,J1,J2,J3,J4,J5,J6,J7,J8,J9,reduceCtorEq,K1,K2,K3,K4,PV,PC]
  refine ⟨fun h1 => Lg ?_, fun h1 => Lg ?_⟩
  · have hil : i < p.length := by omega
    have i1 := wI i (by omega)
    obtain ⟨a, ha⟩ : ∃ a, a = p.getD i default := ⟨_, rfl⟩
    have hpi := hp.get hil
    have hstep := take_flatMap_step (fun a => q.map (g a)) hil
    rw [← ha] at hstep hpi
    rw [← hls] at hstep
    simp only [vx,T,K5,J0,K6,K7,↓reduceIte,J1,J2,J3,J4,J5,J6,J7,J8,J9,reduceCtorEq,K1,K2,K3,K4,PV,PC,← ha,mC]
    refine ⟨by omega, Lk (fun y : {y : Nat × List Mono // y.1 ≤ q.length ∧ y.2 = ls ++ (q.take y.1).map (g a)} => ⟨[(1, PV q), (4, .one .nil), (5, .one (.own 1 5 0 y.1.2.length)), (7, .one (.ptr 2 0)), (11, PV p), (12, .one (.int .i64 p.length)), (13, .one (.int .i64 i)), (17, PV q), (18, .one (.int .i64 q.length)), (19, .one (.int .i64 y.1.1))], [(1, ⟨.rows 47 5 y.1.2.length (fR y.1.2), true⟩), (2, ⟨.var (mL a), true⟩)], 5, 45⟩) (fun y => q.length - y.1.1) ⟨(0, ls), by omega, by simp⟩ ?_ (fun ⟨⟨k, ks⟩, hk, hks⟩ => ?_)⟩
    · refine Sa ?_; simp only [rx,Y0,Y1,Y2,Y3,Y4,Y5,Y6,Y7,ren,↓reduceIte,J1,J2,J3,J4,J5,J6,J7,J8,J9,reduceCtorEq,K1,K2,K3,K4,Y8,Y9,X2,X3,X4,PV,PC,mL]
    simp only at hk hks
    simp only [vx,T,K5,J0,K6,K7,↓reduceIte,J1,J2,J3,J4,J5,J6,J7,J8,J9,reduceCtorEq,K1,K2,K3,K4,PV,PC,mL]
    refine ⟨fun h2 => Lg ?_, fun h2 => Lg ?_⟩
    · have hkl : k < q.length := by omega
      have k1 : IntKind.i64.wrap ((k : Int) + 1) = ((k + 1 : Nat) : Int) := by rw [IntWalk.i64_in _ (by omega)]; omega
      obtain ⟨b, hb⟩ : ∃ b, b = q.getD k default := ⟨_, rfl⟩
      have hqk := hq.get hkl
      have hstep2 := take_map_step (g a) hkl
      rw [← hb] at hstep2 hqk
      have hll := hlen i hi
      rw [← hls] at hll
      have hks2 : ks.length = ls.length + k := by rw [hks, X6, List.length_map, X5]; omega
      have hil2 : (i + 1) * q.length ≤ p.length * q.length := Nat.mul_le_mul_right _ hil
      rw [Nat.add_mul] at hil2
      have e9 : (ks ++ [g a b]).length = ks.length + 1 := by simp
      have hab : (a.2 ++ b.2).length < 2 ^ 38 := by rw [X6]; omega
      simp only [vx,T,K5,J0,K6,K7,↓reduceIte,J1,J2,J3,J4,J5,J6,J7,J8,J9,reduceCtorEq,K1,K2,K3,K4,PV,PC,← hb,mC]
      refine ⟨by omega, CallK.fresh (concatZ2 a.2 b.2 (by omega)) ?_⟩
      simp only [vx,T,K5,J0,K6,K7,↓reduceIte,J1,J2,J3,J4,J5,J6,J7,J8,J9,reduceCtorEq,K1,K2,K3,K4,PV,PC,mL]
      refine Cm 14 rfl trivial (sortZ_spec 3 (a.2 ++ b.2) hab) ?_
      rintro _ _ ⟨rfl, rfl⟩ _
      obtain ⟨v, hv⟩ : ∃ v, v = srtZ (a.2 ++ b.2) := ⟨_, rfl⟩
      have hvl : v.length = (a.2 ++ b.2).length := by rw [hv, srtZ_length]
      have hgab : g a b = (a.1 * b.1, v) := by rw [hg, hv]
      rw [← hv, ← hvl]
      simp only [vx,T,K5,J0,K6,K7,↓reduceIte,J1,J2,J3,J4,J5,J6,J7,J8,J9,reduceCtorEq,K1,K2,K3,K4,PV,PC,mL]
      refine Cg (iQMul_spec a.1 b.1 (by omega) (by omega)) ?_
      simp only [vx,T,K5,J0,K6,K7,↓reduceIte,J1,J2,J3,J4,J5,J6,J7,J8,J9,reduceCtorEq,K1,K2,K3,K4,PV,PC,QV,QC]
      simp only [k1]
      refine ⟨by omega, Lq ⟨(k + 1, ks ++ [g a b]), by simp only; omega, by rw [hks, List.append_assoc, ← hstep2]⟩ ?_ ?_⟩
      · refine Sa ?_; simp only [rx,Y0,Y1,Y2,Y3,Y4,Y5,Y6,Y7,ren,↓reduceIte,J1,J2,J3,J4,J5,J6,J7,J8,J9,reduceCtorEq,K1,K2,K3,K4,Y8,Y9,X2,X3,X4,PV,PC,mL,e9]
        rw [hgab]
        exact snocR rfl (a.1 * b.1, v)
      · simp only; omega
    · have hkl : k = q.length := by omega
      simp only [vx,T,K5,J0,K6,K7,↓reduceIte,J1,J2,J3,J4,J5,J6,J7,J8,J9,reduceCtorEq,K1,K2,K3,K4,PV,PC]
      simp only [i1]
      refine Lq ⟨(i + 1, ks), by simp only; omega, by rw [hstep, hks, hkl, List.take_length]⟩ ?_ ?_
      · refine Sa ?_; simp only [rx,Y0,Y1,Y2,Y3,Y4,Y5,Y6,Y7,ren,↓reduceIte,J1,J2,J3,J4,J5,J6,J7,J8,J9,reduceCtorEq,K1,K2,K3,K4,Y8,Y9,X2,X3,X4,PV,PC]
      · simp only; omega
  · have hil : i = p.length := by omega
    have e1 : ls = srtM (mulL p q) := by
      rw [hls, hil, List.take_length, hg]
      unfold mulL
      rw [srtM_flatMap]
      refine flatMap_congr' fun a _ => ?_
      unfold srtM
      rw [List.map_map]; rfl
    subst e1
    simp only [vx,T,K5,J0,K6,K7,↓reduceIte,J1,J2,J3,J4,J5,J6,J7,J8,J9,reduceCtorEq,K1,K2,K3,K4]
    refine Cm 1 rfl trivial (normal_spec (hp.mulL hq).srtM hn hnn hB hd rfl) ?_
    rintro _ _ ⟨k, f, rfl, hk, hf⟩ _
    rw [← mulM_eq] at hk hf
    simp only [vx,T,K5,J0,K6,K7,↓reduceIte,J1,J2,J3,J4,J5,J6,J7,J8,J9,reduceCtorEq,K1,K2,K3,K4,PV,PC]
    exact Va ⟨rfl, hk, hf⟩
theorem PB.one {c : Rat} {v : List Int} {d B : Nat} (hc : qm c ≤ B) (hd : v.length ≤ d) (hv : In63 v) : PB [(c, v)] 1 d B :=
  ⟨Nat.le_refl _, fun m hm => by obtain rfl := List.mem_singleton.1 hm; exact ⟨hc, hd, hv⟩⟩
theorem in63_nil : In63 [] := fun x hx => by cases hx
theorem fresh_mut {P : Program} {f : FuncId} {g : Nat → Nat → C} {R : V → Bk → Prop} (h : Mc P f [.one (.own 0 5 0 1)] (.rows 47 5 1 g) R) {ok : Nat → Prop} {w : World} (hok : ∀ g, ok g → g < w.heap.size) (o1 : Obj) (cells : Array Value)
    (hs : cells.size = 5) (hrep : ∀ j, j < 5 → ∃ u, cells[j]? = some u ∧ RepI ok w (g 0 j) u) :
    Calls P f #[.slice (some ⟨w.heap.size + 1, 0, none⟩) 1 1] ((w.alloc o1).alloc (.cells cells 47)) fun e w' => ∃ v r B', e = .returned v ∧ R r B' ∧ Go.RowKit.Below w.heap.size w w' ∧
      ∀ k f, r = .one (.rows 5 k f) → RepI (fun g => ok g ∨ (w.heap.size ≤ g ∧ g < w'.heap.size)) w' (.rows 5 k f) v := by
  obtain ⟨W, hW⟩ : ∃ W, W = (w.alloc o1).alloc (.cells cells 47) := ⟨_, rfl⟩
  have hb1 := below_alloc w o1
  have hb2 := below_alloc (w.alloc o1) (.cells cells 47)
  have hWs : W.heap.size = w.heap.size + 2 := by rw [hW]; simp
  have hWg : W.heap[w.heap.size + 1]? = some (.cells cells 47 (0, 0)) := by
    rw [hW]
    have := heap_alloc_new (w.alloc o1) (.cells cells 47)
    simpa using this
  have hWk : ∀ k, k < w.heap.size → W.heap[k]? = w.heap[k]? := fun k hk => by
    rw [hW, hb2.block k (by simp; omega), hb1.block k hk]
  have hx : Ext ok ok w W := ⟨fun g hg => ⟨hg, hWk g (hok g hg)⟩, fun g => by
    by_cases hg : g < w.heap.size
    · rw [rowSize_of_block (hWk g hg)]; exact Nat.le_refl _
    · rw [rowSize_lt hg]; exact Nat.zero_le _⟩
  rw [← hW]
  refine (h.2 ok W #[.slice (some ⟨w.heap.size + 1, 0, none⟩) 1 1] ⟨some (w.heap.size + 1, 0), 1⟩ (fun g hg => by have := hok g hg; omega) rfl (fun g o he => ?_) ?_ ⟨⟨rfl, Nat.le_refl _, 1, Nat.le_refl _, .inl ⟨w.heap.size + 1, 0, 0, rfl, rfl, .inr (by simp), ?_⟩⟩, trivial⟩).mono ?_
  · have : w.heap.size + 1 = g := by simpa using congrArg (Option.map Prod.fst) he
    subst this
    exact ⟨by omega, fun hg => by have := hok _ hg; omega⟩
  · unfold RepBk
    refine ⟨cells, 47, hWg, fun j c hj => ?_⟩
    simp only [Bk.cell] at hj
    split at hj
    · rename_i hj5
      obtain rfl := Option.some.inj hj
      obtain ⟨u, hu, hr⟩ := hrep j (by omega)
      rw [Nat.zero_add, show j / 5 = 0 by omega, show j % 5 = j by omega]
      exact ⟨u, hu, RepI.ext hx _ _ hr⟩
    · cases hj
  · rw [rowSize_of hWg, hs]; exact Nat.le_refl _
  · rintro e w' ⟨v, r, B', he, hR, _, _, hM, _, hv⟩
    refine ⟨v, r, B', he, hR, ?_, ?_⟩
    · have hsz := hM.size
      have ho : W.os = w.os ∧ W.tape = w.tape ∧ W.output = w.output := by rw [hW]; exact ⟨rfl, rfl, rfl⟩
      exact ⟨hM.os.trans ho.1, hM.tape.trans ho.2.1, hM.output.trans ho.2.2, by omega, fun k hk => (hM.block k (by omega) (fun o e => by
        have : w.heap.size + 1 = k := by simpa using congrArg (Option.map Prod.fst) e
        omega)).trans (hWk k hk)⟩
    · rintro k f rfl
      have h1 : RepI (Eng.okM ok W w') w' (.rows 5 k f) v := hv
      exact RepI.ext (Ext.of_imp fun g hg => by rcases hg with hg | ⟨h1, h2⟩; exact .inl hg; exact .inr ⟨by omega, h2⟩) _ _ h1
set_option maxRecDepth 100000 in
theorem const_spec (c : Rat) {B : Nat} (hc : qm c ≤ B) (hB : B < 2 ^ 29) : Pr Tryz.prog 17 [QV c] (PV (norM [(c, [])])) := by
  have hm := normal_spec (PB.one (d := 0) hc (Nat.le_refl _) in63_nil) (by omega) (by decide) (by omega) (by decide) (rfl : [(c, ([] : List Int))].length = 1)
  refine ⟨⟨_, Tryz.func17, by rfl, by rfl⟩, fun ok w vs hok hr => ?_⟩
  obtain ⟨vs⟩ := vs
  match vs, hr with
  | [v], hr =>
    obtain ⟨⟨us, rfl, hl⟩, _⟩ := hr
    obtain ⟨us⟩ := us
    have hlen : us.length = 4 := (RepL.length hl).symm
    match us, hlen, hl with
    | [u0, u1, u2, u3], _, hl =>
      obtain ⟨h0, h1, h2, h3, _⟩ := hl
      have h0 : u0 = .bool (zs c.num) := h0
      have h2 : u2 = .bool (zs (c.den : Int)) := h2
      have h1 : RepI ok w (.ints .u32 (zm c.num)) u1 := RepI.of_loc0 h1
      have h3 : RepI ok w (.ints .u32 (zm (c.den : Int))) u3 := RepI.of_loc0 h3
      subst h0 h2
      have h1' := h1
      have h3' := h3
      obtain ⟨a1, c1, rfl, _, _⟩ := h1
      obtain ⟨a3, c3, rfl, _, _⟩ := h3
      have hm1 : Mc Tryz.prog 51 [.one (.own 0 5 0 1)] (.rows 47 5 1 (fR [(c, [])])) (NorR [(c, [])]) := hm
      have hcells : ∀ j, j < 5 → ∃ u, #[Value.bool (zs c.num), Value.slice a1 (zm c.num).length c1, Value.bool (zs ↑c.den), Value.slice a3 (zm ↑c.den).length c3, Value.slice none 0 0][j]? = some u ∧ RepI ok w (fR [(c, [])] 0 j) u := by
        intro j hj
        match j, hj with
        | 0, _ => exact ⟨_, rfl, rfl⟩
        | 1, _ => exact ⟨_, rfl, h1'⟩
        | 2, _ => exact ⟨_, rfl, rfl⟩
        | 3, _ => exact ⟨_, rfl, h3'⟩
        | 4, _ => exact ⟨_, rfl, CLe.nil_ints .i64 ok w _ rfl⟩
      clear hr hl hm
      go_enter Tryz.func17, Tryz.ntmps17
      go_wp2_with (go_at_call 51; refine (fresh_mut hm1 hok _ _ rfl hcells).mono ?_; rintro e w' ⟨v, r, B', rfl, ⟨k, f, rfl, hk, hf⟩, hB, hv⟩)
      go_ret
      refine ⟨v, rfl, hB, ?_⟩
      have h5 := hv k f rfl
      exact RepC.of_repI (ρ := loc0) (dom := dom0) (CLe.rows hk (fun i j hi hj => CLe.of_eq (hf i j hi hj)) _ _ _ h5)
theorem var_spec (v : Int) : Pr Tryz.prog 19 [.one (.int .i64 v)] (PV [(Rat.ofInt 1, [v])]) := by
  refine pv T_ok mixed Tryz.func19 rfl (by decide) _ (by simp [Tryz.ntmps19]) ⟨[0, 2], []⟩ (by kernel_rfl) _ ?_
  show vc T _ _ (Option.get! Tryz.f19.body) _ _
  simp only [Tryz.f19,Tryz.ntmps19,Option.get!,iS,iM,eO,J1]
  simp only [vx,T,K5,J0,K6,K7,↓reduceIte,J1,J2,J3,J4,J5,J6,J7,J8,J9,reduceCtorEq,K1,K2,K3,K4]
  refine Cg (iQFromInt_spec 1 (by decide) (by decide)) ?_
  simp only [vx,T,K5,J0,K6,K7,↓reduceIte,J1,J2,J3,J4,J5,J6,J7,J8,J9,reduceCtorEq,K1,K2,K3,K4,QV,QC]
  refine Va ⟨rfl, rfl, fun i j hi hj => ?_⟩
  obtain rfl : i = 0 := by omega
  show [C.bool _, C.ints .u32 _, C.bool _, C.ints .u32 _, C.ints .i64 [v]].getD (0 * 5 + j) C.any = mC (Rat.ofInt 1, [v]) j
  rw [Nat.zero_mul, Nat.zero_add]
  exact mC_list (Rat.ofInt 1, [v]) hj
def negM (q : List Mono) : List Mono := mulM (norM [(Rat.ofInt (-1), [])]) q
def subM (p q : List Mono) : List Mono := norM (p ++ negM q)
theorem qm_one : qm (Rat.ofInt 1) ≤ 2 := qm_ofInt (by decide)
theorem qm_neg : qm (Rat.ofInt (-1)) ≤ 2 := qm_ofInt (by decide)
theorem pb_neg {q : List Mono} {n d B : Nat} (hq : PB q n d B) : PB (negM q) n d (n * (B + 4)) := by
  have h := ((PB.one (d := 0) qm_neg (Nat.le_refl _) in63_nil).norM).mulM hq
  rw [Nat.one_mul, Nat.one_mul, Nat.zero_add] at h
  exact h.mono (Nat.le_refl _) (Nat.le_refl _) (Nat.mul_le_mul_left _ (by omega))
theorem pb_sub {p q : List Mono} {n d B n' d' B' : Nat} (hp : PB p n d B) (hq : PB q n' d' B') : PB (subM p q) (n + n') (max d d') ((n + n') * (max B (n' * (B' + 4)) + 1)) := (hp.append (pb_neg hq)).norM
theorem minus_spec {p q : List Mono} {n d B n' d' B' : Nat} (hp : PB p n d B) (hq : PB q n' d' B') (hd : max d d' < 2 ^ 30) (hn : (n + n') * (max B (n' * (B' + 4)) + 1) < 2 ^ 30) (hB : max B (n' * (B' + 4)) < 2 ^ 30) (hB' : B' < 2 ^ 28) (hn' : n' * (B' + 4) < 2 ^ 30) (hn2 : n' < 2 ^ 30) :
    Pr Tryz.prog 22 [PV p, PV q] (PV (subM p q)) := by
  have h1 := (PB.one (d := 0) qm_neg (Nat.le_refl _) in63_nil).norM
  have h2 := iMulP_spec h1 hq (by omega) (by rw [Nat.one_mul]; exact Nat.lt_of_le_of_lt (Nat.mul_le_mul_left _ (by omega)) hn') (by decide) hn2 (by omega)
  have h3 := iAddP_spec hp (pb_neg hq) hd hn hB
  refine pv T_ok mixed Tryz.func22 rfl (by decide) _ (by simp [Tryz.ntmps22]) ⟨[0, 1, 4], []⟩ (by kernel_rfl) _ ?_
  show vc T _ _ (Option.get! Tryz.f22.body) _ _
  simp only [Tryz.f22,Tryz.ntmps22,Option.get!,iS,iM,eO,J1]
  simp only [vx,T,K5,J0,K6,K7,↓reduceIte,J1,J2,J3,J4,J5,J6,J7,J8,J9,reduceCtorEq,K1,K2,K3,K4,PV,PC,QV,QC]
  refine Cg (iQFromInt_spec (-1) (by decide) (by decide)) ?_
  simp only [vx,T,K5,J0,K6,K7,↓reduceIte,J1,J2,J3,J4,J5,J6,J7,J8,J9,reduceCtorEq,K1,K2,K3,K4,PV,PC,QV,QC]
  refine Cg (const_spec (Rat.ofInt (-1)) qm_neg (by decide)) ?_
  simp only [vx,T,K5,J0,K6,K7,↓reduceIte,J1,J2,J3,J4,J5,J6,J7,J8,J9,reduceCtorEq,K1,K2,K3,K4,PV,PC,QV,QC]
  refine Cg h2 ?_
  simp only [vx,T,K5,J0,K6,K7,↓reduceIte,J1,J2,J3,J4,J5,J6,J7,J8,J9,reduceCtorEq,K1,K2,K3,K4,PV,PC,QV,QC]
  refine Cg h3 ?_
  simp only [vx,T,K5,J0,K6,K7,↓reduceIte,J1,J2,J3,J4,J5,J6,J7,J8,J9,reduceCtorEq,K1,K2,K3,K4,PV,PC,QV,QC]
  exact Ve rfl
theorem square_spec {p : List Mono} {n d B : Nat} (hp : PB p n d B) (hd : d + d < 2 ^ 30) (hn : n * n * (B + B + 1) < 2 ^ 30) (hn1 : n < 2 ^ 30) (hB : B + B < 2 ^ 30) : Pr Tryz.prog 25 [PV p] (PV (mulM p p)) := by
  refine pv T_ok mixed Tryz.func25 rfl (by decide) _ (by simp [Tryz.ntmps25]) ⟨[0, 2], []⟩ (by kernel_rfl) _ ?_
  show vc T _ _ (Option.get! Tryz.f25.body) _ _
  simp only [Tryz.f25,Tryz.ntmps25,Option.get!,iS,iM,eO,J1]
  simp only [vx,T,K5,J0,K6,K7,↓reduceIte,J1,J2,J3,J4,J5,J6,J7,J8,J9,reduceCtorEq,K1,K2,K3,K4,PV,PC,QV,QC]
  refine Cg (iMulP_spec hp hp hd hn hn1 hn1 hB) ?_
  simp only [vx,T,K5,J0,K6,K7,↓reduceIte,J1,J2,J3,J4,J5,J6,J7,J8,J9,reduceCtorEq,K1,K2,K3,K4,PV,PC,QV,QC]
  exact Ve rfl
def VV (a : List Mono × List Mono) : V := .agg [PC a.1, PC a.2]
theorem dot_spec (a b : List Mono × List Mono) {r : List Mono} (h1 : Pr Tryz.prog 27 [PV a.1, PV b.1] (PV (mulM a.1 b.1))) (h2 : Pr Tryz.prog 27 [PV a.2, PV b.2] (PV (mulM a.2 b.2)))
    (h3 : Pr Tryz.prog 28 [PV (mulM a.1 b.1), PV (mulM a.2 b.2)] (PV r)) : Pr Tryz.prog 24 [VV a, VV b] (PV r) := by
  refine pv T_ok mixed Tryz.func24 rfl (by decide) _ (by simp [Tryz.ntmps24]) ⟨[0, 1, 2, 3, 4], []⟩ (by kernel_rfl) _ ?_
  show vc T _ _ (Option.get! Tryz.f24.body) _ _
  simp only [Tryz.f24,Tryz.ntmps24,Option.get!,iS,iM,eO,J1]
  simp only [vx,T,K5,J0,K6,K7,↓reduceIte,J1,J2,J3,J4,J5,J6,J7,J8,J9,reduceCtorEq,K1,K2,K3,K4,VV,PV,PC]
  refine Cg h1 ?_
  simp only [vx,T,K5,J0,K6,K7,↓reduceIte,J1,J2,J3,J4,J5,J6,J7,J8,J9,reduceCtorEq,K1,K2,K3,K4,VV,PV,PC]
  refine Cg h2 ?_
  simp only [vx,T,K5,J0,K6,K7,↓reduceIte,J1,J2,J3,J4,J5,J6,J7,J8,J9,reduceCtorEq,K1,K2,K3,K4,VV,PV,PC]
  refine Cg h3 ?_
  simp only [vx,T,K5,J0,K6,K7,↓reduceIte,J1,J2,J3,J4,J5,J6,J7,J8,J9,reduceCtorEq,K1,K2,K3,K4,VV,PV,PC]
  exact Ve rfl
theorem cross_spec (a b : List Mono × List Mono) {r : List Mono} (h1 : Pr Tryz.prog 27 [PV a.1, PV b.2] (PV (mulM a.1 b.2))) (h2 : Pr Tryz.prog 27 [PV a.2, PV b.1] (PV (mulM a.2 b.1)))
    (h3 : Pr Tryz.prog 22 [PV (mulM a.1 b.2), PV (mulM a.2 b.1)] (PV r)) : Pr Tryz.prog 26 [VV a, VV b] (PV r) := by
  refine pv T_ok mixed Tryz.func26 rfl (by decide) _ (by simp [Tryz.ntmps26]) ⟨[0, 1, 2, 3, 4], []⟩ (by kernel_rfl) _ ?_
  show vc T _ _ (Option.get! Tryz.f26.body) _ _
  simp only [Tryz.f26,Tryz.ntmps26,Option.get!,iS,iM,eO,J1]
  simp only [vx,T,K5,J0,K6,K7,↓reduceIte,J1,J2,J3,J4,J5,J6,J7,J8,J9,reduceCtorEq,K1,K2,K3,K4,VV,PV,PC]
  refine Cg h1 ?_
  simp only [vx,T,K5,J0,K6,K7,↓reduceIte,J1,J2,J3,J4,J5,J6,J7,J8,J9,reduceCtorEq,K1,K2,K3,K4,VV,PV,PC]
  refine Cg h2 ?_
  simp only [vx,T,K5,J0,K6,K7,↓reduceIte,J1,J2,J3,J4,J5,J6,J7,J8,J9,reduceCtorEq,K1,K2,K3,K4,VV,PV,PC]
  refine Cg h3 ?_
  simp only [vx,T,K5,J0,K6,K7,↓reduceIte,J1,J2,J3,J4,J5,J6,J7,J8,J9,reduceCtorEq,K1,K2,K3,K4,VV,PV,PC]
  exact Ve rfl
def varM (v : Int) : List Mono := [(Rat.ofInt 1, [v])]
def ptM (i : Nat) : List Mono × List Mono := (varM (2 * i), varM (2 * i + 1))
theorem point_spec (i : Nat) (hi : i < 2 ^ 40) : Pr Tryz.prog 21 [.one (.int .i64 i)] (VV (ptM i)) := by
  have w1 : IntKind.i64.wrap (2 * (i : Int)) = 2 * (i : Int) := IntWalk.i64_in _ (by omega)
  have w2 : IntKind.i64.wrap (2 * (i : Int) + 1) = 2 * (i : Int) + 1 := IntWalk.i64_in _ (by omega)
  refine pv T_ok mixed Tryz.func21 rfl (by decide) _ (by simp [Tryz.ntmps21]) ⟨[0, 2], []⟩ (by kernel_rfl) _ ?_
  show vc T _ _ (Option.get! Tryz.f21.body) _ _
  simp only [Tryz.f21,Tryz.ntmps21,Option.get!,iS,iM,eO,J1]
  simp only [vx,T,K5,J0,K6,K7,↓reduceIte,J1,J2,J3,J4,J5,J6,J7,J8,J9,reduceCtorEq,K1,K2,K3,K4,w1]
  refine Cg (var_spec _) ?_
  simp only [vx,T,K5,J0,K6,K7,↓reduceIte,J1,J2,J3,J4,J5,J6,J7,J8,J9,reduceCtorEq,K1,K2,K3,K4,PV,PC,w1,w2]
  refine Cg (var_spec _) ?_
  simp only [vx,T,K5,J0,K6,K7,↓reduceIte,J1,J2,J3,J4,J5,J6,J7,J8,J9,reduceCtorEq,K1,K2,K3,K4,PV,PC,VV,ptM,varM]
  exact Ve rfl
theorem pb_var {v : Int} (h0 : 0 ≤ v) (h1 : v < 9223372036854775808) : PB (varM v) 1 1 2 := PB.one qm_one (Nat.le_refl _) (fun x hx => by
  obtain rfl := List.mem_singleton.1 hx; exact ⟨h0, h1⟩)
def wayM (i k : Nat) : List Mono × List Mono := (subM (ptM k).1 (ptM i).1, subM (ptM k).2 (ptM i).2)
theorem pb_wayx (i k : Nat) (hi : i < 2 ^ 40) (hk : k < 2 ^ 40) : PB (wayM i k).1 2 1 14 := (pb_sub (pb_var (by omega) (by omega)) (pb_var (by omega) (by omega))).mono (by decide) (by decide) (by decide)
theorem pb_wayy (i k : Nat) (hi : i < 2 ^ 40) (hk : k < 2 ^ 40) : PB (wayM i k).2 2 1 14 := (pb_sub (pb_var (by omega) (by omega)) (pb_var (by omega) (by omega))).mono (by decide) (by decide) (by decide)
theorem way_spec (i k : Nat) (hi : i < 2 ^ 40) (hk : k < 2 ^ 40) : Pr Tryz.prog 23 [.one (.int .i64 i), .one (.int .i64 k)] (VV (wayM i k)) := by
  have h1 := minus_spec (pb_var (v := 2 * (k : Int)) (by omega) (by omega)) (pb_var (v := 2 * (i : Int)) (by omega) (by omega)) (by decide) (by decide) (by decide) (by decide) (by decide) (by decide)
  have h2 := minus_spec (pb_var (v := 2 * (k : Int) + 1) (by omega) (by omega)) (pb_var (v := 2 * (i : Int) + 1) (by omega) (by omega)) (by decide) (by decide) (by decide) (by decide) (by decide) (by decide)
  refine pv T_ok mixed Tryz.func23 rfl (by decide) _ (by simp [Tryz.ntmps23]) ⟨[0, 1, 4, 5, 6], []⟩ (by kernel_rfl) _ ?_
  show vc T _ _ (Option.get! Tryz.f23.body) _ _
  simp only [Tryz.f23,Tryz.ntmps23,Option.get!,iS,iM,eO,J1]
  simp only [vx,T,K5,J0,K6,K7,↓reduceIte,J1,J2,J3,J4,J5,J6,J7,J8,J9,reduceCtorEq,K1,K2,K3,K4]
  refine Cg (point_spec i hi) ?_
  simp only [vx,T,K5,J0,K6,K7,↓reduceIte,J1,J2,J3,J4,J5,J6,J7,J8,J9,reduceCtorEq,K1,K2,K3,K4,VV,PC,ptM]
  refine Cg (point_spec k hk) ?_
  simp only [vx,T,K5,J0,K6,K7,↓reduceIte,J1,J2,J3,J4,J5,J6,J7,J8,J9,reduceCtorEq,K1,K2,K3,K4,VV,PC,ptM]
  refine Cg h1 ?_
  simp only [vx,T,K5,J0,K6,K7,↓reduceIte,J1,J2,J3,J4,J5,J6,J7,J8,J9,reduceCtorEq,K1,K2,K3,K4,PV,PC]
  refine Cg h2 ?_
  simp only [vx,T,K5,J0,K6,K7,↓reduceIte,J1,J2,J3,J4,J5,J6,J7,J8,J9,reduceCtorEq,K1,K2,K3,K4,PV,PC,VV,wayM]
  exact Ve rfl
end Go.Proofs.YtllnmicmblbfaaaGreat
/-
  The example of the chapter, reckoned.
-/
namespace Go.Eng
def insI (x : Int) : List Int → List Int
  | [] => [x]
  | y :: ys => if x ≤ y then x :: y :: ys else y :: insI x ys
def isrt : List Int → List Int
  | [] => []
  | x :: xs => insI x (isrt xs)
theorem insI_perm (x : Int) : ∀ l, (insI x l).Perm (x :: l)
  | [] => .refl _
  | y :: ys => by
    simp only [insI]
    split
    · exact .refl _
    · exact ((insI_perm x ys).cons y).trans (List.Perm.swap x y ys)
theorem insI_mem {x z : Int} {l : List Int} (h : z ∈ insI x l) : z = x ∨ z ∈ l := by simpa using (insI_perm x l).mem_iff.1 h
theorem insI_pair (x : Int) : ∀ {l : List Int}, l.Pairwise (· ≤ ·) → (insI x l).Pairwise (· ≤ ·)
  | [], _ => List.pairwise_cons.2 ⟨(fun _ h => by cases h), List.Pairwise.nil⟩
  | y :: ys, h => by
    simp only [insI]
    have h1 := List.pairwise_cons.1 h
    split
    · rename_i hxy
      refine List.pairwise_cons.2 ⟨fun z hz => ?_, h⟩
      rcases List.mem_cons.1 hz with rfl | hz
      · exact hxy
      · exact Int.le_trans hxy (h1.1 z hz)
    · rename_i hxy
      refine List.pairwise_cons.2 ⟨fun z hz => ?_, insI_pair x h1.2⟩
      rcases insI_mem hz with rfl | hz
      · omega
      · exact h1.1 z hz
theorem isrt_perm : ∀ l, (isrt l).Perm l
  | [] => .refl _
  | x :: xs => (insI_perm x _).trans ((isrt_perm xs).cons x)
theorem isrt_pair : ∀ l, (isrt l).Pairwise (· ≤ ·)
  | [] => List.Pairwise.nil
  | x :: xs => insI_pair x (isrt_pair xs)
theorem isrt_eq (l : List Int) : srtZ l = isrt l := by rw [← srtZ_congr (isrt_perm l), srtZ_self (isrt_pair l)]
def mulE (p q : List Mono) : List Mono := norM ((mulL p q).map fun m => (m.1, isrt m.2))
theorem mulM_E (p q : List Mono) : mulM p q = mulE p q := by
  rw [mulM_eq]
  unfold mulE srtM
  congr 1
  exact List.map_congr_left fun m _ => by rw [isrt_eq]
def negE (q : List Mono) : List Mono := mulE (norM [(Rat.ofInt (-1), [])]) q
def subE (p q : List Mono) : List Mono := norM (p ++ negE q)
def varE (v : Int) : List Mono := [(Rat.ofInt 1, [v])]
def exE : List Mono := subE (norM (mulE (subE (varE 2) (varE 0)) (subE (varE 2) (varE 0)) ++ mulE (subE (varE 3) (varE 1)) (subE (varE 3) (varE 1)))) (mulE (norM [(Rat.ofInt 5, [])]) (norM [(Rat.ofInt 5, [])]))
def exL : List Mono := [(Rat.ofInt (-25), []), (Rat.ofInt 1, [0, 0]), (Rat.ofInt (-2), [0, 2]), (Rat.ofInt 1, [1, 1]), (Rat.ofInt (-2), [1, 3]), (Rat.ofInt 1, [2, 2]), (Rat.ofInt 1, [3, 3])]
theorem exE_eq : exE = exL := by decide +kernel
theorem exD_eq : derM exL 0 = [(Rat.ofInt 2, [0]), (Rat.ofInt (-2), [2])] := by decide +kernel
end Go.Eng
namespace Go.Proofs.YtllnmicmblbfaaaGreat
open Go Go.Eng
def qC (q : Rat) : Nat → C
  | 0 => .bool (zs q.num)
  | 1 => .ints .u32 (zm q.num)
  | 2 => .bool (zs (q.den : Int))
  | 3 => .ints .u32 (zm (q.den : Int))
  | _ => .any
def QsC (l : List Rat) : C := .rows 4 l.length (fun i => qC (l.getD i default))
open Go Go.Eng
theorem term_spec (n : Int) (vs : List Int) (h1 : -9223372036854775808 ≤ n) (h2 : n ≤ 9223372036854775807) : Pr Tryz.prog 12 [.one (.int .i64 n), .one (.ints .i64 vs)] (MV (Rat.ofInt n, vs)) := by
  refine pv T_ok mixed Tryz.func12 rfl (by decide) _ (by simp [Tryz.ntmps12]) ⟨[0, 1, 4], []⟩ (by kernel_rfl) _ ?_
  show vc T _ _ (Option.get! Tryz.f12.body) _ _
  simp only [Tryz.f12,Tryz.ntmps12,Option.get!,iS,iM,eO,J1]
  simp only [vx,T,K5,J0,K6,K7,↓reduceIte,J1,J2,J3,J4,J5,J6,J7,J8,J9,reduceCtorEq,K1,K2,K3,K4]
  refine Cg (rQFromInt_spec n h1 h2) ?_
  simp only [vx,T,K5,J0,K6,K7,↓reduceIte,J1,J2,J3,J4,J5,J6,J7,J8,J9,reduceCtorEq,K1,K2,K3,K4,QV,QC,MV,mC]
  exact Ve rfl
theorem term0_spec (n : Int) (h1 : -9223372036854775808 ≤ n) (h2 : n ≤ 9223372036854775807) : Pr Tryz.prog 12 [.one (.int .i64 n), .one .nil] (MV (Rat.ofInt n, [])) :=
  (term_spec n [] h1 h2).args ⟨.refl _, .cell (CLe.nil_ints _), trivial⟩
def LC (ps : List (List Mono)) : C := .rows 1 ps.length (fun i _ => PC (ps.getD i default))
def LV (ps : List (List Mono)) : V := .one (LC ps)
theorem ofv_spec (l : List Rat) (i : Nat) (hi : i < l.length) (hl : l.length < 2 ^ 40) {B : Nat} (hq : qm (l.getD i default) ≤ B) (hB : B < 2 ^ 29) (g : Nat → Nat → C) (hg : g 0 0 = QsC l) : Pr Tryz.prog 16 [.one (.int .i64 i), .one (.elt (.rows 1 1 g) 1 0 0)] (PV (norM [(l.getD i default, [])])) := by
  refine pv T_ok mixed Tryz.func16 rfl (by decide) _ (by simp [Tryz.ntmps16]) ⟨[0, 1, 3], []⟩ (by kernel_rfl) _ ?_
  show vc T _ _ (Option.get! Tryz.f16.body) _ _
  simp only [Tryz.f16,Tryz.ntmps16,Option.get!,iS,iM,eO,J1]
  simp only [vx,T,K5,J0,K6,K7,↓reduceIte,J1,J2,J3,J4,J5,J6,J7,J8,J9,reduceCtorEq,K1,K2,K3,K4,hg,QsC,qC]
  refine ⟨by omega, Cg (const_spec _ hq hB) ?_⟩
  simp only [vx,T,K5,J0,K6,K7,↓reduceIte,J1,J2,J3,J4,J5,J6,J7,J8,J9,reduceCtorEq,K1,K2,K3,K4,PV,PC]
  exact Ve rfl
def distM (i k : Nat) (q : Rat) : List Mono := subM (norM (mulM (wayM i k).1 (wayM i k).1 ++ mulM (wayM i k).2 (wayM i k).2)) (mulM (norM [(q, [])]) (norM [(q, [])]))
theorem ofDist_spec (i k : Nat) (q : Rat) (hi : i < 2 ^ 40) (hk : k < 2 ^ 40) (hq : qm q ≤ 2) (c3 : C) (s : Int) (n : Int) : Pr Tryz.prog 6 [.agg [.int .i64 2, .ints .i64 [(i : Int), (k : Int)], .nil, c3, .int .i64 s], .one (QsC [q]), .one .nil, .one (.int .i64 n)] (LV [distM i k q]) := by
  refine pv T_ok mixed Tryz.func6 rfl (by decide) _ (by simp [Tryz.ntmps6]) ⟨[0, 1, 2, 3, 4, 5, 6, 7, 8, 9, 10, 11, 12, 13, 14, 15, 16, 17, 18, 19, 20, 21, 22, 23, 24, 25, 26, 27, 28, 35, 36, 53, 70, 88, 116, 143, 161, 179, 203, 230, 276, 287, 298, 314, 322, 330, 369], []⟩ (by kernel_rfl) _ ?_
  show vc T _ _ (Option.get! Tryz.f6.body) _ _
  simp only [Tryz.f6,Tryz.ntmps6,Option.get!,iS,iM,eO,J1]
  have hw := way_spec i k hi hk
  have bx := pb_wayx i k hi hk
  have by_ := pb_wayy i k hi hk
  have m1 := iMulP_spec bx bx (by decide) (by decide) (by decide) (by decide) (by decide)
  have m2 := iMulP_spec by_ by_ (by decide) (by decide) (by decide) (by decide) (by decide)
  have a1 := iAddP_spec (bx.mulM bx) (by_.mulM by_) (by decide) (by decide) (by decide)
  have bv := (PB.one (d := 0) hq (Nat.le_refl _) in63_nil).norM
  have s1 := square_spec bv (by decide) (by decide) (by decide) (by decide)
  have d1 := minus_spec ((bx.mulM bx).append (by_.mulM by_)).norM (bv.mulM bv) (by decide) (by decide) (by decide) (by decide) (by decide) (by decide)
  simp only [vx,T,K5,J0,K6,K7,↓reduceIte,J1,J2,J3,J4,J5,J6,J7,J8,J9,reduceCtorEq,K1,K2,K3,K4,QsC]
  refine ⟨by omega, by omega, Cg hw ?_⟩
  simp only [vx,T,K5,J0,K6,K7,↓reduceIte,J1,J2,J3,J4,J5,J6,J7,J8,J9,reduceCtorEq,K1,K2,K3,K4,VV,PC]
  refine Cg (dot_spec (wayM i k) (wayM i k) m1 m2 a1) ?_
  simp only [vx,T,K5,J0,K6,K7,↓reduceIte,J1,J2,J3,J4,J5,J6,J7,J8,J9,reduceCtorEq,K1,K2,K3,K4,PV,PC]
  refine Cg (ofv_spec [q] 0 (by simp) (by simp) (B := 2) hq (by decide) _ rfl) ?_
  simp only [vx,T,K5,J0,K6,K7,↓reduceIte,J1,J2,J3,J4,J5,J6,J7,J8,J9,reduceCtorEq,K1,K2,K3,K4,PV,PC,X0]
  refine Cg s1 ?_
  simp only [vx,T,K5,J0,K6,K7,↓reduceIte,J1,J2,J3,J4,J5,J6,J7,J8,J9,reduceCtorEq,K1,K2,K3,K4,PV,PC]
  refine Cg d1 ?_
  simp only [vx,T,K5,J0,K6,K7,↓reduceIte,J1,J2,J3,J4,J5,J6,J7,J8,J9,reduceCtorEq,K1,K2,K3,K4,PV,PC]
  refine Va ⟨rfl, rfl, fun i' j' hi' hj' => ?_⟩
  obtain rfl : i' = 0 := by omega
  obtain rfl : j' = 0 := by omega
  rfl
theorem mL_getD {l : List Mono} {i j : Nat} (hi : i < l.length) (hj : j < 5) : mC (l.getD i default) j = (l.flatMap mL).getD (i * 5 + j) .any := by
  induction l generalizing i with
  | nil => exact absurd hi (by simp)
  | cons m r ih =>
    rw [List.flatMap_cons, X7 (l := mL m ++ _)]
    have hlen : (mL m).length = 5 := rfl
    match i with
    | 0 =>
      rw [Nat.zero_mul, Nat.zero_add, List.getElem?_append_left (by omega), ← X7]
      exact (mC_list m hj).symm
    | i + 1 =>
      rw [List.getElem?_append_right (by omega), ← X7, show (i + 1) * 5 + j - (mL m).length = i * 5 + j by omega, ← ih (by simpa using hi)]; rfl
theorem litP {l : List Mono} {n : Nat} {L : List C} (hn : n = l.length) (hL : L = l.flatMap mL) : CLe (.rows 5 n (fun i j => L.getD (i * 5 + j) .any)) (PC l) := by
  subst hn hL
  exact CLe.rows rfl fun i j hi hj => CLe.of_eq (mL_getD hi hj).symm
def exD : List Mono := [(Rat.ofInt 2, [0]), (Rat.ofInt (-2), [2])]
theorem mok (n : Int) (v : List Int) (h : n.natAbs < 18446744073709551616) (hl : v.length ≤ 2) (hi : In63 v) : qm (Rat.ofInt n) ≤ 2 ∧ v.length ≤ 2 ∧ In63 v := ⟨qm_ofInt h, hl, hi⟩
theorem pb_exL : PB exL 7 2 2 := by
  refine ⟨by decide, fun m hm => ?_⟩
  simp only [exL,List.mem_cons,List.not_mem_nil,or_false] at hm
  rcases hm with rfl | rfl | rfl | rfl | rfl | rfl | rfl <;> exact mok _ _ (by decide) (by decide) (by unfold In63; decide)
theorem pb_exD : PB exD 2 2 2 := by
  refine ⟨by decide, fun m hm => ?_⟩
  simp only [exD,List.mem_cons,List.not_mem_nil,or_false] at hm
  rcases hm with rfl | rfl <;> exact mok _ _ (by decide) (by decide) (by unfold In63; decide)
theorem pok_exL : POk exL := pb_exL.pok (by decide) (by decide) (by decide)
theorem pok_exD : POk exD := pb_exD.pok (by decide) (by decide) (by decide)
theorem dist_ex : distM 0 1 (Rat.ofInt 5) = exL := by
  rw [← exE_eq]
  unfold distM exE subM negM subE negE wayM ptM varM subM negM
  simp only [mulM_E]
  rfl
theorem awake_spec : Pr Tryz.prog 4 [] (.one (.bool true)) := by
  have hd := ofDist_spec 0 1 (Rat.ofInt 5) (by decide) (by decide) (qm_ofInt (by decide))
  rw [dist_ex] at hd
  refine pv T_ok mixed Tryz.func4 rfl (by decide) _ (by simp [Tryz.ntmps4]) ⟨[0, 1, 2, 35], []⟩ (by kernel_rfl) _ ?_
  show vc T _ _ (Option.get! Tryz.f4.body) _ _
  simp only [Tryz.f4,Tryz.ntmps4,Option.get!,iS,iM,eO,J1]
  simp only [vx,T,K5,J0,K6,K7,↓reduceIte,J1,J2,J3,J4,J5,J6,J7,J8,J9,reduceCtorEq,K1,K2,K3,K4]
  refine Cg (rQFromInt_spec 5 (by decide) (by decide)) ?_
  simp only [vx,T,K5,J0,K6,K7,↓reduceIte,J1,J2,J3,J4,J5,J6,J7,J8,J9,reduceCtorEq,K1,K2,K3,K4,QV,QC]
  refine Cg (rQFromInt_spec 5 (by decide) (by decide)) ?_
  simp only [vx,T,K5,J0,K6,K7,↓reduceIte,J1,J2,J3,J4,J5,J6,J7,J8,J9,reduceCtorEq,K1,K2,K3,K4,QV,QC]
  have hq : CLe (.rows 4 1 fun i j => [C.bool (zs (Rat.ofInt 5).num), C.ints IntKind.u32 (zm (Rat.ofInt 5).num), C.bool (zs ((Rat.ofInt 5).den : Int)), C.ints IntKind.u32 (zm ((Rat.ofInt 5).den : Int))].getD (i * 4 + j) C.any) (QsC [Rat.ofInt 5]) := by
    refine CLe.rows rfl fun i j hi hj => CLe.of_eq ?_
    obtain rfl : i = 0 := by omega
    match j, hj with
    | 0, _ => rfl
    | 1, _ => rfl
    | 2, _ => rfl
    | 3, _ => rfl
  refine Cg ((hd _ 0 2).args ⟨.refl _, .cell hq, .refl _, .refl _, trivial⟩) ?_
  simp only [vx,T,K5,J0,K6,K7,↓reduceIte,J1,J2,J3,J4,J5,J6,J7,J8,J9,reduceCtorEq,K1,K2,K3,K4,LV,LC,PC]
  refine ⟨fun h => absurd rfl h, fun _ => Lg ?_⟩
  simp only [vx,T,K5,J0,K6,K7,↓reduceIte,J1,J2,J3,J4,J5,J6,J7,J8,J9,reduceCtorEq,K1,K2,K3,K4,LV,LC,PC]
  refine ⟨by decide, Cg (term0_spec (-25) (by decide) (by decide)) ?_⟩
  simp only [vx,T,K5,J0,K6,K7,↓reduceIte,J1,J2,J3,J4,J5,J6,J7,J8,J9,reduceCtorEq,K1,K2,K3,K4,MV,mC]
  refine Cg (term_spec (1) [0, 0] (by decide) (by decide)) ?_
  simp only [vx,T,K5,J0,K6,K7,↓reduceIte,J1,J2,J3,J4,J5,J6,J7,J8,J9,reduceCtorEq,K1,K2,K3,K4,MV,mC]
  refine Cg (term_spec (-2) [0, 2] (by decide) (by decide)) ?_
  simp only [vx,T,K5,J0,K6,K7,↓reduceIte,J1,J2,J3,J4,J5,J6,J7,J8,J9,reduceCtorEq,K1,K2,K3,K4,MV,mC]
  refine Cg (term_spec (1) [1, 1] (by decide) (by decide)) ?_
  simp only [vx,T,K5,J0,K6,K7,↓reduceIte,J1,J2,J3,J4,J5,J6,J7,J8,J9,reduceCtorEq,K1,K2,K3,K4,MV,mC]
  refine Cg (term_spec (-2) [1, 3] (by decide) (by decide)) ?_
  simp only [vx,T,K5,J0,K6,K7,↓reduceIte,J1,J2,J3,J4,J5,J6,J7,J8,J9,reduceCtorEq,K1,K2,K3,K4,MV,mC]
  refine Cg (term_spec (1) [2, 2] (by decide) (by decide)) ?_
  simp only [vx,T,K5,J0,K6,K7,↓reduceIte,J1,J2,J3,J4,J5,J6,J7,J8,J9,reduceCtorEq,K1,K2,K3,K4,MV,mC]
  refine Cg (term_spec (1) [3, 3] (by decide) (by decide)) ?_
  simp only [vx,T,K5,J0,K6,K7,↓reduceIte,J1,J2,J3,J4,J5,J6,J7,J8,J9,reduceCtorEq,K1,K2,K3,K4,MV,mC]
  refine Cg ((Same_spec exL exL pok_exL pok_exL).args ⟨.refl _, .cell (litP rfl rfl), trivial⟩) ?_
  rw [decide_eq_true (rfl : exL = exL)]
  simp only [vx,T,K5,J0,K6,K7,↓reduceIte,J1,J2,J3,J4,J5,J6,J7,J8,J9,reduceCtorEq,K1,K2,K3,K4,LV,LC,PC]
  refine ⟨by decide, Cg (iDer_spec 0 pb_exL (by decide) (by decide) (by decide)) ?_⟩
  rw [exD_eq]
  simp only [vx,T,K5,J0,K6,K7,↓reduceIte,J1,J2,J3,J4,J5,J6,J7,J8,J9,reduceCtorEq,K1,K2,K3,K4,PV,PC]
  refine Cg (term_spec 2 [0] (by decide) (by decide)) ?_
  simp only [vx,T,K5,J0,K6,K7,↓reduceIte,J1,J2,J3,J4,J5,J6,J7,J8,J9,reduceCtorEq,K1,K2,K3,K4,MV,mC]
  refine Cg (term_spec (-2) [2] (by decide) (by decide)) ?_
  simp only [vx,T,K5,J0,K6,K7,↓reduceIte,J1,J2,J3,J4,J5,J6,J7,J8,J9,reduceCtorEq,K1,K2,K3,K4,MV,mC]
  refine Cg ((Same_spec exD exD pok_exD pok_exD).args ⟨.refl _, .cell (litP rfl rfl), trivial⟩) ?_
  rw [decide_eq_true (rfl : exD = exD)]
  simp only [vx,T,K5,J0,K6,K7,↓reduceIte,J1,J2,J3,J4,J5,J6,J7,J8,J9,reduceCtorEq,K1,K2,K3,K4]
  exact Ve rfl
open Go Go.Eng
structure NF (l : List Mono) (n d B : Nat) : Prop where
  pb : PB l n d B
  asc : VAsc l
theorem VAsc_mulM (p q : List Mono) : VAsc (mulM p q) := VAsc.sumM _
theorem NF.mul {p q : List Mono} {n d B n' d' B' : Nat} (hp : NF p n d B) (hq : NF q n' d' B') : NF (mulM p q) (n * n') (d + d') (n * n' * (B + B' + 1)) := ⟨hp.pb.mulM hq.pb, VAsc_mulM _ _⟩
theorem NF.add {p q : List Mono} {n d B n' d' B' : Nat} (hp : NF p n d B) (hq : NF q n' d' B') : NF (Go.Eng.norM (p ++ q)) (n + n') (max d d') ((n + n') * (max B B' + 1)) := ⟨(hp.pb.append hq.pb).norM, (hp.asc.append hq.asc).norM⟩
theorem NF.sub {p q : List Mono} {n d B n' d' B' : Nat} (hp : NF p n d B) (hq : NF q n' d' B') : NF (subM p q) (n + n') (max d d') ((n + n') * (max B (n' * (B' + 4)) + 1)) := ⟨pb_sub hp.pb hq.pb, (hp.asc.append (VAsc_mulM _ _)).norM⟩
theorem NF.mono {p : List Mono} {n d B n' d' B' : Nat} (h : NF p n d B) (hn : n ≤ n') (hd : d ≤ d') (hB : B ≤ B') : NF p n' d' B' := ⟨h.pb.mono hn hd hB, h.asc⟩
theorem NF.var {v : Int} (h0 : 0 ≤ v) (h1 : v < 9223372036854775808) : NF (varM v) 1 1 2 := ⟨pb_var h0 h1, fun m hm => by obtain rfl := List.mem_singleton.1 hm; exact List.pairwise_singleton _ _⟩
theorem asc_num (q : Rat) : VAsc [(q, ([] : List Int))] := fun m hm => by obtain rfl := List.mem_singleton.1 hm; exact List.Pairwise.nil
theorem NF.num {q : Rat} {B : Nat} (h : qm q ≤ B) : NF (Go.Eng.norM [(q, [])]) 1 0 (1 * (B + 1)) := ⟨(PB.one (d := 0) h (Nat.le_refl _) in63_nil).norM, (asc_num q).norM⟩
theorem neg_ref {q : List Mono} (h : VAsc q) : sumM (q.map fun m => (m.1 * Rat.ofInt (-1), m.2)) = negM q := by
  refine can_ext' (sumM_can _) (mulM_can _ _) fun g => ?_
  have ha : VAsc (q.map fun m => (m.1 * Rat.ofInt (-1), m.2)) := fun m hm => by
    obtain ⟨a, ha, rfl⟩ := List.mem_map.1 hm
    exact h a ha
  unfold negM
  rw [sumM_eq ha, lin_norM, lin_mulM, lin_norM]
  simp only [lin,List.nil_append,Rat.add_zero]
  have key : ∀ l : List Mono, VAsc l → lin g (l.map fun m => (m.1 * Rat.ofInt (-1), m.2)) = Rat.ofInt (-1) * lin (fun u => g (srtZ u)) l := by
    intro l hl
    induction l with
    | nil => simp [lin]
    | cons m r ih =>
      simp only [List.map_cons,lin]
      rw [ih (fun x hx => hl x (by simp [hx])), srtZ_self (hl m (by simp)), Rat.mul_add, Rat.mul_comm m.1, Rat.mul_assoc]
  exact key q h
theorem rVar_spec (v : Int) : Pr Tryz.prog 35 [.one (.int .i64 v)] (PV (varM v)) := by
  refine pv T_ok mixed Tryz.func35 rfl (by decide) _ (by simp [Tryz.ntmps35]) ⟨[0, 2], []⟩ (by kernel_rfl) _ ?_
  show vc T _ _ (Option.get! Tryz.f35.body) _ _
  simp only [Tryz.f35,Tryz.ntmps35,Option.get!,iS,iM,eO,J1]
  simp only [vx,T,K5,J0,K6,K7,↓reduceIte,J1,J2,J3,J4,J5,J6,J7,J8,J9,reduceCtorEq,K1,K2,K3,K4]
  refine Cg (rQFromInt_spec 1 (by decide) (by decide)) ?_
  simp only [vx,T,K5,J0,K6,K7,↓reduceIte,J1,J2,J3,J4,J5,J6,J7,J8,J9,reduceCtorEq,K1,K2,K3,K4,QV,QC]
  refine Va ⟨rfl, rfl, fun i j hi hj => ?_⟩
  obtain rfl : i = 0 := by omega
  show [C.bool _, C.ints .u32 _, C.bool _, C.ints .u32 _, C.ints .i64 [v]].getD (0 * 5 + j) C.any = mC (Rat.ofInt 1, [v]) j
  rw [Nat.zero_mul, Nat.zero_add]
  exact mC_list (Rat.ofInt 1, [v]) hj
theorem rNum_spec (c : Rat) {B : Nat} (hc : qm c ≤ B) (hB : B < 2 ^ 29) : Pr Tryz.prog 33 [QV c] (PV (norM [(c, [])])) := by
  have h := PB.one (d := 0) hc (Nat.le_refl _) in63_nil
  rw [← sumM_eq (asc_num c)]
  refine pv T_ok mixed Tryz.func33 rfl (by decide) _ (by simp [Tryz.ntmps33]) ⟨[0, 1, 2], []⟩ (by kernel_rfl) _ ?_
  show vc T _ _ (Option.get! Tryz.f33.body) _ _
  simp only [Tryz.f33,Tryz.ntmps33,Option.get!,iS,iM,eO,J1]
  simp only [vx,T,K5,J0,K6,K7,↓reduceIte,J1,J2,J3,J4,J5,J6,J7,J8,J9,reduceCtorEq,K1,K2,K3,K4,QV,QC]
  refine Cg (SumR_spec h (by decide) (by omega) rfl ?_) ?_
  · intro i j hi hj
    obtain rfl : i = 0 := by omega
    match j, hj with
    | 0, _ => exact CLe.refl _
    | 1, _ => exact CLe.refl _
    | 2, _ => exact CLe.refl _
    | 3, _ => exact CLe.refl _
    | 4, _ => exact CLe.nil_ints _
  · simp only [vx,T,K5,J0,K6,K7,↓reduceIte,J1,J2,J3,J4,J5,J6,J7,J8,J9,reduceCtorEq,K1,K2,K3,K4,PV,PC]
    exact Ve rfl
theorem rpSub_spec {p q : List Mono} {n d B n' d' B' : Nat} (hp : NF p n d B) (hq : NF q n' d' B') (hd : max d d' < 2 ^ 30) (hn : (n + n') * (max B (n' * (B' + 4)) + 1) < 2 ^ 30) (hd2 : d' < 2 ^ 30) (hn' : n' * (B' + 4) < 2 ^ 30) (hB' : B' < 2 ^ 28) :
    Pr Tryz.prog 36 [PV p, PV q] (PV (subM p q)) := by
  have h1 := rScale_spec (Rat.ofInt (-1)) hq.pb qm_neg hd2 (Nat.lt_of_le_of_lt (Nat.mul_le_mul_left _ (by omega)) hn') (by omega)
  have h2 := rAddP_spec hp.pb (pb_neg hq.pb) hd hn
  rw [neg_ref hq.asc] at h1
  have hn3 : VAsc (negM q) := VAsc_mulM _ _
  rw [sumM_eq (hp.asc.append hn3)] at h2
  refine pv T_ok mixed Tryz.func36 rfl (by decide) _ (by simp [Tryz.ntmps36]) ⟨[0, 1, 4], []⟩ (by kernel_rfl) _ ?_
  show vc T _ _ (Option.get! Tryz.f36.body) _ _
  simp only [Tryz.f36,Tryz.ntmps36,Option.get!,iS,iM,eO,J1]
  simp only [vx,T,K5,J0,K6,K7,↓reduceIte,J1,J2,J3,J4,J5,J6,J7,J8,J9,reduceCtorEq,K1,K2,K3,K4,PV,PC]
  refine Cg (rQFromInt_spec (-1) (by decide) (by decide)) ?_
  simp only [vx,T,K5,J0,K6,K7,↓reduceIte,J1,J2,J3,J4,J5,J6,J7,J8,J9,reduceCtorEq,K1,K2,K3,K4,PV,PC,QV,QC]
  refine Cg h1 ?_
  simp only [vx,T,K5,J0,K6,K7,↓reduceIte,J1,J2,J3,J4,J5,J6,J7,J8,J9,reduceCtorEq,K1,K2,K3,K4,PV,PC]
  refine Cg h2 ?_
  simp only [vx,T,K5,J0,K6,K7,↓reduceIte,J1,J2,J3,J4,J5,J6,J7,J8,J9,reduceCtorEq,K1,K2,K3,K4,PV,PC]
  exact Ve rfl
theorem rsquare_spec {p r : List Mono} (h : Pr Tryz.prog 41 [PV p, PV p] (PV r)) : Pr Tryz.prog 39 [PV p] (PV r) := by
  refine pv T_ok mixed Tryz.func39 rfl (by decide) _ (by simp [Tryz.ntmps39]) ⟨[0, 2], []⟩ (by kernel_rfl) _ ?_
  show vc T _ _ (Option.get! Tryz.f39.body) _ _
  simp only [Tryz.f39,Tryz.ntmps39,Option.get!,iS,iM,eO,J1]
  simp only [vx,T,K5,J0,K6,K7,↓reduceIte,J1,J2,J3,J4,J5,J6,J7,J8,J9,reduceCtorEq,K1,K2,K3,K4,PV,PC]
  refine Cg h ?_
  simp only [vx,T,K5,J0,K6,K7,↓reduceIte,J1,J2,J3,J4,J5,J6,J7,J8,J9,reduceCtorEq,K1,K2,K3,K4,PV,PC]
  exact Ve rfl
theorem rdot_spec (a b : List Mono × List Mono) {x y r : List Mono} (h1 : Pr Tryz.prog 41 [PV a.1, PV b.1] (PV x)) (h2 : Pr Tryz.prog 41 [PV a.2, PV b.2] (PV y))
    (h3 : Pr Tryz.prog 43 [PV x, PV y] (PV r)) : Pr Tryz.prog 38 [VV a, VV b] (PV r) := by
  refine pv T_ok mixed Tryz.func38 rfl (by decide) _ (by simp [Tryz.ntmps38]) ⟨[0, 1, 2, 3, 4], []⟩ (by kernel_rfl) _ ?_
  show vc T _ _ (Option.get! Tryz.f38.body) _ _
  simp only [Tryz.f38,Tryz.ntmps38,Option.get!,iS,iM,eO,J1]
  simp only [vx,T,K5,J0,K6,K7,↓reduceIte,J1,J2,J3,J4,J5,J6,J7,J8,J9,reduceCtorEq,K1,K2,K3,K4,VV,PV,PC]
  refine Cg h1 ?_
  simp only [vx,T,K5,J0,K6,K7,↓reduceIte,J1,J2,J3,J4,J5,J6,J7,J8,J9,reduceCtorEq,K1,K2,K3,K4,VV,PV,PC]
  refine Cg h2 ?_
  simp only [vx,T,K5,J0,K6,K7,↓reduceIte,J1,J2,J3,J4,J5,J6,J7,J8,J9,reduceCtorEq,K1,K2,K3,K4,VV,PV,PC]
  refine Cg h3 ?_
  simp only [vx,T,K5,J0,K6,K7,↓reduceIte,J1,J2,J3,J4,J5,J6,J7,J8,J9,reduceCtorEq,K1,K2,K3,K4,VV,PV,PC]
  exact Ve rfl
theorem rcross_spec (a b : List Mono × List Mono) {x y r : List Mono} (h1 : Pr Tryz.prog 41 [PV a.1, PV b.2] (PV x)) (h2 : Pr Tryz.prog 41 [PV a.2, PV b.1] (PV y))
    (h3 : Pr Tryz.prog 36 [PV x, PV y] (PV r)) : Pr Tryz.prog 40 [VV a, VV b] (PV r) := by
  refine pv T_ok mixed Tryz.func40 rfl (by decide) _ (by simp [Tryz.ntmps40]) ⟨[0, 1, 2, 3, 4], []⟩ (by kernel_rfl) _ ?_
  show vc T _ _ (Option.get! Tryz.f40.body) _ _
  simp only [Tryz.f40,Tryz.ntmps40,Option.get!,iS,iM,eO,J1]
  simp only [vx,T,K5,J0,K6,K7,↓reduceIte,J1,J2,J3,J4,J5,J6,J7,J8,J9,reduceCtorEq,K1,K2,K3,K4,VV,PV,PC]
  refine Cg h1 ?_
  simp only [vx,T,K5,J0,K6,K7,↓reduceIte,J1,J2,J3,J4,J5,J6,J7,J8,J9,reduceCtorEq,K1,K2,K3,K4,VV,PV,PC]
  refine Cg h2 ?_
  simp only [vx,T,K5,J0,K6,K7,↓reduceIte,J1,J2,J3,J4,J5,J6,J7,J8,J9,reduceCtorEq,K1,K2,K3,K4,VV,PV,PC]
  refine Cg h3 ?_
  simp only [vx,T,K5,J0,K6,K7,↓reduceIte,J1,J2,J3,J4,J5,J6,J7,J8,J9,reduceCtorEq,K1,K2,K3,K4,VV,PV,PC]
  exact Ve rfl
theorem rvplus_spec (a b : List Mono × List Mono) {x y : List Mono} (h1 : Pr Tryz.prog 43 [PV a.1, PV b.1] (PV x)) (h2 : Pr Tryz.prog 43 [PV a.2, PV b.2] (PV y)) : Pr Tryz.prog 42 [VV a, VV b] (VV (x, y)) := by
  refine pv T_ok mixed Tryz.func42 rfl (by decide) _ (by simp [Tryz.ntmps42]) ⟨[0, 1, 2, 3, 4], []⟩ (by kernel_rfl) _ ?_
  show vc T _ _ (Option.get! Tryz.f42.body) _ _
  simp only [Tryz.f42,Tryz.ntmps42,Option.get!,iS,iM,eO,J1]
  simp only [vx,T,K5,J0,K6,K7,↓reduceIte,J1,J2,J3,J4,J5,J6,J7,J8,J9,reduceCtorEq,K1,K2,K3,K4,VV,PV,PC]
  refine Cg h1 ?_
  simp only [vx,T,K5,J0,K6,K7,↓reduceIte,J1,J2,J3,J4,J5,J6,J7,J8,J9,reduceCtorEq,K1,K2,K3,K4,VV,PV,PC]
  refine Cg h2 ?_
  simp only [vx,T,K5,J0,K6,K7,↓reduceIte,J1,J2,J3,J4,J5,J6,J7,J8,J9,reduceCtorEq,K1,K2,K3,K4,VV,PV,PC]
  exact Ve rfl
theorem rpoint_spec (i : Nat) (hi : i < 2 ^ 40) : Pr Tryz.prog 37 [.one (.int .i64 i)] (VV (ptM i)) := by
  have w1 : IntKind.i64.wrap (2 * (i : Int)) = 2 * (i : Int) := IntWalk.i64_in _ (by omega)
  have w2 : IntKind.i64.wrap (2 * (i : Int) + 1) = 2 * (i : Int) + 1 := IntWalk.i64_in _ (by omega)
  refine pv T_ok mixed Tryz.func37 rfl (by decide) _ (by simp [Tryz.ntmps37]) ⟨[0, 2], []⟩ (by kernel_rfl) _ ?_
  show vc T _ _ (Option.get! Tryz.f37.body) _ _
  simp only [Tryz.f37,Tryz.ntmps37,Option.get!,iS,iM,eO,J1]
  simp only [vx,T,K5,J0,K6,K7,↓reduceIte,J1,J2,J3,J4,J5,J6,J7,J8,J9,reduceCtorEq,K1,K2,K3,K4,w1]
  refine Cg (rVar_spec _) ?_
  simp only [vx,T,K5,J0,K6,K7,↓reduceIte,J1,J2,J3,J4,J5,J6,J7,J8,J9,reduceCtorEq,K1,K2,K3,K4,PV,PC,w1,w2]
  refine Cg (rVar_spec _) ?_
  simp only [vx,T,K5,J0,K6,K7,↓reduceIte,J1,J2,J3,J4,J5,J6,J7,J8,J9,reduceCtorEq,K1,K2,K3,K4,PV,PC,VV,ptM,varM]
  exact Ve rfl
theorem rway_spec (i k : Nat) (hi : i < 2 ^ 40) (hk : k < 2 ^ 40) : Pr Tryz.prog 34 [.one (.int .i64 i), .one (.int .i64 k)] (VV (wayM i k)) := by
  have h1 := rpSub_spec (NF.var (v := 2 * (k : Int)) (by omega) (by omega)) (NF.var (v := 2 * (i : Int)) (by omega) (by omega)) (by decide) (by decide) (by decide) (by decide) (by decide)
  have h2 := rpSub_spec (NF.var (v := 2 * (k : Int) + 1) (by omega) (by omega)) (NF.var (v := 2 * (i : Int) + 1) (by omega) (by omega)) (by decide) (by decide) (by decide) (by decide) (by decide)
  refine pv T_ok mixed Tryz.func34 rfl (by decide) _ (by simp [Tryz.ntmps34]) ⟨[0, 1, 4, 5, 6], []⟩ (by kernel_rfl) _ ?_
  show vc T _ _ (Option.get! Tryz.f34.body) _ _
  simp only [Tryz.f34,Tryz.ntmps34,Option.get!,iS,iM,eO,J1]
  simp only [vx,T,K5,J0,K6,K7,↓reduceIte,J1,J2,J3,J4,J5,J6,J7,J8,J9,reduceCtorEq,K1,K2,K3,K4]
  refine Cg (rpoint_spec i hi) ?_
  simp only [vx,T,K5,J0,K6,K7,↓reduceIte,J1,J2,J3,J4,J5,J6,J7,J8,J9,reduceCtorEq,K1,K2,K3,K4,VV,PC,ptM]
  refine Cg (rpoint_spec k hk) ?_
  simp only [vx,T,K5,J0,K6,K7,↓reduceIte,J1,J2,J3,J4,J5,J6,J7,J8,J9,reduceCtorEq,K1,K2,K3,K4,VV,PC,ptM]
  refine Cg h1 ?_
  simp only [vx,T,K5,J0,K6,K7,↓reduceIte,J1,J2,J3,J4,J5,J6,J7,J8,J9,reduceCtorEq,K1,K2,K3,K4,PV,PC]
  refine Cg h2 ?_
  simp only [vx,T,K5,J0,K6,K7,↓reduceIte,J1,J2,J3,J4,J5,J6,J7,J8,J9,reduceCtorEq,K1,K2,K3,K4,PV,PC,VV,wayM]
  exact Ve rfl
def Two (f g : FuncId) (xs : List V) (r : V) : Prop := Pr Tryz.prog f xs r ∧ Pr Tryz.prog g xs r
theorem two_mul {p q : List Mono} {n d B n' d' B' : Nat} (hp : NF p n d B) (hq : NF q n' d' B') (h : d + d' < 2 ^ 30 ∧ n * n' * (B + B' + 1) < 2 ^ 30 ∧ n < 2 ^ 30 ∧ n' < 2 ^ 30 ∧ B + B' < 2 ^ 30) :
    Two 27 41 [PV p, PV q] (PV (mulM p q)) := ⟨iMulP_spec hp.pb hq.pb h.1 h.2.1 h.2.2.1 h.2.2.2.1 h.2.2.2.2, rMulP_spec hp.pb hq.pb h.1 h.2.1 h.2.2.1 h.2.2.2.1 h.2.2.2.2⟩
theorem two_add {p q : List Mono} {n d B n' d' B' : Nat} (hp : NF p n d B) (hq : NF q n' d' B') (h : max d d' < 2 ^ 30 ∧ (n + n') * (max B B' + 1) < 2 ^ 30 ∧ max B B' < 2 ^ 30) :
    Two 28 43 [PV p, PV q] (PV (norM (p ++ q))) := ⟨iAddP_spec hp.pb hq.pb h.1 h.2.1 h.2.2, by rw [← sumM_eq (hp.asc.append hq.asc)]; exact rAddP_spec hp.pb hq.pb h.1 h.2.1⟩
theorem two_sub {p q : List Mono} {n d B n' d' B' : Nat} (hp : NF p n d B) (hq : NF q n' d' B') (h : max d d' < 2 ^ 30 ∧ (n + n') * (max B (n' * (B' + 4)) + 1) < 2 ^ 30 ∧ max B (n' * (B' + 4)) < 2 ^ 30 ∧ B' < 2 ^ 28 ∧ n' * (B' + 4) < 2 ^ 30 ∧ n' < 2 ^ 30 ∧ d' < 2 ^ 30) :
    Two 22 36 [PV p, PV q] (PV (subM p q)) :=
  ⟨minus_spec hp.pb hq.pb h.1 h.2.1 h.2.2.1 h.2.2.2.1 h.2.2.2.2.1 h.2.2.2.2.2.1, rpSub_spec hp hq h.1 h.2.1 h.2.2.2.2.2.2 h.2.2.2.2.1 h.2.2.2.1⟩
theorem two_sq {p : List Mono} {n d B : Nat} (hp : NF p n d B) (h : d + d < 2 ^ 30 ∧ n * n * (B + B + 1) < 2 ^ 30 ∧ n < 2 ^ 30 ∧ B + B < 2 ^ 30) :
    Two 25 39 [PV p] (PV (mulM p p)) := ⟨square_spec hp.pb h.1 h.2.1 h.2.2.1 h.2.2.2, rsquare_spec (rMulP_spec hp.pb hp.pb h.1 h.2.1 h.2.2.1 h.2.2.1 h.2.2.2)⟩
theorem tW (i k : Nat) (hi : i < 2 ^ 40) (hk : k < 2 ^ 40) : Two 23 34 [.one (.int .i64 i), .one (.int .i64 k)] (VV (wayM i k)) := ⟨way_spec i k hi hk, rway_spec i k hi hk⟩
theorem two_pt (i : Nat) (hi : i < 2 ^ 40) : Two 21 37 [.one (.int .i64 i)] (VV (ptM i)) := ⟨point_spec i hi, rpoint_spec i hi⟩
theorem two_num (c : Rat) {B : Nat} (hc : qm c ≤ B) (hB : B < 2 ^ 29) : Two 17 33 [QV c] (PV (norM [(c, [])])) := ⟨const_spec c hc hB, rNum_spec c hc hB⟩
theorem two_var (v : Int) : Two 19 35 [.one (.int .i64 v)] (PV (varM v)) := ⟨var_spec v, rVar_spec v⟩
def dotM (a b : List Mono × List Mono) : List Mono := norM (mulM a.1 b.1 ++ mulM a.2 b.2)
def crossM (a b : List Mono × List Mono) : List Mono := subM (mulM a.1 b.2) (mulM a.2 b.1)
def NW (a : List Mono × List Mono) (n d B : Nat) : Prop := NF a.1 n d B ∧ NF a.2 n d B
theorem NW.way (i k : Nat) (hi : i < 2 ^ 40) (hk : k < 2 ^ 40) : NW (wayM i k) 2 1 14 :=
  ⟨((NF.var (v := 2 * (k : Int)) (by omega) (by omega)).sub (NF.var (v := 2 * (i : Int)) (by omega) (by omega))).mono (by decide) (by decide) (by decide),
    ((NF.var (v := 2 * (k : Int) + 1) (by omega) (by omega)).sub (NF.var (v := 2 * (i : Int) + 1) (by omega) (by omega))).mono (by decide) (by decide) (by decide)⟩
theorem NW.dot {a b : List Mono × List Mono} {n d B n' d' B' : Nat} (ha : NW a n d B) (hb : NW b n' d' B') :
    NF (dotM a b) (n * n' + n * n') (max (d + d') (d + d')) ((n * n' + n * n') * (max (n * n' * (B + B' + 1)) (n * n' * (B + B' + 1)) + 1)) := (ha.1.mul hb.1).add (ha.2.mul hb.2)
theorem NW.cross {a b : List Mono × List Mono} {n d B n' d' B' : Nat} (ha : NW a n d B) (hb : NW b n' d' B') :
    NF (crossM a b) (n * n' + n * n') (max (d + d') (d + d')) ((n * n' + n * n') * (max (n * n' * (B + B' + 1)) (n * n' * (n * n' * (B + B' + 1) + 4)) + 1)) := (ha.1.mul hb.2).sub (ha.2.mul hb.1)
theorem NW.plus {a b : List Mono × List Mono} {n d B n' d' B' : Nat} (ha : NW a n d B) (hb : NW b n' d' B') :
    NW (norM (a.1 ++ b.1), norM (a.2 ++ b.2)) (n + n') (max d d') ((n + n') * (max B B' + 1)) := ⟨ha.1.add hb.1, ha.2.add hb.2⟩
theorem two_dot {a b : List Mono × List Mono} {n d B n' d' B' : Nat} (ha : NW a n d B) (hb : NW b n' d' B') (h : d + d' < 2 ^ 30 ∧ n * n' * (B + B' + 1) < 2 ^ 30 ∧ n < 2 ^ 30 ∧ n' < 2 ^ 30 ∧ B + B' < 2 ^ 30)
    (h2 : max (d + d') (d + d') < 2 ^ 30 ∧ (n * n' + n * n') * (max (n * n' * (B + B' + 1)) (n * n' * (B + B' + 1)) + 1) < 2 ^ 30 ∧ max (n * n' * (B + B' + 1)) (n * n' * (B + B' + 1)) < 2 ^ 30) :
    Two 24 38 [VV a, VV b] (PV (dotM a b)) := by
  have m1 := two_mul ha.1 hb.1 h
  have m2 := two_mul ha.2 hb.2 h
  have s := two_add (ha.1.mul hb.1) (ha.2.mul hb.2) h2
  exact ⟨dot_spec a b m1.1 m2.1 s.1, rdot_spec a b m1.2 m2.2 s.2⟩
theorem two_cross {a b : List Mono × List Mono} {n d B n' d' B' : Nat} (ha : NW a n d B) (hb : NW b n' d' B') (h : d + d' < 2 ^ 30 ∧ n * n' * (B + B' + 1) < 2 ^ 30 ∧ n < 2 ^ 30 ∧ n' < 2 ^ 30 ∧ B + B' < 2 ^ 30)
    (h2 : max (d + d') (d + d') < 2 ^ 30 ∧ (n * n' + n * n') * (max (n * n' * (B + B' + 1)) (n * n' * (n * n' * (B + B' + 1) + 4)) + 1) < 2 ^ 30 ∧ max (n * n' * (B + B' + 1)) (n * n' * (n * n' * (B + B' + 1) + 4)) < 2 ^ 30 ∧ n * n' * (B + B' + 1) < 2 ^ 28 ∧ n * n' * (n * n' * (B + B' + 1) + 4) < 2 ^ 30 ∧ n * n' < 2 ^ 30 ∧ d + d' < 2 ^ 30) :
    Two 26 40 [VV a, VV b] (PV (crossM a b)) := by
  have m1 := two_mul ha.1 hb.2 h
  have m2 := two_mul ha.2 hb.1 h
  have s := two_sub (ha.1.mul hb.2) (ha.2.mul hb.1) h2
  exact ⟨cross_spec a b m1.1 m2.1 s.1, rcross_spec a b m1.2 m2.2 s.2⟩
end Go.Proofs.YtllnmicmblbfaaaGreat
/-
  THE ENGINE, PART OP: what comes in, read as data, as the engine's cells.
-/
namespace Go.Eng
open Go Go.ChangeShapes Go.WideShapes Go.Deep
def contigF (P : Program) : Nat → List Field → Nat → Bool
  | off, [], tot => off == tot
  | off, f :: r, tot => f.offset == off && contigF P (off + P.cellsOf f.type) r tot
def closedB (P : Program) (S : List TypeId) : Bool := S.all fun t =>
  match P.underlying t with
  | some .bool => true
  | some (.int _) => true
  | some .string => true
  | some (.slice e) => decide (0 < P.cellsOf e) && S.contains e && (match P.underlying e with | some (.int _) => P.cellsOf e == 1 | _ => true)
  | some (.struct fs) => contigF P 0 fs.toList (P.cellsOf t) && fs.toList.all fun f => S.contains f.type
  | _ => false
def OkF (R : TypeId → List C → Prop) : List Field → List C → Prop
  | [], cs => cs = []
  | f :: r, cs => ∃ c1 c2, cs = c1 ++ c2 ∧ R f.type c1 ∧ OkF R r c2
def OkC (P : Program) (B : Nat) : Nat → TypeId → List C → Prop
  | 0, _, _ => False
  | n + 1, t, cs =>
    match P.underlying t with
    | some .bool => ∃ b, cs = [.bool b]
    | some (.int k) => ∃ x, cs = [.int k x] ∧ k.min ≤ x ∧ x ≤ k.max
    | some .string => ∃ s : ByteArray, cs = [.str s] ∧ s.size ≤ B
    | some (.slice e) =>
      match P.underlying e with
      | some (.int k) => ∃ xs : List Int, cs = [.ints k xs] ∧ xs.length ≤ B ∧ ∀ x ∈ xs, k.min ≤ x ∧ x ≤ k.max
      | _ => ∃ m f, cs = [.rows (P.cellsOf e) m f] ∧ m ≤ B ∧ ∀ i, i < m → OkC P B n e ((List.range (P.cellsOf e)).map (f i))
    | some (.struct fs) => OkF (OkC P B n) fs.toList cs
    | _ => False
theorem OkC.mono {P : Program} {B B' : Nat} (hB : B ≤ B') : ∀ {n : Nat} {t : TypeId} {cs : List C}, OkC P B n t cs → OkC P B' n t cs := by
  intro n
  induction n with
  | zero => intro t cs h; exact h
  | succ n ih =>
    intro t cs h
    have hf : ∀ (fs : List Field) (cs : List C), OkF (OkC P B n) fs cs → OkF (OkC P B' n) fs cs := by
      intro fs
      induction fs with
      | nil => intro cs h; exact h
      | cons f r ihf =>
        rintro cs ⟨c1, c2, rfl, h1, h2⟩
        exact ⟨c1, c2, rfl, ih h1, ihf c2 h2⟩
    simp only [OkC] at h ⊢
    split at h
    · exact h
    · exact h
    · obtain ⟨s, h1, h2⟩ := h; exact ⟨s, h1, Nat.le_trans h2 hB⟩
    · split at h
      · obtain ⟨xs, h1, h2, h3⟩ := h; exact ⟨xs, h1, Nat.le_trans h2 hB, h3⟩
      · obtain ⟨m, f, h1, h2, h3⟩ := h
        exact ⟨m, f, h1, Nat.le_trans h2 hB, fun i hi => ih (h3 i hi)⟩
    · exact hf _ _ h
    · exact h
structure BulkOk {H : Type} (bulk : DataW H → Nat) : Prop where
  str : ∀ s : List UInt8, s.length ≤ bulk (.lit (.string s))
  sl : ∀ el sp, el.length ≤ bulk (.slice el sp) ∧ ∀ d ∈ el, bulk d ≤ bulk (.slice el sp)
  agg : ∀ ps d, d ∈ ps → bulk d ≤ bulk (.agg ps)
def Bnd {H : Type} (bulk : DataW H → Nat) (B : Nat) (d : DataW H) : Prop := maxLen ≤ B ∨ (BulkOk bulk ∧ bulk d ≤ B)
def RepIL (ok : Nat → Prop) (w : World) : List C → List Value → Prop
  | [], [] => True
  | c :: cs, v :: vs => RepI ok w c v ∧ RepIL ok w cs vs
  | _, _ => False
theorem RepIL.append {ok : Nat → Prop} {w : World} : ∀ {a b : List C} {x y : List Value}, RepIL ok w a x → RepIL ok w b y → RepIL ok w (a ++ b) (x ++ y)
  | [], _, [], _, _, h => h
  | _ :: _, _, _ :: _, _, h1, h2 => ⟨h1.1, RepIL.append h1.2 h2⟩
  | [], _, _ :: _, _, h, _ => h.elim
  | _ :: _, _, [], _, h, _ => h.elim
theorem RepIL.length {ok : Nat → Prop} {w : World} : ∀ {a : List C} {x : List Value}, RepIL ok w a x → a.length = x.length
  | [], [], _ => rfl
  | _ :: _, _ :: _, h => by simp [RepIL.length h.2]
  | [], _ :: _, h => h.elim
  | _ :: _, [], h => h.elim
theorem RepIL.get {ok : Nat → Prop} {w : World} : ∀ {a : List C} {x : List Value}, RepIL ok w a x → ∀ j, j < a.length → ∃ u, x[j]? = some u ∧ RepI ok w (a.getD j .any) u
  | _ :: _, u :: _, h, 0, _ => ⟨u, rfl, h.1⟩
  | _ :: _, _ :: _, h, j + 1, hj => by simpa using RepIL.get h.2 j (by simpa using hj)
  | [], [], _, j, hj => absurd hj (by simp)
  | [], _ :: _, h, _, _ => h.elim
  | _ :: _, [], h, _, _ => h.elim
theorem RepIL.repL {ok : Nat → Prop} {w : World} : ∀ {a : List C} {x : List Value}, RepIL ok w a x → RepL loc0 dom0 ok w a x
  | [], [], _ => trivial
  | _ :: _, _ :: _, h => ⟨RepC.of_repI h.1, RepIL.repL h.2⟩
  | [], _ :: _, h => h.elim
  | _ :: _, [], h => h.elim
theorem cell_lt {w : World} {a : Addr} {v : Value} (h : w.cell? a = some v) : a.block < w.heap.size ∧ a.spot = none := by
  unfold World.cell? at h
  split at h
  · rename_i c _ _ hb
    refine ⟨(Array.getElem?_eq_some_iff.1 hb).1, ?_⟩
    split at h
    · cases h
    · rename_i hs
      cases hsp : a.spot with
      | none => rfl
      | some x => rw [hsp] at hs; simp at hs
  · cases h
section
variable {H : Type} {bulk : DataW H → Nat} {B : Nat} {enc : TypeId × Value → H} {P : Program} {w : World} {base : Nat} {spare : Nat → Bool} {held : Bool}
theorem open_data {S : List TypeId} (hS : closedB P S = true) : ∀ (fuel : Nat) (t : TypeId) (vs : List Value) (x : DataW H × List MemPlace), t ∈ S → DataW.trod enc P w base spare held fuel t vs = some x → Bnd bulk B x.1 →
    ∃ cs, OkC P B fuel t cs ∧ RepIL (fun g => g < w.heap.size) w cs vs := by
  intro fuel
  induction fuel with
  | zero => intro t vs x _ h _; simp [DataW.trod] at h
  | succ fuel ih =>
    intro t vs x ht h hb
    have hc := List.all_eq_true.1 hS t ht
    simp only [OkC]
    cases hu : P.underlying t with
    | none => rw [hu] at hc; simp at hc
    | some d =>
      rw [hu] at hc
      cases d with
      | bool =>
        obtain ⟨b, rfl, _⟩ := DataW.trod_bool hu h
        exact ⟨[.bool b], ⟨b, rfl⟩, rfl, trivial⟩
      | int k =>
        obtain ⟨n, rfl, _, hw⟩ := DataW.trod_int hu h
        simp only [Lit.wf,Bool.and_eq_true,decide_eq_true_eq] at hw
        exact ⟨[.int k n], ⟨n, rfl, hw⟩, rfl, trivial⟩
      | string =>
        obtain ⟨s, rfl, hx, hs⟩ := DataW.trod_string hu h
        refine ⟨[.str s], ⟨s, rfl, ?_⟩, rfl, trivial⟩
        rcases hb with hb | ⟨hb, hb2⟩
        · omega
        · have h1 := hb.str s.data.toList
          rw [hx] at hb2
          have hb2 : bulk (.lit (.string s.data.toList)) ≤ B := hb2
          have h2 : s.data.toList.length = s.size := Array.length_toList
          omega
      | slice e =>
        simp only [Bool.and_eq_true,decide_eq_true_eq] at hc
        obtain ⟨⟨hpos, he⟩, hk⟩ := hc
        have he : e ∈ S := by simpa using he
        have hfit : (vs = [.slice none 0 0]) ∨ ∃ (a : Addr) (len cap : Nat), vs = [.slice (some a) len cap] ∧ len ≤ cap ∧ len ≤ B ∧
            ∀ i, i < len → ∃ cs', w.cells? base (a.add (i * P.cellsOf e)) (P.cellsOf e) = some cs' ∧ ∃ y, DataW.trod enc P w base spare held fuel e cs' = some y ∧ Bnd bulk B y.1 := by
          rcases DataW.trod_slice hu h with ⟨rfl, _⟩ | ⟨a, len, cap, elems, rest, n, hn, rfl, hx, _, hl, hm, hlen, hel, _, _⟩
          · exact .inl rfl
          · have hlB : len ≤ B := by
              rcases hb with hb | ⟨hb, hb2⟩
              · omega
              · have h1 := (hb.sl (elems.map (·.1)) (rest.map (·.1))).1
                rw [hx] at hb2
                rw [List.length_map] at h1
                have hb2 : bulk (.slice (elems.map (·.1)) (rest.map (·.1))) ≤ B := hb2
                omega
            refine .inr ⟨a, len, cap, rfl, hl, hlB, fun i hi => ?_⟩
            obtain rfl : fuel = n := by omega
            have h1 := hel i hi
            rw [X8 (by omega)] at h1
            cases hcs : w.cells? base (a.add (i * P.cellsOf e)) (P.cellsOf e) with
            | none => rw [hcs] at h1; simp at h1
            | some cs' =>
              rw [hcs] at h1
              refine ⟨cs', rfl, _, h1, ?_⟩
              rcases hb with hb | ⟨hb, hb2⟩
              · exact .inl hb
              · refine .inr ⟨hb, ?_⟩
                have h2 := (hb.sl (elems.map (·.1)) (rest.map (·.1))).2 elems[i].1 (List.mem_map.2 ⟨elems[i], List.getElem_mem _, rfl⟩)
                rw [hx] at hb2
                exact Nat.le_trans h2 hb2
        -- by rows
        have hrows : ∃ m f, m ≤ B ∧ (∀ i, i < m → OkC P B fuel e ((List.range (P.cellsOf e)).map (f i))) ∧ ∃ v, vs = [v] ∧ RepI (fun g => g < w.heap.size) w (.rows (P.cellsOf e) m f) v := by
          rcases hfit with rfl | ⟨a, len, cap, rfl, hl, hm, hel⟩
          · exact ⟨0, fun _ _ => .any, Nat.zero_le _, fun i hi => absurd hi (Nat.not_lt_zero _), _, rfl, none, 0, rfl, Nat.le_refl _, .inl rfl⟩
          · have hex : ∀ i, i < len → ∃ cs, OkC P B fuel e cs ∧ cs.length = P.cellsOf e ∧ ∀ j, j < P.cellsOf e → ∃ u, w.cell? ((a.add (i * P.cellsOf e)).add j) = some u ∧ RepI (fun g => g < w.heap.size) w (cs.getD j .any) u := by
              intro i hi
              obtain ⟨cs', hcs', y, hy, hyb⟩ := hel i hi
              obtain ⟨_, hcl, hcell⟩ := World.cells?_some hcs'
              obtain ⟨cs, hok, hrep⟩ := ih e cs' y he hy hyb
              have hlen : cs.length = P.cellsOf e := by rw [hrep.length, hcl]
              refine ⟨cs, hok, hlen, fun j hj => ?_⟩
              obtain ⟨u, hu, hr⟩ := hrep.get j (by omega)
              exact ⟨u, by rw [hcell j hj, hu], hr⟩
            obtain ⟨g, hg⟩ := Classical.axiomOfChoice (r := fun (i : Nat) (cs : List C) => i < len → OkC P B fuel e cs ∧ cs.length = P.cellsOf e ∧ ∀ j, j < P.cellsOf e → ∃ u, w.cell? ((a.add (i * P.cellsOf e)).add j) = some u ∧ RepI (fun g => g < w.heap.size) w (cs.getD j .any) u) (fun i => by
              by_cases hi : i < len
              · obtain ⟨cs, h⟩ := hex i hi; exact ⟨cs, fun _ => h⟩
              · exact ⟨[], fun h => absurd h hi⟩)
            refine ⟨len, fun i j => (g i).getD j .any, hm, fun i hi => ?_, _, rfl, some a, cap, rfl, hl, ?_⟩
            · obtain ⟨h1, h2, _⟩ := hg i hi
              have e : (List.range (P.cellsOf e)).map (fun j => (g i).getD j .any) = g i := by
                refine List.ext_getElem (by simp [h2]) fun j hj1 hj2 => ?_
                simp [X7, X8 hj2]
              rw [e]; exact h1
            · by_cases h0 : len = 0
              · exact .inl h0
              · right
                obtain ⟨u, hu, _⟩ := (hg 0 (by omega)).2.2 0 hpos
                rw [Nat.zero_mul] at hu
                have ha0 : (a.add 0).add 0 = a := by simp [Addr.add]
                rw [ha0] at hu
                obtain ⟨hlt, hsp⟩ := cell_lt hu
                refine ⟨a.block, a.off, ?_, hlt, fun i j hi hj => ?_⟩
                · obtain ⟨b, o, s⟩ := a; simp only at hsp; subst hsp; rfl
                · obtain ⟨u, hu, hr⟩ := (hg i hi).2.2 j hj
                  refine ⟨u, ?_, hr⟩
                  rw [← hu]
                  congr 1
                  obtain ⟨b, o, s⟩ := a
                  simp only at hsp
                  subst hsp
                  unfold Addr.add
                  split <;> split <;> simp_all <;> omega
        simp only
        cases hue : P.underlying e with
        | none =>
          obtain ⟨m, f, h1, h2, v, rfl, h3⟩ := hrows
          exact ⟨[.rows (P.cellsOf e) m f], ⟨m, f, rfl, h1, h2⟩, h3, trivial⟩
        | some de =>
          cases de with
          | int k =>
            rw [hue] at hk
            have hk : P.cellsOf e = 1 := by simpa using hk
            obtain ⟨m, f, h1, h2, v, rfl, a, cap, rfl, h4, h5⟩ := hrows
            have h2' : ∀ i, i < m → ∃ x, f i 0 = .int k x ∧ k.min ≤ x ∧ x ≤ k.max := by
              intro i hi
              have := h2 i hi
              rw [hk] at this
              cases fuel with
              | zero => exact this.elim
              | succ fuel =>
                simp only [OkC,hue] at this
                obtain ⟨x, hx, hr⟩ := this
                simp only [List.range_succ,List.range_zero,List.nil_append,List.map_cons,List.map_nil,List.cons.injEq,and_true] at hx
                exact ⟨x, hx, hr⟩
            obtain ⟨g, hg⟩ := Classical.axiomOfChoice (r := fun (i : Nat) (x : Int) => i < m → f i 0 = .int k x ∧ k.min ≤ x ∧ x ≤ k.max) (fun i => by
              by_cases hi : i < m
              · obtain ⟨x, h⟩ := h2' i hi; exact ⟨x, fun _ => h⟩
              · exact ⟨0, fun h => absurd h hi⟩)
            have hlen : ((List.range m).map g).length = m := by simp
            refine ⟨[.ints k ((List.range m).map g)], ⟨_, rfl, by rw [hlen]; exact h1, fun x hx => ?_⟩, ⟨a, cap, by rw [hlen], by rw [hlen]; exact h4, ?_⟩, trivial⟩
            · obtain ⟨i, hi, rfl⟩ := List.mem_map.1 hx
              exact (hg i (List.mem_range.1 hi)).2
            · rw [hlen]
              rcases h5 with h5 | ⟨b, o, ha, hb, hcell⟩
              · exact .inl h5
              · refine .inr ⟨b, o, ha, hb, fun i hi => ?_⟩
                obtain ⟨u, hu, hr⟩ := hcell i 0 hi (by omega)
                rw [(hg i hi).1] at hr
                have hr : u = .int k (g i) := hr
                rw [hk, Nat.mul_one, Nat.add_zero] at hu
                rw [hu, hr]
                simp [X7, hi]
          | _ =>
            obtain ⟨m, f, h1, h2, v, rfl, h3⟩ := hrows
            exact ⟨[.rows (P.cellsOf e) m f], ⟨m, f, rfl, h1, h2⟩, h3, trivial⟩
      | struct fs =>
        simp only [Bool.and_eq_true] at hc
        obtain ⟨hcon, hmem⟩ := hc
        obtain ⟨xs, n, hn, hx, hcl, hxl, hf⟩ := DataW.trod_struct hu h
        obtain rfl : fuel = n := by omega
        have hall : ∀ f ∈ fs.toList, ∃ y, DataW.trod enc P w base spare held fuel f.type ((vs.drop f.offset).take (P.cellsOf f.type)) = some y ∧ Bnd bulk B y.1 := by
          intro f hfm
          obtain ⟨i, hi, rfl⟩ := List.mem_iff_getElem.1 hfm
          have hi' : i < fs.size := by simpa using hi
          have h1 := hf i fs[i] (Array.getElem?_eq_getElem hi')
          rw [X8 (by omega)] at h1
          refine ⟨xs[i], by simpa using h1, ?_⟩
          rcases hb with hb | ⟨hb, hb2⟩
          · exact .inl hb
          · refine .inr ⟨hb, ?_⟩
            have h2 := hb.agg (xs.map (·.1)) xs[i].1 (List.mem_map.2 ⟨xs[i], List.getElem_mem _, rfl⟩)
            rw [hx] at hb2
            exact Nat.le_trans h2 hb2
        have hmem : ∀ f ∈ fs.toList, f.type ∈ S := fun f hf => by simpa using List.all_eq_true.1 hmem f hf
        simp only
        -- field by field
        have key : ∀ (l : List Field) (off : Nat), (∀ f ∈ l, ∃ y, DataW.trod enc P w base spare held fuel f.type ((vs.drop f.offset).take (P.cellsOf f.type)) = some y ∧ Bnd bulk B y.1) → (∀ f ∈ l, f.type ∈ S) → contigF P off l vs.length = true →
            ∃ cs, OkF (OkC P B fuel) l cs ∧ RepIL (fun g => g < w.heap.size) w cs (vs.drop off) := by
          intro l
          induction l with
          | nil =>
            intro off _ _ hcf
            simp only [contigF,beq_iff_eq] at hcf
            exact ⟨[], rfl, by rw [List.drop_eq_nil_of_le (by omega)]; trivial⟩
          | cons f r ihl =>
            intro off hy hm hcf
            simp only [contigF,Bool.and_eq_true,beq_iff_eq] at hcf
            obtain ⟨ho, hcf⟩ := hcf
            obtain ⟨y, hy1, hy2⟩ := hy f (by simp)
            obtain ⟨c1, h1, h2⟩ := ih f.type _ y (hm f (by simp)) hy1 hy2
            obtain ⟨c2, h3, h4⟩ := ihl (off + P.cellsOf f.type) (fun g hg => hy g (by simp [hg])) (fun g hg => hm g (by simp [hg])) hcf
            refine ⟨c1 ++ c2, ⟨c1, c2, rfl, h1, h3⟩, ?_⟩
            have e : vs.drop off = (vs.drop f.offset).take (P.cellsOf f.type) ++ vs.drop (off + P.cellsOf f.type) := by
              rw [ho, ← List.drop_drop, List.take_append_drop]
            rw [e]
            exact h2.append h4
        have := key fs.toList 0 hall hmem (by rw [hcl]; exact hcon)
        rwa [List.drop_zero] at this
      | _ => simp at hc
theorem open_argSB {S : List TypeId} (hS : closedB P S = true) {t : TypeId} (ht : t ∈ S) {us : Array Value} {d : DataW H} {p : List MemPlace} (h : DataW.Trod enc P w base spare held t (.agg us) d p) (hb : Bnd bulk B d) :
    ∃ n cs, OkC P B n t cs ∧ RepV1 loc0 dom0 (fun g => g < w.heap.size) w (.agg cs) (.agg us) := by
  obtain ⟨fuel, hf⟩ := h
  obtain ⟨cs, h1, h2⟩ := open_data hS fuel t _ _ ht hf hb
  exact ⟨fuel, cs, h1, us, rfl, h2.repL⟩
end
end Go.Eng
/-
  THE ENGINE, PART LW: a law: a function that answers true, and leaves its arguments as they were.
-/
namespace Go.Eng
open Go Go.ChangeShapes Go.WideShapes Go.RowKit
section
variable {H : Type} {enc : TypeId × Value → H} {P : Program}
theorem arg_stays (hl : laidOutB P = true) {t : TypeId} (hr : P.readableRec t = true) (hrow : t < P.types.size) {W W' : World} {v : Value} {d : DataW H} {ps : List MemPlace} (h : DataW.Trod enc P W 0 (fun _ => true) true t v d ps)
    (hb : Below W.heap.size W W') (hlt : ∀ x ∈ ps, x.block < W.heap.size) : DataW.Trod enc P W' 0 (fun b => decide (b < W.heap.size)) true t v d ps :=
  Below.trod hl hr hrow h hb hlt
theorem law_post {f : Func} {s : ChangeSpec} {W W' : World} {args : Array Value} {ds : List (DataW H)} {before : List MemPlace} {tb : TypeId}
    (hW : DataW.Whole enc P f.params.toList s.vars false W args.toList ds [] before) (hv : s.vars = []) (hrt : f.resultTypes = #[tb]) (htb : P.underlying tb = some .bool)
    (hres : (s.fn H (ds ++ [])).results = [.lit (.bool true)]) (hargs : DataW.TrodAll enc P W' 0 (fun b => decide (b < W.heap.size)) true f.params.toList args.toList (s.fn H (ds ++ [])).args before)
    (hvs : (s.fn H (ds ++ [])).vars = []) (hb : Below W.heap.size W W') : s.post enc P f false true false false W args (.bool true) W' := by
  refine ⟨ds, [], before, [], before, [], hW, ?_, hargs, ?_, World.keptBut_mono (fun p hp => ⟨hp, .inr (.inl hp)⟩) (hb.frame (· ∈ before)), fun h => by cases h⟩
  · rw [hres, hrt]
    exact trodAll_mk1 (shut_bool htb true)
  · rw [hv, hvs]; rfl
end
end Go.Eng
namespace Go.Proofs.YtllnmicmblbfaaaGreat
open Go Go.Proofs Go.Eng Go.ChangeShapes Go.WideShapes Go.ChangeAt Go.RowKit
structure RaOk (m : Raw) : Prop where
  x : InR m.xs
  y : InR m.ys
  v : InI m.vs
theorem ok_two {R : TypeId → List C → Prop} {f g : Field} {cs : List C} (h : OkF R [f, g] cs) : ∃ c1 c2, cs = c1 ++ c2 ∧ R f.type c1 ∧ R g.type c2 := by
  obtain ⟨c1, c2, rfl, h1, c3, c4, rfl, h2, h3⟩ := h
  have h3 : c4 = [] := h3
  subst h3
  exact ⟨c1, c3, by simp, h1, h2⟩
open Go Go.Eng
structure GoodP (l : List Mono) : Prop where
  pb : PB l 8 4 4
  can : Go.Eng.Can l
  asc : VAsc l
theorem same_true {a b : List Mono} (h : a = b) (hp : POk a) : Pr Tryz.prog 11 [PV a, PV b] (.one (.bool true)) := by
  subst h
  have := Same_spec a a hp hp
  rwa [decide_eq_true (rfl : a = a)] at this
open Go Go.Eng
theorem sameAll_true (ps : List (List Mono)) (hp : ∀ p ∈ ps, POk p) (hl : ps.length < 2 ^ 30) : Pr Tryz.prog 8 [LV ps, LV ps] (.one (.bool true)) := by
  refine pv T_ok mixed Tryz.func8 rfl (by decide) _ (by simp [Tryz.ntmps8]) ⟨[0, 1, 4, 5, 10, 14, 26], []⟩ (by kernel_rfl) _ ?_
  show vc T _ _ (Option.get! Tryz.f8.body) _ _
  simp only [Tryz.f8,Tryz.ntmps8,Option.get!,iS,iM,eO,J1]
  simp only [vx,T,K5,J0,K6,K7,↓reduceIte,J1,J2,J3,J4,J5,J6,J7,J8,J9,reduceCtorEq,K1,K2,K3,K4,LV,LC]
  refine Lk (fun y : {i : Nat // i ≤ ps.length} => ⟨[(0, LV ps), (1, LV ps), (5, .one (.int .i64 y.1))], [], 1, 27⟩) (fun y => ps.length - y.1) ⟨0, Nat.zero_le _⟩ ?_ (fun ⟨i, hi⟩ => ?_)
  · refine Sa ?_; simp only [rx,Y0,Y1,Y2,Y3,Y4,Y5,Y6,Y7,ren,↓reduceIte,J1,J2,J3,J4,J5,J6,J7,J8,J9,reduceCtorEq,K1,K2,K3,K4,Y8,Y9,X2,X3,X4,LV,LC]
  have i1 := wI i (by omega)
  simp only [vx,T,K5,J0,K6,K7,↓reduceIte,J1,J2,J3,J4,J5,J6,J7,J8,J9,reduceCtorEq,K1,K2,K3,K4,LV,LC]
  refine ⟨fun h1 => Lg ?_, fun h1 => Lg ?_⟩
  · have hil : i < ps.length := by omega
    obtain ⟨a, ha⟩ : ∃ a, a = ps.getD i default := ⟨_, rfl⟩
    have hpa : POk a := by rw [ha, X7, X8 hil]; exact hp _ (List.getElem_mem _)
    simp only [vx,T,K5,J0,K6,K7,↓reduceIte,J1,J2,J3,J4,J5,J6,J7,J8,J9,reduceCtorEq,K1,K2,K3,K4,LV,LC,← ha,PC]
    refine ⟨⟨by omega, by omega⟩, ⟨by omega, by omega⟩, Cg (same_true rfl hpa) ?_⟩
    simp only [vx,T,K5,J0,K6,K7,↓reduceIte,J1,J2,J3,J4,J5,J6,J7,J8,J9,reduceCtorEq,K1,K2,K3,K4,LV,LC]
    simp only [i1]
    refine Lq ⟨i + 1, by omega⟩ ?_ ?_
    · refine Sa ?_; simp only [rx,Y0,Y1,Y2,Y3,Y4,Y5,Y6,Y7,ren,↓reduceIte,J1,J2,J3,J4,J5,J6,J7,J8,J9,reduceCtorEq,K1,K2,K3,K4,Y8,Y9,X2,X3,X4,LV,LC]
    · simp only; omega
  · simp only [vx,T,K5,J0,K6,K7,↓reduceIte,J1,J2,J3,J4,J5,J6,J7,J8,J9,reduceCtorEq,K1,K2,K3,K4]
    exact Ve rfl
def rawM (m : Mono) : Raw := ⟨zs m.1.num, zm m.1.num, zs (m.1.den : Int), zm (m.1.den : Int), m.2⟩
theorem rawM_get {l : List Mono} {i : Nat} (hi : i < l.length) : (l.map rawM).getD i default = rawM (l.getD i default) := by
  rw [X7, X7, List.getElem?_map, X8 hi]; rfl
theorem asc_ascB {vs : List Int} (hp : vs.Pairwise (· ≤ ·)) (hi : In63 vs) : ascB vs = true := by
  unfold ascB
  refine all_range.2 fun k hk => ?_
  have h0 : 0 ≤ vs.getD k 0 := by
    rw [X7, X8 hk]
    exact (hi _ (List.getElem_mem hk)).1
  rw [decide_eq_true h0, Bool.true_and]
  by_cases hk0 : k = 0
  · rw [decide_eq_true hk0]; rfl
  · have h1 := List.pairwise_iff_getElem.1 hp (k - 1) k (by omega) hk (by omega)
    rw [Bool.or_eq_true]
    right
    refine decide_eq_true ?_
    rw [X7, X7, X8 hk, X8 (by omega)]
    exact h1
theorem vR_norm {l : List Mono} {n d B : Nat} (hp : PB l n d B) (hc : Go.Eng.Can l) (ha : VAsc l) : vR (l.map rawM) = true := by
  unfold vR
  rw [List.length_map]
  refine all_range.2 fun i hi => ?_
  have hm : l.getD i default ∈ l := by rw [X7, X8 hi]; exact List.getElem_mem hi
  unfold gB
  rw [rawM_get hi]
  have h1 : okM (rawM (l.getD i default)) = true := by
    unfold okM
    have e : okQ (rawM (l.getD i default)).s (rawM (l.getD i default)).xs (rawM (l.getD i default)).t (rawM (l.getD i default)).ys = true := okQ_Q _
    rw [e, Bool.true_and]
    refine decide_eq_true fun h => hc.2 _ hm ?_
    have h : val (zm (l.getD i default).1.num) = 0 := h
    rw [val_zm] at h
    exact Rat.num_eq_zero.1 (by omega)
  have h2 : ascB (rawM (l.getD i default)).vs = true := asc_ascB (ha _ hm) (hp.m _ hm).2.2
  rw [h1, h2, Bool.true_and, Bool.true_and]
  by_cases h0 : i = 0
  · rw [decide_eq_true h0]; rfl
  · rw [Bool.or_eq_true]
    right
    refine decide_eq_true ?_
    rw [rawM_get (by omega)]
    have h3 := List.pairwise_iff_getElem.1 hc.1 (i - 1) i (by omega) hi (by omega)
    show cmpV (l.getD (i - 1) default).2 (l.getD i default).2 < 0
    rw [X7, X7, X8 hi, X8 (by omega)]
    exact h3
theorem iValid_norm {l : List Mono} {n d B : Nat} (hp : PB l n d B) (hc : Go.Eng.Can l) (ha : VAsc l) (hn : n < 2 ^ 30) (hd : d < 2 ^ 30) (hB : B < 2 ^ 30) : Pr Tryz.prog 7 [PV l] (.one (.bool true)) := by
  have hpn := hp.n
  have h := ePValid_spec (l.map rawM) ⟨by rw [List.length_map]; omega, fun m hm => by
    obtain ⟨a, haa, rfl⟩ := List.mem_map.1 hm
    have h1 := hp.m a haa
    have h2 : zn a.1.num ≤ qm a.1 := by unfold qm; omega
    have h3 : zn (a.1.den : Int) ≤ qm a.1 := by unfold qm; have : zn (a.1.den : Int) = nl a.1.den := rfl; omega
    refine ⟨zm_inr _, zm_inr _, ?_, ?_, fun x hx => ?_, ?_⟩
    · show (zm a.1.num).length < _; rw [zm_length]; omega
    · show (zm (a.1.den : Int)).length < _; rw [zm_length]; omega
    · have := h1.2.2 x hx; omega
    · show a.2.length < _; omega⟩
  rw [vR_norm hp hc ha] at h
  refine h.arg1c (CLe.rows (by rw [List.length_map]) fun i j hi hj => CLe.of_eq ?_)
  rw [rawM_get hi]
  match j, hj with
  | 0, _ => rfl
  | 1, _ => rfl
  | 2, _ => rfl
  | 3, _ => rfl
  | 4, _ => rfl
open Go Go.Eng
def letB (c : Int) : Bool := (decide (97 ≤ c) && decide (c ≤ 122)) || (decide (65 ≤ c) && decide (c ≤ 90))
def digB (c : Int) : Bool := decide (48 ≤ c) && decide (c ≤ 57)
theorem letter_spec (c : Int) : Pr Tryz.prog 168 [.one (.int .u8 c)] (.one (.bool (letB c))) := by
  refine pv T_ok mixed Tryz.func168 rfl (by decide) _ (by simp [Tryz.ntmps168]) ⟨[0, 2], []⟩ (by kernel_rfl) _ ?_
  show vc T _ _ (Option.get! Tryz.f168.body) _ _
  simp only [Tryz.f168,Tryz.ntmps168,Option.get!,iS,iM,eO,J1]
  simp only [vx,T,K5,J0,K6,K7,↓reduceIte,J1,J2,J3,J4,J5,J6,J7,J8,J9,reduceCtorEq,K1,K2,K3,K4]
  refine ⟨fun h1 => Lg ?_, fun h1 => Lg ?_⟩
  · simp only [vx,T,K5,J0,K6,K7,↓reduceIte,J1,J2,J3,J4,J5,J6,J7,J8,J9,reduceCtorEq,K1,K2,K3,K4]
    refine ⟨fun h2 => Lg ?_, fun h2 => Lg ?_⟩
    · simp only [vx,T,K5,J0,K6,K7,↓reduceIte,J1,J2,J3,J4,J5,J6,J7,J8,J9,reduceCtorEq,K1,K2,K3,K4]
      exact vb (by simp [letB, h1, h2])
    · simp only [vx,T,K5,J0,K6,K7,↓reduceIte,J1,J2,J3,J4,J5,J6,J7,J8,J9,reduceCtorEq,K1,K2,K3,K4]
      refine ⟨fun h3 => Lg ?_, fun h3 => Lg ?_⟩
      · simp only [vx,T,K5,J0,K6,K7,↓reduceIte,J1,J2,J3,J4,J5,J6,J7,J8,J9,reduceCtorEq,K1,K2,K3,K4]
        exact vb (by simp [letB, h1, h2, h3])
      · simp only [vx,T,K5,J0,K6,K7,↓reduceIte,J1,J2,J3,J4,J5,J6,J7,J8,J9,reduceCtorEq,K1,K2,K3,K4]
        exact vb (by simp [letB, h1, h2, h3])
  · simp only [vx,T,K5,J0,K6,K7,↓reduceIte,J1,J2,J3,J4,J5,J6,J7,J8,J9,reduceCtorEq,K1,K2,K3,K4]
    refine ⟨fun h3 => Lg ?_, fun h3 => Lg ?_⟩
    · simp only [vx,T,K5,J0,K6,K7,↓reduceIte,J1,J2,J3,J4,J5,J6,J7,J8,J9,reduceCtorEq,K1,K2,K3,K4]
      exact vb (by simp [letB, h1, h3])
    · simp only [vx,T,K5,J0,K6,K7,↓reduceIte,J1,J2,J3,J4,J5,J6,J7,J8,J9,reduceCtorEq,K1,K2,K3,K4]
      exact vb (by simp [letB, h1, h3])
theorem digit_spec (c : Int) : Pr Tryz.prog 169 [.one (.int .u8 c)] (.one (.bool (digB c))) := by
  refine pv T_ok mixed Tryz.func169 rfl (by decide) _ (by simp [Tryz.ntmps169]) ⟨[0, 2], []⟩ (by kernel_rfl) _ ?_
  show vc T _ _ (Option.get! Tryz.f169.body) _ _
  simp only [Tryz.f169,Tryz.ntmps169,Option.get!,iS,iM,eO,J1]
  simp only [vx,T,K5,J0,K6,K7,↓reduceIte,J1,J2,J3,J4,J5,J6,J7,J8,J9,reduceCtorEq,K1,K2,K3,K4]
  refine ⟨fun h1 => Lg ?_, fun h1 => Lg ?_⟩
  · simp only [vx,T,K5,J0,K6,K7,↓reduceIte,J1,J2,J3,J4,J5,J6,J7,J8,J9,reduceCtorEq,K1,K2,K3,K4]
    exact vb (by simp [digB, h1])
  · simp only [vx,T,K5,J0,K6,K7,↓reduceIte,J1,J2,J3,J4,J5,J6,J7,J8,J9,reduceCtorEq,K1,K2,K3,K4]
    exact vb (by simp [digB, h1])
def okC (c : Int) : Bool := letB c || digB c || decide (c = 95)
def wordN (s : ByteArray) (i : Nat) : Nat := if i < s.size then (if okC (strAt s i) = true then wordN s (i + 1) else i) else i
  termination_by s.size - i
theorem wordN_step {s : ByteArray} {i : Nat} (h : i < s.size) (h2 : okC (strAt s i) = true) : wordN s i = wordN s (i + 1) := by rw [wordN, if_pos h, if_pos h2]
theorem wordN_stop {s : ByteArray} {i : Nat} (h : ¬ (i < s.size ∧ okC (strAt s i) = true)) : wordN s i = i := by
  rw [wordN]
  by_cases h1 : i < s.size
  · rw [if_pos h1, if_neg (fun h2 => h ⟨h1, h2⟩)]
  · rw [if_neg h1]
def wordR (s : ByteArray) (i : Nat) : Nat := if i = s.size then i else if letB (strAt s i) = true then wordN s i else i
theorem word_spec (s : ByteArray) (a : Nat) (ha : a ≤ s.size) (hl : s.size < 2 ^ 62) : Pr Tryz.prog 163 [.one (.str s), .one (.int .i64 a)] (.one (.int .i64 (wordR s a))) := by
  refine pv T_ok mixed Tryz.func163 rfl (by decide) _ (by simp [Tryz.ntmps163]) ⟨[0, 1, 4, 15, 38], []⟩ (by kernel_rfl) _ ?_
  show vc T _ _ (Option.get! Tryz.f163.body) _ _
  simp only [Tryz.f163,Tryz.ntmps163,Option.get!,iS,iM,eO,J1]
  simp only [vx,T,K5,J0,K6,K7,↓reduceIte,J1,J2,J3,J4,J5,J6,J7,J8,J9,reduceCtorEq,K1,K2,K3,K4]
  have hl63 : (s.size : Int) < 2 ^ 62 := by omega
  refine ⟨fun h1 => Lg ?_, fun h1 => Lg ?_⟩
  · have h1 : a = s.size := by omega
    simp only [vx,T,K5,J0,K6,K7,↓reduceIte,J1,J2,J3,J4,J5,J6,J7,J8,J9,reduceCtorEq,K1,K2,K3,K4]
    have e : wordR s a = a := by unfold wordR; rw [if_pos h1]
    rw [e]
    exact Ve rfl
  · have h1 : a < s.size := by omega
    simp only [vx,T,K5,J0,K6,K7,↓reduceIte,J1,J2,J3,J4,J5,J6,J7,J8,J9,reduceCtorEq,K1,K2,K3,K4]
    refine ⟨⟨by omega, by omega⟩, Cg (letter_spec _) ?_⟩
    simp only [vx,T,K5,J0,K6,K7,↓reduceIte,J1,J2,J3,J4,J5,J6,J7,J8,J9,reduceCtorEq,K1,K2,K3,K4]
    refine ⟨fun h2 => Lg ?_, fun h2 => Lg ?_⟩
    · have h2 : letB (strAt s a) = false := by simpa using h2
      simp only [vx,T,K5,J0,K6,K7,↓reduceIte,J1,J2,J3,J4,J5,J6,J7,J8,J9,reduceCtorEq,K1,K2,K3,K4]
      have e : wordR s a = a := by unfold wordR; rw [if_neg (by omega), if_neg (by rw [h2]; simp)]
      rw [e]
      exact Ve rfl
    · have h2 : letB (strAt s a) = true := by simpa using h2
      have e : wordR s a = wordN s a := by unfold wordR; rw [if_neg (by omega), if_pos h2]
      rw [e]
      simp only [vx,T,K5,J0,K6,K7,↓reduceIte,J1,J2,J3,J4,J5,J6,J7,J8,J9,reduceCtorEq,K1,K2,K3,K4]
      refine Lk (fun y : {i : Nat // i ≤ s.size ∧ wordN s i = wordN s a} => ⟨[(0, .one (.str s)), (1, .one (.int .i64 y.1))], [], 1, 42⟩) (fun y => s.size - y.1) ⟨a, ha, rfl⟩ ?_ (fun ⟨i, hi, he⟩ => ?_)
      · refine Sa ?_; simp only [rx,Y0,Y1,Y2,Y3,Y4,Y5,Y6,Y7,ren,↓reduceIte,J1,J2,J3,J4,J5,J6,J7,J8,J9,reduceCtorEq,K1,K2,K3,K4,Y8,Y9,X2,X3,X4]
      have i1 : i < s.size → IntKind.i64.wrap ((i : Int) + 1) = ((i + 1 : Nat) : Int) := fun _ => by rw [IntWalk.i64_in _ (by omega)]; omega
      simp only [vx,T,K5,J0,K6,K7,↓reduceIte,J1,J2,J3,J4,J5,J6,J7,J8,J9,reduceCtorEq,K1,K2,K3,K4]
      refine ⟨fun h3 => Lg ?_, fun h3 => Lg ?_⟩
      · simp only [vx,T,K5,J0,K6,K7,↓reduceIte,J1,J2,J3,J4,J5,J6,J7,J8,J9,reduceCtorEq,K1,K2,K3,K4]
        refine ⟨⟨by omega, by omega⟩, Cg (letter_spec _) ?_⟩
        simp only [vx,T,K5,J0,K6,K7,↓reduceIte,J1,J2,J3,J4,J5,J6,J7,J8,J9,reduceCtorEq,K1,K2,K3,K4]
        refine ⟨fun h4 => Lg ?_, fun h4 => Lg ?_⟩
        · have h4 : letB (strAt s i) = true := by simpa using h4
          simp only [vx,T,K5,J0,K6,K7,↓reduceIte,J1,J2,J3,J4,J5,J6,J7,J8,J9,reduceCtorEq,K1,K2,K3,K4]
          simp only [i1 (by omega)]
          refine Lq ⟨i + 1, by omega, by rw [← wordN_step (by omega) (by simp [okC, h4]), he]⟩ ?_ ?_
          · refine Sa ?_; simp only [rx,Y0,Y1,Y2,Y3,Y4,Y5,Y6,Y7,ren,↓reduceIte,J1,J2,J3,J4,J5,J6,J7,J8,J9,reduceCtorEq,K1,K2,K3,K4,Y8,Y9,X2,X3,X4]
          · simp only; omega
        · have h4 : letB (strAt s i) = false := by simpa using h4
          simp only [vx,T,K5,J0,K6,K7,↓reduceIte,J1,J2,J3,J4,J5,J6,J7,J8,J9,reduceCtorEq,K1,K2,K3,K4]
          refine ⟨⟨by omega, by omega⟩, Cg (digit_spec _) ?_⟩
          simp only [vx,T,K5,J0,K6,K7,↓reduceIte,J1,J2,J3,J4,J5,J6,J7,J8,J9,reduceCtorEq,K1,K2,K3,K4]
          refine ⟨fun h5 => Lg ?_, fun h5 => Lg ?_⟩
          · have h5 : digB (strAt s i) = true := by simpa using h5
            simp only [vx,T,K5,J0,K6,K7,↓reduceIte,J1,J2,J3,J4,J5,J6,J7,J8,J9,reduceCtorEq,K1,K2,K3,K4]
            simp only [i1 (by omega)]
            refine Lq ⟨i + 1, by omega, by rw [← wordN_step (by omega) (by simp [okC, h5]), he]⟩ ?_ ?_
            · refine Sa ?_; simp only [rx,Y0,Y1,Y2,Y3,Y4,Y5,Y6,Y7,ren,↓reduceIte,J1,J2,J3,J4,J5,J6,J7,J8,J9,reduceCtorEq,K1,K2,K3,K4,Y8,Y9,X2,X3,X4]
            · simp only; omega
          · have h5 : digB (strAt s i) = false := by simpa using h5
            simp only [vx,T,K5,J0,K6,K7,↓reduceIte,J1,J2,J3,J4,J5,J6,J7,J8,J9,reduceCtorEq,K1,K2,K3,K4]
            refine ⟨⟨by omega, by omega⟩, ?_⟩
            refine ⟨fun h6 => Lg ?_, fun h6 => Lg ?_⟩
            · skip
              simp only [vx,T,K5,J0,K6,K7,↓reduceIte,J1,J2,J3,J4,J5,J6,J7,J8,J9,reduceCtorEq,K1,K2,K3,K4]
              simp only [i1 (by omega)]
              refine Lq ⟨i + 1, by omega, by rw [← wordN_step (by omega) (by simp [okC, h6]), he]⟩ ?_ ?_
              · refine Sa ?_; simp only [rx,Y0,Y1,Y2,Y3,Y4,Y5,Y6,Y7,ren,↓reduceIte,J1,J2,J3,J4,J5,J6,J7,J8,J9,reduceCtorEq,K1,K2,K3,K4,Y8,Y9,X2,X3,X4]
              · simp only; omega
            · simp only [vx,T,K5,J0,K6,K7,↓reduceIte,J1,J2,J3,J4,J5,J6,J7,J8,J9,reduceCtorEq,K1,K2,K3,K4]
              have e2 := wordN_stop (s := s) (i := i) (fun h => by
                have := h.2
                simp [okC, h4, h5, h6] at this)
              rw [← he, e2]
              exact Ve rfl
      · simp only [vx,T,K5,J0,K6,K7,↓reduceIte,J1,J2,J3,J4,J5,J6,J7,J8,J9,reduceCtorEq,K1,K2,K3,K4]
        have e2 := wordN_stop (s := s) (i := i) (fun h => by omega)
        rw [← he, e2]
        exact Ve rfl
def nameB (s : ByteArray) : Bool := !strEq s ⟨#[]⟩ && decide (s.size ≤ 24) && decide (wordR s 0 = s.size)
theorem IsName_spec (s : ByteArray) (hl : s.size < 2 ^ 62) : Pr Tryz.prog 150 [.one (.str s)] (.one (.bool (nameB s))) := by
  have hw := word_spec s 0 (Nat.zero_le _) hl
  have hw : Pr Tryz.prog 163 [.one (.str s), .one (.int .i64 0)] (.one (.int .i64 (wordR s 0))) := hw
  refine pv T_ok mixed Tryz.func150 rfl (by decide) _ (by simp [Tryz.ntmps150]) ⟨[0, 2], []⟩ (by kernel_rfl) _ ?_
  show vc T _ _ (Option.get! Tryz.f150.body) _ _
  simp only [Tryz.f150,Tryz.ntmps150,Option.get!,iS,iM,eO,J1]
  simp only [vx,T,K5,J0,K6,K7,↓reduceIte,J1,J2,J3,J4,J5,J6,J7,J8,J9,reduceCtorEq,K1,K2,K3,K4]
  refine ⟨fun h1 => Lg ?_, fun h1 => Lg ?_⟩
  · simp only [vx,T,K5,J0,K6,K7,↓reduceIte,J1,J2,J3,J4,J5,J6,J7,J8,J9,reduceCtorEq,K1,K2,K3,K4]
    refine ⟨fun h2 => Lg ?_, fun h2 => Lg ?_⟩
    · have h2 : s.size ≤ 24 := by omega
      simp only [vx,T,K5,J0,K6,K7,↓reduceIte,J1,J2,J3,J4,J5,J6,J7,J8,J9,reduceCtorEq,K1,K2,K3,K4]
      refine Cg hw ?_
      simp only [vx,T,K5,J0,K6,K7,↓reduceIte,J1,J2,J3,J4,J5,J6,J7,J8,J9,reduceCtorEq,K1,K2,K3,K4]
      exact vb (by simp [nameB, h1, h2]; omega)
    · have h2 : ¬ s.size ≤ 24 := by omega
      simp only [vx,T,K5,J0,K6,K7,↓reduceIte,J1,J2,J3,J4,J5,J6,J7,J8,J9,reduceCtorEq,K1,K2,K3,K4]
      exact vb (by simp [nameB, h2])
  · simp only [vx,T,K5,J0,K6,K7,↓reduceIte,J1,J2,J3,J4,J5,J6,J7,J8,J9,reduceCtorEq,K1,K2,K3,K4]
    exact vb (by simp [nameB, h1])
open Go Go.Eng
theorem cmpI_zero (x y : Int) : cmpI x y = 0 ↔ x = y := by
  unfold cmpI
  split
  · constructor <;> intro h <;> omega
  · split
    · constructor <;> intro h <;> omega
    · constructor <;> intro h <;> omega
theorem r1Same_spec (z w : Int) (hz : zn z < 2 ^ 40) (hw : zn w < 2 ^ 40) : Pr Tryz.prog 161 [ZV z, ZV w] (.one (.bool (decide (z = w)))) := by
  have c := rcompare_spec z.natAbs w.natAbs (Nat.lt_trans hz (by decide)) (Nat.lt_trans hw (by decide))
  rw [← zm_eq, ← zm_eq] at c
  refine pv T_ok mixed Tryz.func161 rfl (by decide) _ (by simp [Tryz.ntmps161]) ⟨[0, 1, 2, 3, 4], []⟩ (by kernel_rfl) _ ?_
  show vc T _ _ (Option.get! Tryz.f161.body) _ _
  simp only [Tryz.f161,Tryz.ntmps161,Option.get!,iS,iM,eO,J1]
  simp only [vx,T,K5,J0,K6,K7,↓reduceIte,J1,J2,J3,J4,J5,J6,J7,J8,J9,reduceCtorEq,K1,K2,K3,K4,ZV]
  refine ⟨fun h1 => Lg ?_, fun h1 => Lg ?_⟩
  · have h1 : zs z = zs w := by simpa using h1
    simp only [vx,T,K5,J0,K6,K7,↓reduceIte,J1,J2,J3,J4,J5,J6,J7,J8,J9,reduceCtorEq,K1,K2,K3,K4,ZV]
    refine Cg c ?_
    simp only [vx,T,K5,J0,K6,K7,↓reduceIte,J1,J2,J3,J4,J5,J6,J7,J8,J9,reduceCtorEq,K1,K2,K3,K4]
    refine vb ?_
    rw [decide_eq_decide, cmpI_zero]
    constructor
    · intro h
      have h : z.natAbs = w.natAbs := by omega
      rw [← zof_self z, ← zof_self w, h1, h]
    · intro h; rw [h]
  · have h1 : zs z ≠ zs w := by simpa using h1
    simp only [vx,T,K5,J0,K6,K7,↓reduceIte,J1,J2,J3,J4,J5,J6,J7,J8,J9,reduceCtorEq,K1,K2,K3,K4]
    exact vb (by rw [decide_eq_false (fun e => h1 (by rw [e]))])
def fmtL (n : Nat) (s : ByteArray) : ByteArray := if n = 0 then s else fmtL (n / 10) (strOfNums [IntKind.u8.wrap (IntKind.u32.wrap (48 + ((n % 10 : Nat) : Int)))] ++ s)
  termination_by n
  decreasing_by omega
theorem fmtL_zero (s : ByteArray) : fmtL 0 s = s := by rw [fmtL, if_pos rfl]
theorem fmtL_pos {n : Nat} (h : n ≠ 0) (s : ByteArray) : fmtL n s = fmtL (n / 10) (strOfNums [IntKind.u8.wrap (IntKind.u32.wrap (48 + ((n % 10 : Nat) : Int)))] ++ s) := by rw [fmtL, if_neg h]
def fmtZ (z : Int) : ByteArray := if strEq (fmtL z.natAbs ⟨#[]⟩) ⟨#[]⟩ = true then ⟨#[48]⟩ else if zs z = true then ⟨#[45]⟩ ++ fmtL z.natAbs ⟨#[]⟩ else fmtL z.natAbs ⟨#[]⟩
theorem bb_pow (k : Nat) : BB ^ k = 2 ^ (32 * k) := by rw [Nat.pow_mul]; rfl
def FmtOk (N n : Nat) (s : ByteArray) : Prop := (0 < n → 2 ^ s.size * n ≤ N) ∧ s.size ≤ 32 * nl N
theorem FmtOk.start (N : Nat) : FmtOk N N ⟨#[]⟩ := ⟨fun _ => by show 2 ^ 0 * N ≤ N; omega, Nat.zero_le _⟩
theorem FmtOk.lt {N n : Nat} {s : ByteArray} (h : FmtOk N n s) (h0 : 0 < n) : s.size < 32 * nl N := by
  have h1 := h.1 h0
  have h2 := lt_of_nl N
  rw [bb_pow] at h2
  have h3 : 2 ^ s.size ≤ 2 ^ s.size * n := Nat.le_mul_of_pos_right _ h0
  exact (Nat.pow_lt_pow_iff_right (by decide)).1 (Nat.lt_of_le_of_lt (Nat.le_trans h3 h1) h2)
theorem FmtOk.step {N n : Nat} {s : ByteArray} (h : FmtOk N n s) (h0 : 0 < n) (c : Int) : FmtOk N (n / 10) (strOfNums [c] ++ s) := by
  have hs : (strOfNums [c] ++ s).size = s.size + 1 := by rw [ByteArray.size_append, strOfNums_size]; simp; omega
  refine ⟨fun h1 => ?_, ?_⟩
  · rw [hs, Nat.pow_succ]
    have h2 := h.1 h0
    have h3 : 2 * (n / 10) ≤ n := by omega
    calc 2 ^ s.size * 2 * (n / 10) = 2 ^ s.size * (2 * (n / 10)) := by rw [Nat.mul_assoc]
      _ ≤ 2 ^ s.size * n := Nat.mul_le_mul_left _ h3
      _ ≤ N := h2
  · have := h.lt h0
    rw [hs]; omega
theorem rFormat_spec (z : Int) (hz : zn z < 2 ^ 40) : Pr Tryz.prog 162 [ZV z] (.one (.str (fmtZ z))) := by
  have hz2 : nl z.natAbs < 2 ^ 40 := hz
  refine pv T_ok mixed Tryz.func162 rfl (by decide) _ (by simp [Tryz.ntmps162]) ⟨[0, 1, 2, 3, 4, 5, 6, 13, 28, 30], []⟩ (by kernel_rfl) _ ?_
  show vc T _ _ (Option.get! Tryz.f162.body) _ _
  simp only [Tryz.f162,Tryz.ntmps162,Option.get!,iS,iM,eO,J1]
  simp only [vx,T,K5,J0,K6,K7,↓reduceIte,J1,J2,J3,J4,J5,J6,J7,J8,J9,reduceCtorEq,K1,K2,K3,K4,ZV]
  refine Cg (rNorm_spec z (Nat.lt_trans hz (by decide))) ?_
  simp only [vx,T,K5,J0,K6,K7,↓reduceIte,J1,J2,J3,J4,J5,J6,J7,J8,J9,reduceCtorEq,K1,K2,K3,K4,ZV]
  refine Lk (fun y : {y : Nat × ByteArray // fmtL y.1 y.2 = fmtL z.natAbs ⟨#[]⟩ ∧ FmtOk z.natAbs y.1 y.2 ∧ y.1 ≤ z.natAbs} => ⟨[(1, .one (.ptr 1 0)), (3, .one (.str y.1.2)), (4, .one (.ints .u32 (limbs y.1.1)))], [(1, ⟨.var [.bool (zs z), .ints .u32 (zm z)], true⟩)], 2, 34⟩) (fun y => y.1.1) ⟨(z.natAbs, ⟨#[]⟩), rfl, FmtOk.start _, Nat.le_refl _⟩ ?_ (fun ⟨⟨n, s⟩, he, hok, hle⟩ => ?_)
  · refine Sa ?_; simp only [rx,Y0,Y1,Y2,Y3,Y4,Y5,Y6,Y7,ren,↓reduceIte,J1,J2,J3,J4,J5,J6,J7,J8,J9,reduceCtorEq,K1,K2,K3,K4,Y8,Y9,X2,X3,X4,ZV]
    all_goals first | rfl | trivial
  simp only at he hok hle
  have hnl := nl_mono hle
  simp only [vx,T,K5,J0,K6,K7,↓reduceIte,J1,J2,J3,J4,J5,J6,J7,J8,J9,reduceCtorEq,K1,K2,K3,K4]
  refine ⟨fun h1 => Lg ?_, fun h1 => Lg ?_⟩
  · have h1 : 0 < n := nl_pos.1 (by omega)
    have hlt := hok.lt h1
    simp only [vx,T,K5,J0,K6,K7,↓reduceIte,J1,J2,J3,J4,J5,J6,J7,J8,J9,reduceCtorEq,K1,K2,K3,K4]
    refine Cg (rby_spec n 10 (by omega) (by decide) (by decide)) ?_
    simp only [vx,T,K5,J0,K6,K7,↓reduceIte,J1,J2,J3,J4,J5,J6,J7,J8,J9,reduceCtorEq,K1,K2,K3,K4]
    have hss : (strOfNums [IntKind.u8.wrap (IntKind.u32.wrap (48 + ((n % 10 : Nat) : Int)))]).size = 1 := by rw [strOfNums_size]; rfl
    refine ⟨by omega, Lq ⟨(n / 10, strOfNums [IntKind.u8.wrap (IntKind.u32.wrap (48 + ((n % 10 : Nat) : Int)))] ++ s), ?_, hok.step h1 _, Nat.le_trans (Nat.div_le_self _ _) hle⟩ ?_ ?_⟩
    · simp only
      rw [← fmtL_pos (by omega)]; exact he
    · refine Sa ?_; simp only [rx,Y0,Y1,Y2,Y3,Y4,Y5,Y6,Y7,ren,↓reduceIte,J1,J2,J3,J4,J5,J6,J7,J8,J9,reduceCtorEq,K1,K2,K3,K4,Y8,Y9,X2,X3,X4]
    · simp only; omega
  · have h1 : n = 0 := by
      rcases Nat.eq_zero_or_pos n with h | h
      · exact h
      · have := nl_pos.2 h; omega
    subst h1
    rw [fmtL_zero] at he
    simp only [vx,T,K5,J0,K6,K7,↓reduceIte,J1,J2,J3,J4,J5,J6,J7,J8,J9,reduceCtorEq,K1,K2,K3,K4]
    refine ⟨fun h2 => Lg ?_, fun h2 => Lg ?_⟩
    · simp only [vx,T,K5,J0,K6,K7,↓reduceIte,J1,J2,J3,J4,J5,J6,J7,J8,J9,reduceCtorEq,K1,K2,K3,K4]
      have e : fmtZ z = ⟨#[48]⟩ := by unfold fmtZ; rw [← he, if_pos h2]
      rw [e]
      exact Ve rfl
    · simp only [vx,T,K5,J0,K6,K7,↓reduceIte,J1,J2,J3,J4,J5,J6,J7,J8,J9,reduceCtorEq,K1,K2,K3,K4]
      have hsz := hok.2
      refine ⟨fun h3 => Lg ?_, fun h3 => Lg ?_⟩
      · have e : fmtZ z = ⟨#[45]⟩ ++ s := by unfold fmtZ; rw [← he, if_neg (by rw [h2]; simp), if_pos h3]
        have hs1 : (⟨#[45]⟩ : ByteArray).size = 1 := rfl
        simp only [vx,T,K5,J0,K6,K7,↓reduceIte,J1,J2,J3,J4,J5,J6,J7,J8,J9,reduceCtorEq,K1,K2,K3,K4]
        refine ⟨by omega, ?_⟩
        rw [e]
        exact Ve rfl
      · have e : fmtZ z = s := by unfold fmtZ; rw [← he, if_neg (by rw [h2]; simp), if_neg (by rw [h3]; simp)]
        simp only [vx,T,K5,J0,K6,K7,↓reduceIte,J1,J2,J3,J4,J5,J6,J7,J8,J9,reduceCtorEq,K1,K2,K3,K4]
        rw [e]
        exact Ve rfl
theorem fmtL_size {N : Nat} : ∀ {n : Nat} {s : ByteArray}, FmtOk N n s → (fmtL n s).size ≤ 32 * nl N := by
  intro n
  induction n using Nat.strongRecOn with
  | _ n ih =>
    intro s h
    by_cases h0 : n = 0
    · subst h0; rw [fmtL_zero]; exact h.2
    · rw [fmtL_pos h0]
      exact ih (n / 10) (by omega) (h.step (by omega) _)
theorem fmtZ_size (z : Int) : (fmtZ z).size ≤ 32 * zn z + 1 := by
  have h : (fmtL z.natAbs ⟨#[]⟩).size ≤ 32 * zn z := fmtL_size (FmtOk.start _)
  unfold fmtZ
  split
  · show 1 ≤ _; omega
  · split
    · rw [ByteArray.size_append]; show 1 + _ ≤ _; omega
    · omega
def padS (k : Nat) (s : ByteArray) : ByteArray := if s.size ≤ k then padS k (⟨#[48]⟩ ++ s) else s
  termination_by k + 1 - s.size
  decreasing_by rw [ByteArray.size_append]; show _ - (1 + _) < _; omega
theorem padS_step {k : Nat} {s : ByteArray} (h : s.size ≤ k) : padS k s = padS k (⟨#[48]⟩ ++ s) := by rw [padS, if_pos h]
theorem padS_stop {k : Nat} {s : ByteArray} (h : ¬ s.size ≤ k) : padS k s = s := by rw [padS, if_neg h]
def decT (q : Rat) (k : Nat) : ByteArray := if 0 < k then ((padS k (fmtZ q.num)).extract 0 ((padS k (fmtZ q.num)).size - k) ++ ⟨#[46]⟩) ++ (padS k (fmtZ q.num)).extract ((padS k (fmtZ q.num)).size - k) (padS k (fmtZ q.num)).size else padS k (fmtZ q.num)
def tenP (q : Rat) : Nat → Rat
  | 0 => q
  | k + 1 => tenP q k * Rat.ofInt 10
def decR (q : Rat) : Nat → Nat → ByteArray × Bool
  | 0, _ => (⟨#[]⟩, false)
  | f + 1, k => if (tenP q k).den = 1 then (decT (tenP q k) k, decide ((decT (tenP q k) k).size ≤ 40)) else decR q f (k + 1)
theorem dec40 (n : Nat) : decide ((n : Int) ≤ 40) = decide (n ≤ 40) := decide_eq_decide.2 (by omega)
theorem tenP_qm {q : Rat} {B : Nat} (h : qm q ≤ B) (k : Nat) : qm (tenP q k) ≤ B + 2 * k := by
  induction k with
  | zero => exact h
  | succ k ih =>
    have h1 := qm_mul (tenP q k) (Rat.ofInt 10)
    have h2 : qm (Rat.ofInt 10) ≤ 2 := qm_ofInt (by decide)
    show qm (tenP q k * Rat.ofInt 10) ≤ _
    omega
theorem Decimal_good (q : Rat) (hq : qm q ≤ 2 ^ 30) (hs : 0 ≤ q.num) : Pr Tryz.prog 149 [QV q] (.tup [.one (.str (decR q 41 0).1), .one (.bool (decR q 41 0).2)]) := by
  have hz1 : zn q.num ≤ qm q := by unfold qm; omega
  have hv := rQValid_spec (zs q.num) (zs (q.den : Int)) (zm q.num) (zm (q.den : Int)) (zm_inr _) (zm_inr _) (by rw [zm_length]; omega) (by rw [zm_length]; unfold qm at hq; have : zn (q.den : Int) = nl q.den := rfl; omega)
  rw [okQ_Q] at hv
  refine pv T_ok mixed Tryz.func149 rfl (by decide) _ (by simp [Tryz.ntmps149]) ⟨[0, 1, 2, 3, 4, 5, 6, 7, 8, 16, 21, 27, 34, 38], []⟩ (by kernel_rfl) _ ?_
  show vc T _ _ (Option.get! Tryz.f149.body) _ _
  simp only [Tryz.f149,Tryz.ntmps149,Option.get!,iS,iM,eO,J1]
  simp only [vx,T,K5,J0,K6,K7,↓reduceIte,J1,J2,J3,J4,J5,J6,J7,J8,J9,reduceCtorEq,K1,K2,K3,K4,QV,QC]
  have hsg : ¬ sgn q.num < 0 := by unfold sgn; split <;> (try split) <;> omega
  refine Cg hv ?_
  simp only [vx,T,K5,J0,K6,K7,↓reduceIte,J1,J2,J3,J4,J5,J6,J7,J8,J9,reduceCtorEq,K1,K2,K3,K4,QV,QC]
  refine Cg (rQSign_spec q (by omega)) ?_
  simp only [vx,T,K5,J0,K6,K7,↓reduceIte,J1,J2,J3,J4,J5,J6,J7,J8,J9,reduceCtorEq,K1,K2,K3,K4,QV,QC]
  refine ⟨fun h => absurd h hsg, fun _ => Lg ?_⟩
  simp only [vx,T,K5,J0,K6,K7,↓reduceIte,J1,J2,J3,J4,J5,J6,J7,J8,J9,reduceCtorEq,K1,K2,K3,K4,QV,QC]
  refine Cg (rQFromInt_spec 10 (by decide) (by decide)) ?_
  simp only [vx,T,K5,J0,K6,K7,↓reduceIte,J1,J2,J3,J4,J5,J6,J7,J8,J9,reduceCtorEq,K1,K2,K3,K4,QV,QC]
  refine Cg (rFromInt_spec 1 (by decide) (by decide)) ?_
  simp only [vx,T,K5,J0,K6,K7,↓reduceIte,J1,J2,J3,J4,J5,J6,J7,J8,J9,reduceCtorEq,K1,K2,K3,K4,QV,QC,ZV]
  refine Lk (fun y : {k : Nat // k ≤ 41 ∧ decR q (41 - k) k = decR q 41 0} => ⟨[(4, .one (.ptr 13 0)), (5, .one (.ptr 15 0)), (6, .one (.ptr 17 0)), (7, .one (.int .i64 y.1))], [(13, ⟨.var (QC (Rat.ofInt 10)), true⟩), (15, ⟨.var [.bool (zs 1), .ints .u32 (zm 1)], true⟩), (17, ⟨.var (QC (tenP q y.1)), true⟩)], 19, 60⟩) (fun y => 41 - y.1) ⟨0, by omega, rfl⟩ ?_ (fun ⟨k, hk, he⟩ => ?_)
  · refine Sa ?_; simp only [rx,Y0,Y1,Y2,Y3,Y4,Y5,Y6,Y7,ren,↓reduceIte,J1,J2,J3,J4,J5,J6,J7,J8,J9,reduceCtorEq,K1,K2,K3,K4,Y8,Y9,X2,X3,X4,QC,tenP]
  have hk1 : IntKind.i64.wrap ((k : Int) + 1) = ((k + 1 : Nat) : Int) := by rw [IntWalk.i64_in _ (by omega)]; omega
  have hqk := tenP_qm hq k
  have hq10 : qm (Rat.ofInt 10) ≤ 2 := qm_ofInt (by decide)
  obtain ⟨x, hx⟩ : ∃ x, x = tenP q k := ⟨_, rfl⟩
  have hstep : tenP q (k + 1) = x * Rat.ofInt 10 := by rw [hx]; rfl
  rw [← hx] at hqk ⊢
  have hxn : zn x.num ≤ qm x := by unfold qm; omega
  have hxd : zn (x.den : Int) ≤ qm x := by unfold qm; have : zn (x.den : Int) = nl x.den := rfl; omega
  simp only [vx,T,K5,J0,K6,K7,↓reduceIte,J1,J2,J3,J4,J5,J6,J7,J8,J9,reduceCtorEq,K1,K2,K3,K4,QC]
  refine ⟨fun h1 => Lg ?_, fun h1 => Lg ?_⟩
  · have hf : 41 - k = (40 - k) + 1 := by omega
    simp only [vx,T,K5,J0,K6,K7,↓reduceIte,J1,J2,J3,J4,J5,J6,J7,J8,J9,reduceCtorEq,K1,K2,K3,K4,QC]
    refine Cg (r1Same_spec (x.den : Int) 1 (by omega) (Nat.lt_of_le_of_lt (zn_small (by decide)) (by decide))) ?_
    simp only [vx,T,K5,J0,K6,K7,↓reduceIte,J1,J2,J3,J4,J5,J6,J7,J8,J9,reduceCtorEq,K1,K2,K3,K4,QC]
    refine ⟨fun h2 => Lg ?_, fun h2 => Lg ?_⟩
    · have h2 : x.den = 1 := by omega
      rw [hf, decR, ← hx, if_pos h2] at he
      rw [← he]
      simp only [vx,T,K5,J0,K6,K7,↓reduceIte,J1,J2,J3,J4,J5,J6,J7,J8,J9,reduceCtorEq,K1,K2,K3,K4,QC]
      refine Cg (rFormat_spec x.num (by omega)) ?_
      simp only [vx,T,K5,J0,K6,K7,↓reduceIte,J1,J2,J3,J4,J5,J6,J7,J8,J9,reduceCtorEq,K1,K2,K3,K4,QC]
      refine Lk (fun y : {s : ByteArray // padS k s = padS k (fmtZ x.num) ∧ s.size ≤ 2 ^ 40} => ⟨[(7, .one (.int .i64 k)), (8, .one (.str y.1))], [], 30, 60⟩) (fun y => k + 1 - y.1.size) ⟨fmtZ x.num, rfl, by have := fmtZ_size x.num; omega⟩ ?_ (fun ⟨s, hs1, hs2⟩ => ?_)
      · refine Sa ?_; simp only [rx,Y0,Y1,Y2,Y3,Y4,Y5,Y6,Y7,ren,↓reduceIte,J1,J2,J3,J4,J5,J6,J7,J8,J9,reduceCtorEq,K1,K2,K3,K4,Y8,Y9,X2,X3,X4]
      simp only [vx,T,K5,J0,K6,K7,↓reduceIte,J1,J2,J3,J4,J5,J6,J7,J8,J9,reduceCtorEq,K1,K2,K3,K4]
      refine ⟨fun h3 => Lg ?_, fun h3 => Lg ?_⟩
      · have h3 : s.size ≤ k := by omega
        have hz : (⟨#[48]⟩ : ByteArray).size = 1 := rfl
        have hz2 : (⟨#[48]⟩ ++ s : ByteArray).size = 1 + s.size := by rw [ByteArray.size_append, hz]
        simp only [vx,T,K5,J0,K6,K7,↓reduceIte,J1,J2,J3,J4,J5,J6,J7,J8,J9,reduceCtorEq,K1,K2,K3,K4]
        refine ⟨by omega, Lq ⟨⟨#[48]⟩ ++ s, by rw [← padS_step h3]; exact hs1, by omega⟩ ?_ ?_⟩
        · refine Sa ?_; simp only [rx,Y0,Y1,Y2,Y3,Y4,Y5,Y6,Y7,ren,↓reduceIte,J1,J2,J3,J4,J5,J6,J7,J8,J9,reduceCtorEq,K1,K2,K3,K4,Y8,Y9,X2,X3,X4]
        · simp only; omega
      · have h3 : ¬ s.size ≤ k := by omega
        rw [padS_stop h3] at hs1
        simp only [vx,T,K5,J0,K6,K7,↓reduceIte,J1,J2,J3,J4,J5,J6,J7,J8,J9,reduceCtorEq,K1,K2,K3,K4]
        refine ⟨fun h4 => Lg ?_, fun h4 => Lg ?_⟩
        · have w1 : IntKind.i64.wrap ((s.size : Int) - (k : Int)) = ((s.size - k : Nat) : Int) := by rw [IntWalk.i64_in _ (by omega)]; omega
          have e : decT x k = (s.extract 0 (s.size - k) ++ ⟨#[46]⟩) ++ s.extract (s.size - k) s.size := by unfold decT; rw [← hs1, if_pos (by omega)]
          have hz : (⟨#[46]⟩ : ByteArray).size = 1 := rfl
          have hA : (s.extract 0 (s.size - k)).size ≤ s.size := by rw [ByteArray.size_extract]; omega
          have hC : (s.extract (s.size - k) s.size).size ≤ s.size := by rw [ByteArray.size_extract]; omega
          have hD : (s.extract 0 (s.size - k) ++ ⟨#[46]⟩ : ByteArray).size ≤ s.size + 1 := by rw [ByteArray.size_append, hz]; omega
          simp only [vx,T,K5,J0,K6,K7,↓reduceIte,J1,J2,J3,J4,J5,J6,J7,J8,J9,reduceCtorEq,K1,K2,K3,K4,w1,Int.toNat_natCast]
          refine ⟨⟨by omega, by omega⟩, by omega, ⟨by omega, by omega, by omega⟩, by omega, ?_⟩
          rw [dec40, e]
          exact Ve rfl
        · have e : decT x k = s := by unfold decT; rw [← hs1, if_neg (by omega)]
          simp only [vx,T,K5,J0,K6,K7,↓reduceIte,J1,J2,J3,J4,J5,J6,J7,J8,J9,reduceCtorEq,K1,K2,K3,K4]
          rw [dec40, e]
          exact Ve rfl
    · have h2 : x.den ≠ 1 := by omega
      rw [hf, decR, ← hx, if_neg h2] at he
      simp only [vx,T,K5,J0,K6,K7,↓reduceIte,J1,J2,J3,J4,J5,J6,J7,J8,J9,reduceCtorEq,K1,K2,K3,K4,QC]
      refine Cg (rQMul_spec x (Rat.ofInt 10) (by omega) (by omega)) ?_
      simp only [vx,T,K5,J0,K6,K7,↓reduceIte,J1,J2,J3,J4,J5,J6,J7,J8,J9,reduceCtorEq,K1,K2,K3,K4,QC,QV]
      simp only [hk1]
      refine Lq ⟨k + 1, by omega, by rw [show 41 - (k + 1) = 40 - k by omega]; exact he⟩ ?_ ?_
      · refine Sa ?_; simp only [rx,Y0,Y1,Y2,Y3,Y4,Y5,Y6,Y7,ren,↓reduceIte,J1,J2,J3,J4,J5,J6,J7,J8,J9,reduceCtorEq,K1,K2,K3,K4,Y8,Y9,X2,X3,X4,QC,hstep]
      · simp only; omega
  · have hf : 41 - k = 0 := by omega
    rw [hf] at he
    have e : decR q 41 0 = (⟨#[]⟩, false) := by rw [← he]; rfl
    rw [e]
    simp only [vx,T,K5,J0,K6,K7,↓reduceIte,J1,J2,J3,J4,J5,J6,J7,J8,J9,reduceCtorEq,K1,K2,K3,K4]
    exact Ve rfl
theorem Decimal_neg (q : Rat) (hq : qm q ≤ 2 ^ 30) (hs : q.num < 0) (hv : Pr Tryz.prog 52 [QV q] (.one (.bool true))) : Pr Tryz.prog 149 [QV q] (.tup [.one (.str ⟨#[]⟩), .one (.bool false)]) := by
  have hsg : sgn q.num < 0 := by unfold sgn; rw [if_neg (by omega), if_pos (by omega)]; decide
  refine pv T_ok mixed Tryz.func149 rfl (by decide) _ (by simp [Tryz.ntmps149]) ⟨[0, 1, 2, 3, 4, 5, 6, 7, 8, 16, 21, 27, 34, 38], []⟩ (by kernel_rfl) _ ?_
  show vc T _ _ (Option.get! Tryz.f149.body) _ _
  simp only [Tryz.f149,Tryz.ntmps149,Option.get!,iS,iM,eO,J1]
  simp only [vx,T,K5,J0,K6,K7,↓reduceIte,J1,J2,J3,J4,J5,J6,J7,J8,J9,reduceCtorEq,K1,K2,K3,K4,QV,QC]
  refine Cg hv ?_
  simp only [vx,T,K5,J0,K6,K7,↓reduceIte,J1,J2,J3,J4,J5,J6,J7,J8,J9,reduceCtorEq,K1,K2,K3,K4,QV,QC]
  refine Cg (rQSign_spec q (by omega)) ?_
  simp only [vx,T,K5,J0,K6,K7,↓reduceIte,J1,J2,J3,J4,J5,J6,J7,J8,J9,reduceCtorEq,K1,K2,K3,K4,QV,QC]
  refine ⟨fun _ => Lg ?_, fun h => absurd hsg h⟩
  simp only [vx,T,K5,J0,K6,K7,↓reduceIte,J1,J2,J3,J4,J5,J6,J7,J8,J9,reduceCtorEq,K1,K2,K3,K4]
  exact Ve rfl
theorem Decimal_bad (s t : Bool) (xs ys : List Int) (hv : Pr Tryz.prog 52 [.agg [.bool s, .ints .u32 xs, .bool t, .ints .u32 ys]] (.one (.bool false))) :
    Pr Tryz.prog 149 [.agg [.bool s, .ints .u32 xs, .bool t, .ints .u32 ys]] (.tup [.one (.str ⟨#[]⟩), .one (.bool false)]) := by
  refine pv T_ok mixed Tryz.func149 rfl (by decide) _ (by simp [Tryz.ntmps149]) ⟨[0, 1, 2, 3, 4, 5, 6, 7, 8, 16, 21, 27, 34, 38], []⟩ (by kernel_rfl) _ ?_
  show vc T _ _ (Option.get! Tryz.f149.body) _ _
  simp only [Tryz.f149,Tryz.ntmps149,Option.get!,iS,iM,eO,J1]
  simp only [vx,T,K5,J0,K6,K7,↓reduceIte,J1,J2,J3,J4,J5,J6,J7,J8,J9,reduceCtorEq,K1,K2,K3,K4]
  refine Cg hv ?_
  simp only [vx,T,K5,J0,K6,K7,↓reduceIte,J1,J2,J3,J4,J5,J6,J7,J8,J9,reduceCtorEq,K1,K2,K3,K4]
  exact Ve rfl
theorem Decimal_ex (s t : Bool) (xs ys : List Int) (hx : InR xs) (hy : InR ys) (hxl : xs.length ≤ 2 ^ 30) (hyl : ys.length ≤ 2 ^ 30) :
    ∃ S b, Pr Tryz.prog 149 [.agg [.bool s, .ints .u32 xs, .bool t, .ints .u32 ys]] (.tup [.one (.str S), .one (.bool b)]) := by
  have hv := rQValid_spec s t xs ys hx hy (by omega) (by omega)
  by_cases h : okQ s xs t ys = true
  · obtain ⟨q, rfl, rfl, rfl, rfl⟩ := okQ_ex h
    rw [zm_length] at hxl hyl
    have hyl' : nl q.den ≤ 2 ^ 30 := hyl
    have hq : qm q ≤ 2 ^ 30 := by unfold qm; omega
    rw [h] at hv
    by_cases hs : 0 ≤ q.num
    · exact ⟨_, _, Decimal_good q hq hs⟩
    · exact ⟨_, _, Decimal_neg q hq (by omega) hv⟩
  · have h : okQ s xs t ys = false := by simpa using h
    rw [h] at hv
    exact ⟨_, _, Decimal_bad s t xs ys hv⟩
end Go.Proofs.YtllnmicmblbfaaaGreat
