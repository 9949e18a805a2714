/-
  EquationTranslation, where what it reads is of bulk at most 1048576: the law returns true, and each argument reads afterwards as it read before. No condition beyond the given row's own cells.
  (Text 7 of 9; made by a program out of smaller texts.)
-/
import Derived.Lib.AppendZerosOnto
import Derived.Lib.Walk
import Derived.Deep.Slices
import Derived.ChangeArms
import Derived.ChangeSame
import Derived.Below
import Derived.OpenShut
import Derived.ProofKit
import Derived.Test.YtpogdlmhmafjlaaGreatP6
set_option linter.unusedSimpArgs false
set_option linter.unusedVariables false
set_option maxHeartbeats 16000000
set_option maxRecDepth 10000
open Nat renaming reduceAdd → J1, reduceMul → J2, reduceSub → J3, reduceEqDiff → J4, reduceLT → J5, reduceLeDiff → J6, reduceBEq → J7, reduceDiv → J8, reduceMod → J9, reducePow → J0
open Int renaming reduceToNat → K1, reduceLE → K2, reduceLT → K3, reduceEq → K4, reducePow → K5, reduceSub → K6, reduceNeg → K7, natCast_add → X2, natCast_one → X3, natCast_zero → X4
open List renaming getD_cons_zero → X0, getD_cons_succ → X1, length_take → X5, length_append → X6, getD_eq_getElem?_getD → X7, getElem?_eq_getElem → X8
namespace Go.Proofs.YtpogdlmhmafjlaaGreat
open Go Go.Eng
theorem swp_comm {xs : List Mono} {i j : Nat} (hi : i < xs.length) (hj : j < xs.length) : swp xs i j = swp xs j i := by
  refine list_ext_getD (by rw [swp_length, swp_length]) fun k _ => ?_
  rw [swp_get hi hj, swp_get hj hi]
  by_cases h1 : k = j
  · by_cases h2 : k = i
    · rw [if_pos h1, if_pos h2, ← h1, ← h2]
    rw [if_pos h1, if_neg h2, if_pos h1]
  rw [if_neg h1]
  by_cases h2 : k = i
  · rw [if_pos h2, if_pos h2]
  rw [if_neg h2, if_neg h2, if_neg h1]
theorem ins_spec (xs : List Mono) {N : Nat} (hN : xs.length = N) (a b : Nat) (hab : a ≤ b) (hb : b ≤ N) (hl : N < 2 ^ 40) (hx : LOk xs) :
    Mc Tryz.prog 154 [.one (.own 0 5 0 N), .one (.int .i64 a), .one (.int .i64 b), .one cF] (.rows 57 5 N (fR xs)) (SymR xs N a b) := by
  refine mut_of_vc T_ok mixed Tryz.func154 rfl (by decide) _ (by simp [Tryz.ntmps154]) ⟨[0, 1, 2, 3, 8, 9, 14, 34], [(6, (.cons 15 [2, 3, 4, 16] (.cons 17 [] .nil .nil) .nil))]⟩ (by kernel_rfl) (.rows 57 5 N (fR xs)) trivial _ ?_
  show vc T _ _ (Option.get! Tryz.f154.body) _ _
  simp only [Tryz.f154,Tryz.ntmps154,Option.get!,iS,iM,eO,J1]
  have w1 : IntKind.i64.wrap ((a : Int) + 1) = ((a + 1 : Nat) : Int) := by rw [IntWalk.i64_in _ (by omega)]; omega
  simp only [vx,T,K5,J0,K6,K7,↓reduceIte,J1,J2,J3,J4,J5,J6,J7,J8,J9,reduceCtorEq,K1,K2,K3,K4,cF,w1]
  refine Lk (fun y : {y : Nat × List Mono // a + 1 ≤ y.1 ∧ y.1 ≤ max b (a + 1) ∧ Out xs y.2 a b ∧ Srt leM y.2 a y.1} => ⟨[(0, .one (.own 0 5 0 N)), (1, .one (.int .i64 a)), (2, .one (.int .i64 b)), (3, .one cF), (8, .one (.int .i64 y.1.1))], [(0, ⟨.rows 57 5 N (fR y.1.2), true⟩)], 1, 53⟩) (fun y => b - y.1.1) ⟨(a + 1, xs), Nat.le_refl _, by simp only; omega, .refl _ _ _, fun p q h1 h2 h3 => by simp only at h3; omega⟩ ?_ (fun ⟨⟨i, ys⟩, hi1, hi2, ho, hs⟩ => ?_)
  · refine Sa ?_; simp only [rx,Y0,Y1,Y2,Y3,Y4,Y5,Y6,Y7,ren,↓reduceIte,J1,J2,J3,J4,J5,J6,J7,J8,J9,reduceCtorEq,K1,K2,K3,K4,Y8,Y9,X2,X3,X4,cF]
  simp only at hi1 hi2 ho hs
  simp only [vx,T,K5,J0,K6,K7,↓reduceIte,J1,J2,J3,J4,J5,J6,J7,J8,J9,reduceCtorEq,K1,K2,K3,K4,cF]
  refine ⟨fun h1 => Lg ?_, fun h1 => Lg ?_⟩
  · have hib : i < b := by omega
    have i1 := wI i (by omega)
    simp only [vx,T,K5,J0,K6,K7,↓reduceIte,J1,J2,J3,J4,J5,J6,J7,J8,J9,reduceCtorEq,K1,K2,K3,K4,cF]
    refine Lk (fun y : {y : Nat × List Mono // Out xs y.2 a b ∧ Ins leM a i y.1 y.2} => ⟨[(0, .one (.own 0 5 0 N)), (1, .one (.int .i64 a)), (2, .one (.int .i64 b)), (3, .one cF), (8, .one (.int .i64 i)), (9, .one (.int .i64 y.1.1))], [(0, ⟨.rows 57 5 N (fR y.1.2), true⟩)], 1, 53⟩) (fun y => y.1.1) ⟨(i, ys), ho, Ins.init hs (by omega)⟩ ?_ (fun ⟨⟨k, zs⟩, hoz, hI⟩ => ?_)
    · refine Sa ?_; simp only [rx,Y0,Y1,Y2,Y3,Y4,Y5,Y6,Y7,ren,↓reduceIte,J1,J2,J3,J4,J5,J6,J7,J8,J9,reduceCtorEq,K1,K2,K3,K4,Y8,Y9,X2,X3,X4,cF]
    simp only at hoz hI
    have hki := hI.ki
    have hkl := hI.lok
    have hzl := hoz.1
    have hxz := hx.perm hoz.2.1
    simp only [vx,T,K5,J0,K6,K7,↓reduceIte,J1,J2,J3,J4,J5,J6,J7,J8,J9,reduceCtorEq,K1,K2,K3,K4,cF]
    refine ⟨fun h2 => Lg ?_, fun h2 => Lg ?_⟩
    · have k1 : IntKind.i64.wrap ((k : Int) - 1) = ((k - 1 : Nat) : Int) := by rw [IntWalk.i64_in _ (by omega)]; omega
      simp only [vx,T,K5,J0,K6,K7,↓reduceIte,J1,J2,J3,J4,J5,J6,J7,J8,J9,reduceCtorEq,K1,K2,K3,K4,cF,k1,fR0,fR1,fR2,fR3,fR4]
      refine ⟨by omega, by omega, Cg (cl1_spec (zs.getD k default) (zs.getD (k - 1) default) (hxz.get _) (hxz.get _)) ?_⟩
      simp only [vx,T,K5,J0,K6,K7,↓reduceIte,J1,J2,J3,J4,J5,J6,J7,J8,J9,reduceCtorEq,K1,K2,K3,K4,cF]
      refine ⟨fun h3 => Lg ?_, fun h3 => Lg ?_⟩
      · have hst := hI.step (by omega) (by omega) (leM_lt h3)
        rw [swp_comm (by omega) (by omega)] at hst
        simp only [vx,T,K5,J0,K6,K7,↓reduceIte,J1,J2,J3,J4,J5,J6,J7,J8,J9,reduceCtorEq,K1,K2,K3,K4,cF,k1,fR0,fR1,fR2,fR3,fR4]
        refine ⟨by omega, by omega, by omega, by omega, by omega, Lq ⟨(k - 1, swp zs k (k - 1)), hoz.swp (by omega) (by omega) (by omega) (by omega) (by omega), hst⟩ ?_ ?_⟩
        · refine Sa ?_; simp only [rx,Y0,Y1,Y2,Y3,Y4,Y5,Y6,Y7,ren,↓reduceIte,J1,J2,J3,J4,J5,J6,J7,J8,J9,reduceCtorEq,K1,K2,K3,K4,Y8,Y9,X2,X3,X4,cF]
          rw [← hN, ← hzl]
          exact swp_rows (by omega) (by omega)
        simp only; omega
      have hd := Ins.done (le := leM) (fun {_ _ _} h1 h2 => leM_tr h1 h2) hI (.inr (leM_ge h3))
      simp only [vx,T,K5,J0,K6,K7,↓reduceIte,J1,J2,J3,J4,J5,J6,J7,J8,J9,reduceCtorEq,K1,K2,K3,K4,cF]
      simp only [i1]
      refine Lq ⟨(i + 1, zs), by simp only; omega, by simp only; omega, hoz, hd⟩ ?_ ?_
      · refine Sa ?_; simp only [rx,Y0,Y1,Y2,Y3,Y4,Y5,Y6,Y7,ren,↓reduceIte,J1,J2,J3,J4,J5,J6,J7,J8,J9,reduceCtorEq,K1,K2,K3,K4,Y8,Y9,X2,X3,X4,cF]
      simp only; omega
    have hd := Ins.done (le := leM) (fun {_ _ _} h1 h2 => leM_tr h1 h2) hI (.inl (by omega))
    simp only [vx,T,K5,J0,K6,K7,↓reduceIte,J1,J2,J3,J4,J5,J6,J7,J8,J9,reduceCtorEq,K1,K2,K3,K4,cF]
    simp only [i1]
    refine Lq ⟨(i + 1, zs), by simp only; omega, by simp only; omega, hoz, hd⟩ ?_ ?_
    · refine Sa ?_; simp only [rx,Y0,Y1,Y2,Y3,Y4,Y5,Y6,Y7,ren,↓reduceIte,J1,J2,J3,J4,J5,J6,J7,J8,J9,reduceCtorEq,K1,K2,K3,K4,Y8,Y9,X2,X3,X4,cF]
    simp only; omega
  simp only [vx,T,K5,J0,K6,K7,↓reduceIte,J1,J2,J3,J4,J5,J6,J7,J8,J9,reduceCtorEq,K1,K2,K3,K4,cF]
  exact ⟨ys, rfl, rfl, ho, hs.mono (Nat.le_refl _) (by omega)⟩
theorem dvd_step {d p a : Nat} (hp : d ∣ p) (ha : d ∣ a) (h : p < a) : p + d ≤ a := by
  have h1 : d ∣ a - p := Nat.dvd_sub ha hp
  have h2 := Nat.le_of_dvd (by omega) h1
  omega
def SB2 (ys : List Mono) (bs lo hi N : Nat) : Prop := ∀ p, bs ∣ p → lo ≤ p → p < hi → Srt leM ys p (min (p + bs) N)
theorem SB2.first {ys zs : List Mono} {a N : Nat} (h : SB2 ys 20 0 a N) (ha : 20 ∣ a) (ho : Out ys zs a (a + 20)) (hs : Srt leM zs a (a + 20)) : SB2 zs 20 0 (a + 20) N := by
  intro p hp h1 h2
  by_cases h3 : p < a
  · have := dvd_step hp ha h3
    exact (h p hp h1 h3).out ho (.inl (by omega))
  by_cases h4 : p = a
  · subst h4; exact hs.mono (Nat.le_refl _) (by omega)
  have := dvd_step ha hp (by omega)
  omega
theorem SB2.last {ys zs : List Mono} {a N : Nat} (h : SB2 ys 20 0 a N) (ha : 20 ∣ a) (hN : N < a + 20) (ho : Out ys zs a N) (hs : Srt leM zs a N) : SB2 zs 20 0 N N := by
  intro p hp h1 h2
  by_cases h3 : p < a
  · have := dvd_step hp ha h3
    exact (h p hp h1 h3).out ho (.inl (by omega))
  by_cases h4 : p = a
  · subst h4; exact hs.mono (Nat.le_refl _) (by omega)
  have := dvd_step ha hp (by omega)
  omega
theorem SB2.merge {ys zs : List Mono} {a b bs N : Nat} (h : SB2 ys (2 * bs) 0 a N) (ha : 2 * bs ∣ a) (hb : b = min (a + 2 * bs) N) (ho : Out ys zs a b) (hs : Srt leM zs a b) : SB2 zs (2 * bs) 0 b N := by
  intro p hp h1 h2
  by_cases h3 : p < a
  · have := dvd_step hp ha h3
    exact (h p hp h1 h3).out ho (.inl (by omega))
  by_cases h4 : p = a
  · subst h4; exact hs.mono (Nat.le_refl _) (by omega)
  have := dvd_step ha hp (by omega)
  omega
theorem SB2.rest {ys zs : List Mono} {a b bs N : Nat} (h : SB2 ys bs a N N) (hb : a ≤ b) (ho : Out ys zs a b) : SB2 zs bs b N N := by
  intro p hp h1 h2
  exact (h p hp (by omega) h2).out ho (.inr h1)
def StabR (xs : List Mono) (N : Nat) (r : V) (B' : Bk) : Prop := ∃ ys, r = .tup [] ∧ B' = .rows 57 5 N (fR ys) ∧ ys.Perm xs ∧ Srt leM ys 0 N
theorem stable_spec (xs : List Mono) {N : Nat} (hN : xs.length = N) (hl : N < 2 ^ 38) (hx : LOk xs) :
    Mc Tryz.prog 116 [.one (.own 0 5 0 N), .one (.int .i64 N), .one cF] (.rows 57 5 N (fR xs)) (StabR xs N) := by
  refine mut_of_vc T_ok mixed Tryz.func116 rfl (by decide) _ (by simp [Tryz.ntmps116]) ⟨[0, 1, 2, 6, 7, 8, 9, 13, 30, 35, 54], []⟩ (by kernel_rfl) (.rows 57 5 N (fR xs)) trivial _ ?_
  show vc T _ _ (Option.get! Tryz.f116.body) _ _
  simp only [Tryz.f116,Tryz.ntmps116,Option.get!,iS,iM,eO,J1]
  simp only [vx,T,K5,J0,K6,K7,↓reduceIte,J1,J2,J3,J4,J5,J6,J7,J8,J9,reduceCtorEq,K1,K2,K3,K4,cF]
  refine Lk (fun y : {y : Nat × List Mono // 20 ∣ y.1 ∧ y.1 ≤ N ∧ y.2.Perm xs ∧ SB2 y.2 20 0 y.1 N} => ⟨[(0, .one (.own 0 5 0 N)), (1, .one (.int .i64 N)), (2, .one cF), (6, .one (.int .i64 20)), (7, .one (.int .i64 y.1.1)), (8, .one (.int .i64 (y.1.1 + 20 : Nat)))], [(0, ⟨.rows 57 5 N (fR y.1.2), true⟩)], 1, 63⟩) (fun y => N - y.1.1) ⟨(0, xs), Nat.dvd_zero _, Nat.zero_le _, .refl _, fun p _ _ h => absurd h (Nat.not_lt_zero _)⟩ ?_ (fun ⟨⟨a, ys⟩, ha, haN, hp, hs⟩ => ?_)
  · refine Sa ?_; simp only [rx,Y0,Y1,Y2,Y3,Y4,Y5,Y6,Y7,ren,↓reduceIte,J1,J2,J3,J4,J5,J6,J7,J8,J9,reduceCtorEq,K1,K2,K3,K4,Y8,Y9,X2,X3,X4,cF]
    rfl
  simp only at ha haN hp hs
  have hyN : ys.length = N := hp.length_eq.trans hN
  simp only [vx,T,K5,J0,K6,K7,↓reduceIte,J1,J2,J3,J4,J5,J6,J7,J8,J9,reduceCtorEq,K1,K2,K3,K4,cF]
  refine ⟨fun h1 => Lg ?_, fun h1 => Lg ?_⟩
  · have w1 : IntKind.i64.wrap (((a + 20 : Nat) : Int) + 20) = ((a + 20 + 20 : Nat) : Int) := by rw [IntWalk.i64_in _ (by omega)]; omega
    simp only [vx,T,K5,J0,K6,K7,↓reduceIte,J1,J2,J3,J4,J5,J6,J7,J8,J9,reduceCtorEq,K1,K2,K3,K4,cF]
    refine Cm 0 rfl trivial (ins_spec ys hyN a (a + 20) (by omega) (by omega) (by omega) (hx.perm hp)) ?_
    rintro _ _ ⟨zs, rfl, rfl, ho, hz⟩ _
    simp only [vx,T,K5,J0,K6,K7,↓reduceIte,J1,J2,J3,J4,J5,J6,J7,J8,J9,reduceCtorEq,K1,K2,K3,K4,cF]
    simp only [w1]
    refine Lq ⟨(a + 20, zs), Nat.dvd_add ha (Nat.dvd_refl _), by simp only; omega, ho.2.1.trans hp, hs.first ha ho hz⟩ ?_ ?_
    · refine Sa ?_; simp only [rx,Y0,Y1,Y2,Y3,Y4,Y5,Y6,Y7,ren,↓reduceIte,J1,J2,J3,J4,J5,J6,J7,J8,J9,reduceCtorEq,K1,K2,K3,K4,Y8,Y9,X2,X3,X4,cF]
    simp only; omega
  simp only [vx,T,K5,J0,K6,K7,↓reduceIte,J1,J2,J3,J4,J5,J6,J7,J8,J9,reduceCtorEq,K1,K2,K3,K4,cF]
  refine Cm 0 rfl trivial (ins_spec ys hyN a N haN (Nat.le_refl _) (by omega) (hx.perm hp)) ?_
  rintro _ _ ⟨zs, rfl, rfl, ho, hz⟩ _
  have hs2 := hs.last ha (by omega) ho hz
  have hp2 := ho.2.1.trans hp
  simp only [vx,T,K5,J0,K6,K7,↓reduceIte,J1,J2,J3,J4,J5,J6,J7,J8,J9,reduceCtorEq,K1,K2,K3,K4,cF]
  refine Lk (fun y : {y : Nat × List Mono // 0 < y.1 ∧ y.1 < 2 ^ 40 ∧ y.2.Perm xs ∧ SB2 y.2 y.1 0 N N} => ⟨[(0, .one (.own 0 5 0 N)), (1, .one (.int .i64 N)), (2, .one cF), (6, .one (.int .i64 y.1.1))], [(0, ⟨.rows 57 5 N (fR y.1.2), true⟩)], 1, 63⟩) (fun y => N - y.1.1) ⟨(20, zs), by simp only; omega, by simp only; omega, hp2, hs2⟩ ?_ (fun ⟨⟨bs, ws⟩, hb0, hb1, hpw, hsw⟩ => ?_)
  · refine Sa ?_; simp only [rx,Y0,Y1,Y2,Y3,Y4,Y5,Y6,Y7,ren,↓reduceIte,J1,J2,J3,J4,J5,J6,J7,J8,J9,reduceCtorEq,K1,K2,K3,K4,Y8,Y9,X2,X3,X4,cF]
    rfl
  simp only at hb0 hb1 hpw hsw
  simp only [vx,T,K5,J0,K6,K7,↓reduceIte,J1,J2,J3,J4,J5,J6,J7,J8,J9,reduceCtorEq,K1,K2,K3,K4,cF]
  refine ⟨fun h2 => Lg ?_, fun h2 => Lg ?_⟩
  · have w2 : IntKind.i64.wrap (2 * (bs : Int)) = ((2 * bs : Nat) : Int) := by rw [IntWalk.i64_in _ (by omega)]; omega
    have w2' : IntKind.i64.wrap ((bs : Int) * 2) = ((2 * bs : Nat) : Int) := by rw [IntWalk.i64_in _ (by omega)]; omega
    simp only [vx,T,K5,J0,K6,K7,↓reduceIte,J1,J2,J3,J4,J5,J6,J7,J8,J9,reduceCtorEq,K1,K2,K3,K4,cF,w2]
    refine Lk (fun y : {y : Nat × List Mono // 2 * bs ∣ y.1 ∧ y.1 ≤ N ∧ y.2.Perm xs ∧ SB2 y.2 (2 * bs) 0 y.1 N ∧ SB2 y.2 bs y.1 N N} => ⟨[(0, .one (.own 0 5 0 N)), (1, .one (.int .i64 N)), (2, .one cF), (6, .one (.int .i64 bs)), (7, .one (.int .i64 y.1.1)), (8, .one (.int .i64 (y.1.1 + 2 * bs : Nat)))], [(0, ⟨.rows 57 5 N (fR y.1.2), true⟩)], 1, 63⟩) (fun y => N - y.1.1) ⟨(0, ws), Nat.dvd_zero _, Nat.zero_le _, hpw, fun p _ _ h => absurd h (Nat.not_lt_zero _), hsw⟩ ?_ (fun ⟨⟨c, us⟩, hc, hcN, hpu, hsu, hru⟩ => ?_)
    · refine Sa ?_; simp only [rx,Y0,Y1,Y2,Y3,Y4,Y5,Y6,Y7,ren,↓reduceIte,J1,J2,J3,J4,J5,J6,J7,J8,J9,reduceCtorEq,K1,K2,K3,K4,Y8,Y9,X2,X3,X4,cF,Nat.zero_add]
    simp only at hc hcN hpu hsu hru
    have huN : us.length = N := hpu.length_eq.trans hN
    have hcb : bs ∣ c := Nat.dvd_trans (Nat.dvd_mul_left _ _) hc
    have w3 : IntKind.i64.wrap ((c : Int) + bs) = ((c + bs : Nat) : Int) := by rw [IntWalk.i64_in _ (by omega)]; omega
    simp only [vx,T,K5,J0,K6,K7,↓reduceIte,J1,J2,J3,J4,J5,J6,J7,J8,J9,reduceCtorEq,K1,K2,K3,K4,cF]
    refine ⟨fun h3 => Lg ?_, fun h3 => Lg ?_⟩
    · have w4 : IntKind.i64.wrap (((c + 2 * bs : Nat) : Int) + ((2 * bs : Nat) : Int)) = ((c + 2 * bs + 2 * bs : Nat) : Int) := by rw [IntWalk.i64_in _ (by omega)]; omega
      simp only [vx,T,K5,J0,K6,K7,↓reduceIte,J1,J2,J3,J4,J5,J6,J7,J8,J9,reduceCtorEq,K1,K2,K3,K4,cF,w2,w3]
      have g1 : Srt leM us c (c + bs) := (hru c hcb (Nat.le_refl _) (by omega)).mono (Nat.le_refl _) (by omega)
      have g2 : Srt leM us (c + bs) (c + 2 * bs) := (hru (c + bs) (Nat.dvd_add hcb (Nat.dvd_refl _)) (by omega) (by omega)).mono (Nat.le_refl _) (by omega)
      refine Cm 0 rfl trivial (sym_spec (c + 2 * bs - c) us huN c (c + bs) (c + 2 * bs) (by omega) (by omega) (by omega) (by omega) (Nat.le_refl _) (hx.perm hpu) g1 g2) ?_
      rintro _ _ ⟨vs, rfl, rfl, ho3, hv⟩ _
      simp only [vx,T,K5,J0,K6,K7,↓reduceIte,J1,J2,J3,J4,J5,J6,J7,J8,J9,reduceCtorEq,K1,K2,K3,K4,cF,w2]
      simp only [w4]
      refine Lq ⟨(c + 2 * bs, vs), Nat.dvd_add hc (Nat.dvd_refl _), by simp only; omega, ho3.2.1.trans hpu, hsu.merge hc (by omega) ho3 hv, hru.rest (by omega) ho3⟩ ?_ ?_
      · refine Sa ?_; simp only [rx,Y0,Y1,Y2,Y3,Y4,Y5,Y6,Y7,ren,↓reduceIte,J1,J2,J3,J4,J5,J6,J7,J8,J9,reduceCtorEq,K1,K2,K3,K4,Y8,Y9,X2,X3,X4,cF]
      simp only; omega
    simp only [vx,T,K5,J0,K6,K7,↓reduceIte,J1,J2,J3,J4,J5,J6,J7,J8,J9,reduceCtorEq,K1,K2,K3,K4,cF,w3]
    refine ⟨fun h4 => Lg ?_, fun h4 => Lg ?_⟩
    · simp only [vx,T,K5,J0,K6,K7,↓reduceIte,J1,J2,J3,J4,J5,J6,J7,J8,J9,reduceCtorEq,K1,K2,K3,K4,cF]
      have g1 : Srt leM us c (c + bs) := (hru c hcb (Nat.le_refl _) (by omega)).mono (Nat.le_refl _) (by omega)
      have g2 : Srt leM us (c + bs) N := (hru (c + bs) (Nat.dvd_add hcb (Nat.dvd_refl _)) (by omega) (by omega)).mono (Nat.le_refl _) (by omega)
      refine Cm 0 rfl trivial (sym_spec (N - c) us huN c (c + bs) N (by omega) (by omega) (Nat.le_refl _) (by omega) (Nat.le_refl _) (hx.perm hpu) g1 g2) ?_
      rintro _ _ ⟨vs, rfl, rfl, ho3, hv⟩ _
      simp only [vx,T,K5,J0,K6,K7,↓reduceIte,J1,J2,J3,J4,J5,J6,J7,J8,J9,reduceCtorEq,K1,K2,K3,K4,cF]
      simp only [w2']
      refine Lq ⟨(2 * bs, vs), by simp only; omega, by simp only; omega, ho3.2.1.trans hpu, hsu.merge hc (by omega) ho3 hv⟩ ?_ ?_
      · refine Sa ?_; simp only [rx,Y0,Y1,Y2,Y3,Y4,Y5,Y6,Y7,ren,↓reduceIte,J1,J2,J3,J4,J5,J6,J7,J8,J9,reduceCtorEq,K1,K2,K3,K4,Y8,Y9,X2,X3,X4,cF]
      simp only; omega
    have g1 : Srt leM us c N := by
      by_cases h5 : c < N
      · exact (hru c hcb (Nat.le_refl _) h5).mono (Nat.le_refl _) (by omega)
      intro p q h6 h7 h8; omega
    simp only [vx,T,K5,J0,K6,K7,↓reduceIte,J1,J2,J3,J4,J5,J6,J7,J8,J9,reduceCtorEq,K1,K2,K3,K4,cF]
    simp only [w2']
    refine Lq ⟨(2 * bs, us), by simp only; omega, by simp only; omega, hpu, hsu.merge hc (by omega) (Out.refl _ _ _) g1⟩ ?_ ?_
    · refine Sa ?_; simp only [rx,Y0,Y1,Y2,Y3,Y4,Y5,Y6,Y7,ren,↓reduceIte,J1,J2,J3,J4,J5,J6,J7,J8,J9,reduceCtorEq,K1,K2,K3,K4,Y8,Y9,X2,X3,X4,cF]
    simp only; omega
  have g1 : Srt leM ws 0 N := by
    by_cases h5 : 0 < N
    · exact (hsw 0 (Nat.dvd_zero _) (Nat.le_refl _) h5).mono (Nat.le_refl _) (by omega)
    intro p q h6 h7 h8; omega
  simp only [vx,T,K5,J0,K6,K7,↓reduceIte,J1,J2,J3,J4,J5,J6,J7,J8,J9,reduceCtorEq,K1,K2,K3,K4,cF]
  exact ⟨ws, rfl, rfl, hpw, g1⟩
theorem SortStable_spec (xs : List Mono) {N : Nat} (hN : xs.length = N) (hl : N < 2 ^ 38) (hx : LOk xs) :
    Mc Tryz.prog 80 [.one (.own 0 5 0 N), .one cF] (.rows 57 5 N (fR xs)) (StabR xs N) := by
  refine mut_of_vc T_ok mixed Tryz.func80 rfl (by decide) _ (by simp [Tryz.ntmps80]) ⟨[0, 1], []⟩ (by kernel_rfl) (.rows 57 5 N (fR xs)) trivial _ ?_
  show vc T _ _ (Option.get! Tryz.f80.body) _ _
  simp only [Tryz.f80,Tryz.ntmps80,Option.get!,iS,iM,eO,J1]
  simp only [vx,T,K5,J0,K6,K7,↓reduceIte,J1,J2,J3,J4,J5,J6,J7,J8,J9,reduceCtorEq,K1,K2,K3,K4,cF]
  refine Cm 0 rfl trivial (stable_spec xs hN hl hx) ?_
  rintro _ _ ⟨ys, rfl, rfl, h1, h2⟩ _
  simp only [vx,T,K5,J0,K6,K7,↓reduceIte,J1,J2,J3,J4,J5,J6,J7,J8,J9,reduceCtorEq,K1,K2,K3,K4,cF]
  exact ⟨ys, rfl, rfl, h1, h2⟩
open Go Go.Eng
def qz (m : Mono) : Bool := decide (m.1 = 0)
def qn (m : Mono) : Bool := decide (m.1 ≠ 0)
def ixz (xs : List Mono) : Int := if xs.findIdx qz < xs.length then (xs.findIdx qz : Int) else -1
def cG : C := .fn 86 0 (fun _ => .any)
def QOk (xs : List Mono) : Prop := ∀ m ∈ xs, qm m.1 < 2 ^ 36
theorem QOk.get {xs : List Mono} (h : QOk xs) (k : Nat) : qm (xs.getD k default).1 < 2 ^ 36 := by
  rw [X7]
  cases hg : xs[k]? with
  | none => exact Nat.lt_of_le_of_lt (qm_ofInt (z := 0) (by decide)) (by decide)
  | some m => exact h m (List.mem_of_getElem? hg)
theorem IndexFunc_spec (xs : List Mono) {N : Nat} (hN : xs.length = N) (hl : N < 2 ^ 38) (hx : QOk xs) :
    Pr Tryz.prog 120 [.one (.rows 5 N (fR xs)), .one cG] (.one (.int .i64 (ixz xs))) := by
  refine pv T_ok mixed Tryz.func120 rfl (by decide) _ (by simp [Tryz.ntmps120]) ⟨[0, 1, 4, 5, 7, 8, 9, 16], []⟩ (by kernel_rfl) _ ?_
  show vc T _ _ (Option.get! Tryz.f120.body) _ _
  simp only [Tryz.f120,Tryz.ntmps120,Option.get!,iS,iM,eO,J1]
  simp only [vx,T,K5,J0,K6,K7,↓reduceIte,J1,J2,J3,J4,J5,J6,J7,J8,J9,reduceCtorEq,K1,K2,K3,K4,cG]
  refine Lk (fun y : {i : Nat // i ≤ N ∧ ∀ k, k < i → qz (xs.getD k default) = false} => ⟨[(0, .one (.rows 5 N (fR xs))), (1, .one cG), (7, .one (.int .i64 N)), (8, .one (.int .i64 y.1))], [], 1, 19⟩) (fun y => N - y.1) ⟨0, Nat.zero_le _, fun k h => absurd h (Nat.not_lt_zero _)⟩ ?_ (fun ⟨i, hi, hz⟩ => ?_)
  · refine Sa ?_; simp only [rx,Y0,Y1,Y2,Y3,Y4,Y5,Y6,Y7,ren,↓reduceIte,J1,J2,J3,J4,J5,J6,J7,J8,J9,reduceCtorEq,K1,K2,K3,K4,Y8,Y9,X2,X3,X4,cG]
  have i1 := wI i (by omega)
  simp only [vx,T,K5,J0,K6,K7,↓reduceIte,J1,J2,J3,J4,J5,J6,J7,J8,J9,reduceCtorEq,K1,K2,K3,K4,cG]
  refine ⟨fun h1 => Lg ?_, fun h1 => Lg ?_⟩
  · simp only [vx,T,K5,J0,K6,K7,↓reduceIte,J1,J2,J3,J4,J5,J6,J7,J8,J9,reduceCtorEq,K1,K2,K3,K4,cG,fR0,fR1,fR2,fR3,fR4]
    refine ⟨by omega, Cg (cl2_spec (xs.getD i default) (hx.get i)) ?_⟩
    simp only [vx,T,K5,J0,K6,K7,↓reduceIte,J1,J2,J3,J4,J5,J6,J7,J8,J9,reduceCtorEq,K1,K2,K3,K4,cG]
    refine ⟨fun h2 => Lg ?_, fun h2 => Lg ?_⟩
    · have e1 : xs.findIdx qz = i := by
        rw [List.findIdx_eq (by omega)]
        refine ⟨by rw [← getD_eq (by omega)]; simpa [qz] using h2, fun j hj => ?_⟩
        rw [← getD_eq (by omega)]; exact hz j hj
      have e2 : ixz xs = i := by unfold ixz; rw [e1, if_pos (by omega)]
      simp only [vx,T,K5,J0,K6,K7,↓reduceIte,J1,J2,J3,J4,J5,J6,J7,J8,J9,reduceCtorEq,K1,K2,K3,K4,cG,e2]
      exact Ve rfl
    simp only [vx,T,K5,J0,K6,K7,↓reduceIte,J1,J2,J3,J4,J5,J6,J7,J8,J9,reduceCtorEq,K1,K2,K3,K4,cG]
    simp only [i1]
    refine Lq ⟨i + 1, by omega, fun k hk => ?_⟩ ?_ ?_
    · by_cases h3 : k < i
      · exact hz k h3
      rw [show k = i by omega]; simpa [qz] using h2
    · refine Sa ?_; simp only [rx,Y0,Y1,Y2,Y3,Y4,Y5,Y6,Y7,ren,↓reduceIte,J1,J2,J3,J4,J5,J6,J7,J8,J9,reduceCtorEq,K1,K2,K3,K4,Y8,Y9,X2,X3,X4,cG]
    simp only; omega
  have e1 : xs.findIdx qz = xs.length := by
    rw [List.findIdx_eq_length]
    intro x hx
    obtain ⟨k, hk, rfl⟩ := List.mem_iff_getElem.1 hx
    rw [← getD_eq hk]; exact hz k (by omega)
  have e2 : ixz xs = -1 := by unfold ixz; rw [if_neg (by omega)]
  simp only [vx,T,K5,J0,K6,K7,↓reduceIte,J1,J2,J3,J4,J5,J6,J7,J8,J9,reduceCtorEq,K1,K2,K3,K4,cG,e2]
  exact Ve rfl
def DelR (xs : List Mono) (N : Nat) (r : V) (B' : Bk) : Prop := ∃ k f, r = .one (.own 0 5 0 k) ∧ B' = .rows 57 5 N f ∧ k ≤ N ∧ k = (xs.filter qn).length ∧ ∀ i j, i < k → j < 5 → f i j = fR (xs.filter qn) i j
theorem qn_qz (m : Mono) : qn m = !qz m := by unfold qn qz; by_cases h : m.1 = 0 <;> simp [h]
theorem take_set_step {ys : List Mono} {i : Nat} {x : Mono} (hi : i < ys.length) : (ys.set i x).take (i + 1) = ys.take i ++ [x] := by
  rw [List.take_add_one, List.take_set_of_le (Nat.le_refl _), List.getElem?_set_self hi]; rfl
theorem fR_take {ys zs : List Mono} {k : Nat} (h : ys.take k = zs) {i j : Nat} (hi : i < k) : fR ys i j = fR zs i j := by
  unfold fR
  rw [← h, X7, X7, List.getElem?_take_of_lt hi]
theorem DeleteFunc_spec (xs : List Mono) {N : Nat} (hN : xs.length = N) (hl : N < 2 ^ 38) (hx : QOk xs) :
    Mc Tryz.prog 85 [.one (.own 0 5 0 N), .one cG] (.rows 57 5 N (fR xs)) (DelR xs N) := by
  refine mut_of_vc T_ok mixed Tryz.func85 rfl (by decide) _ (by simp [Tryz.ntmps85]) ⟨[0, 1, 4, 5, 6, 7, 12, 19, 29], []⟩ (by kernel_rfl) (.rows 57 5 N (fR xs)) trivial _ ?_
  show vc T _ _ (Option.get! Tryz.f85.body) _ _
  simp only [Tryz.f85,Tryz.ntmps85,Option.get!,iS,iM,eO,J1]
  simp only [vx,T,K5,J0,K6,K7,↓reduceIte,J1,J2,J3,J4,J5,J6,J7,J8,J9,reduceCtorEq,K1,K2,K3,K4,cG]
  refine Cg (Pr.arg2c (IndexFunc_spec xs hN hl hx) (CLe.rows rfl fun i j _ _ => CLe.of_eq (by simp)) (CLe.refl _)) ?_
  simp only [vx,T,K5,J0,K6,K7,↓reduceIte,J1,J2,J3,J4,J5,J6,J7,J8,J9,reduceCtorEq,K1,K2,K3,K4,cG]
  refine ⟨fun h1 => Lg ?_, fun h1 => Lg ?_⟩
  · have hall : xs.filter qn = xs := by
      unfold ixz at h1
      split at h1
      · omega
      rename_i h2
      have h3 : xs.findIdx qz = xs.length := Nat.le_antisymm List.findIdx_le_length (by omega)
      rw [List.filter_eq_self]
      intro m hm
      rw [qn_qz, List.findIdx_eq_length.1 h3 m hm]; rfl
    simp only [vx,T,K5,J0,K6,K7,↓reduceIte,J1,J2,J3,J4,J5,J6,J7,J8,J9,reduceCtorEq,K1,K2,K3,K4,cG]
    exact ⟨N, _, rfl, rfl, Nat.le_refl _, by rw [hall, hN], fun i j _ _ => by rw [hall]⟩
  have h2 : xs.findIdx qz < xs.length := by
    unfold ixz at h1
    split at h1
    · assumption
    exact absurd rfl h1
  have e1 : ixz xs = (xs.findIdx qz : Int) := by unfold ixz; rw [if_pos h2]
  obtain ⟨k, hk⟩ : ∃ k, k = xs.findIdx qz := ⟨_, rfl⟩
  rw [← hk] at h2 e1
  have hp := List.findIdx_eq (xs := xs) (p := qz) h2 |>.1 hk.symm
  have htk : xs.take k = (xs.take (k + 1)).filter qn := by
    rw [take_step h2, List.filter_append]
    have f1 : (xs.take k).filter qn = xs.take k := by
      rw [List.filter_eq_self]
      intro m hm
      obtain ⟨j, hj, rfl⟩ := List.mem_iff_getElem.1 hm
      rw [X5] at hj
      rw [List.getElem_take, qn_qz, hp.2 j (by omega)]; rfl
    have f2 : [xs.getD k default].filter qn = [] := by
      rw [List.filter_cons_of_neg (by rw [qn_qz, getD_eq h2, hp.1]; simp)]; rfl
    rw [f1, f2, List.append_nil]
  have w1 : IntKind.i64.wrap ((k : Int) + 1) = ((k + 1 : Nat) : Int) := by rw [IntWalk.i64_in _ (by omega)]; omega
  rw [e1]
  simp only [vx,T,K5,J0,K6,K7,↓reduceIte,J1,J2,J3,J4,J5,J6,J7,J8,J9,reduceCtorEq,K1,K2,K3,K4,cG,w1]
  refine Lk (fun y : {y : Nat × Nat × List Mono // y.2.1 < y.1 ∧ y.1 ≤ N ∧ y.2.2.length = N ∧ y.2.2.take y.2.1 = (xs.take y.1).filter qn ∧ ∀ c, y.1 ≤ c → y.2.2.getD c default = xs.getD c default} => ⟨[(0, .one (.own 0 5 0 N)), (1, .one cG), (5, .one (.int .i64 y.1.2.1)), (6, .one (.int .i64 y.1.1))], [(0, ⟨.rows 57 5 N (fR y.1.2.2), true⟩)], 1, 42⟩) (fun y => N - y.1.1) ⟨(k + 1, k, xs), by simp only; omega, by simp only; omega, hN, htk, fun _ _ => rfl⟩ ?_ (fun ⟨⟨j, i, ys⟩, hij, hj, hyl, ht, hr⟩ => ?_)
  · refine Sa ?_; simp only [rx,Y0,Y1,Y2,Y3,Y4,Y5,Y6,Y7,ren,↓reduceIte,J1,J2,J3,J4,J5,J6,J7,J8,J9,reduceCtorEq,K1,K2,K3,K4,Y8,Y9,X2,X3,X4,cG]
  simp only at hij hj hyl ht hr
  simp only [vx,T,K5,J0,K6,K7,↓reduceIte,J1,J2,J3,J4,J5,J6,J7,J8,J9,reduceCtorEq,K1,K2,K3,K4,cG]
  refine ⟨fun h3 => Lg ?_, fun h3 => Lg ?_⟩
  · have hjN : j < N := by omega
    have j1 : IntKind.i64.wrap ((j : Int) + 1) = ((j + 1 : Nat) : Int) := by rw [IntWalk.i64_in _ (by omega)]; omega
    have i1 := wI i (by omega)
    obtain ⟨a, ha⟩ : ∃ a, a = ys.getD j default := ⟨_, rfl⟩
    have hax : a = xs.getD j default := by rw [ha]; exact hr j (Nat.le_refl _)
    have hts : (xs.take (j + 1)).filter qn = ys.take i ++ (if qn a then [a] else []) := by
      rw [take_step (by omega), List.filter_append, ← ht, ← hax]
      congr 1
      cases hq : qn a
      · rw [List.filter_cons_of_neg (by simp [hq])]; rfl
      rw [List.filter_cons_of_pos hq]; rfl
    simp only [vx,T,K5,J0,K6,K7,↓reduceIte,J1,J2,J3,J4,J5,J6,J7,J8,J9,reduceCtorEq,K1,K2,K3,K4,cG,fR0,fR1,fR2,fR3,fR4,← ha]
    refine ⟨by omega, Cg (cl2_spec a (by rw [hax]; exact hx.get j)) ?_⟩
    simp only [vx,T,K5,J0,K6,K7,↓reduceIte,J1,J2,J3,J4,J5,J6,J7,J8,J9,reduceCtorEq,K1,K2,K3,K4,cG]
    refine ⟨fun h4 => Lg ?_, fun h4 => Lg ?_⟩
    · have h4 : qn a = true := by unfold qn; simpa using h4
      rw [if_pos h4] at hts
      simp only [vx,T,K5,J0,K6,K7,↓reduceIte,J1,J2,J3,J4,J5,J6,J7,J8,J9,reduceCtorEq,K1,K2,K3,K4,cG,← ha]
      simp only [i1,j1]
      refine ⟨by omega, Lq ⟨(j + 1, i + 1, ys.set i a), by simp only; omega, by simp only; omega, by rw [List.length_set]; exact hyl, by rw [hts]; exact take_set_step (by omega), fun c hc => ?_⟩ ?_ ?_⟩
      · simp only at hc ⊢
        rw [getD_set_other (by omega)]; exact hr c (by omega)
      · refine Sa ?_; simp only [rx,Y0,Y1,Y2,Y3,Y4,Y5,Y6,Y7,ren,↓reduceIte,J1,J2,J3,J4,J5,J6,J7,J8,J9,reduceCtorEq,K1,K2,K3,K4,Y8,Y9,X2,X3,X4,cG]
        intro i' j' hi' hj'
        exact set_mono (by omega) a i' j' hj'
      simp only; omega
    have h4 : qn a = false := by unfold qn; simpa using h4
    rw [h4, if_neg (by simp), List.append_nil] at hts
    simp only [vx,T,K5,J0,K6,K7,↓reduceIte,J1,J2,J3,J4,J5,J6,J7,J8,J9,reduceCtorEq,K1,K2,K3,K4,cG]
    simp only [j1]
    refine Lq ⟨(j + 1, i, ys), by simp only; omega, by simp only; omega, hyl, by rw [hts], fun c hc => hr c (by simp only at hc; omega)⟩ ?_ ?_
    · refine Sa ?_; simp only [rx,Y0,Y1,Y2,Y3,Y4,Y5,Y6,Y7,ren,↓reduceIte,J1,J2,J3,J4,J5,J6,J7,J8,J9,reduceCtorEq,K1,K2,K3,K4,Y8,Y9,X2,X3,X4,cG]
    simp only; omega
  have hjN : j = N := by omega
  rw [hjN, ← hN, List.take_length] at ht
  have hlen : i = (xs.filter qn).length := by rw [← ht, X5]; omega
  simp only [vx,T,K5,J0,K6,K7,↓reduceIte,J1,J2,J3,J4,J5,J6,J7,J8,J9,reduceCtorEq,K1,K2,K3,K4,cG]
  refine ⟨by omega, by omega, ?_⟩
  refine ⟨i, _, rfl, rfl, by omega, hlen, fun i' j' hi' hj' => ?_⟩
  unfold clrF
  rw [if_neg (by omega)]
  exact fR_take ht hi'
open Go Go.Proofs Go.RowKit Go.Eng
set_option maxRecDepth 100000 in
theorem growP_walk (k : Nat) (h0 : 0 < k) (hb : k * 88 ≤ 140737488355328) (w : World) (i : TypeInfo) (z : Value) (hi : Tryz.prog.info? 57 = some i) (hz : i.zero = some z) (hs : i.size = 5) (hby : i.bytes = 88) :
    Calls Tryz.prog 100 #[.slice none 0 0, .int .i64 k] w fun e w' => e = .returned (.slice (some ⟨w.heap.size, 0, none⟩) 0 (grownCap w k 0 57)) ∧
      w' = w.drew.alloc (.cells (Builtin.zeroCells z.cells k ++ Builtin.zeroCells z.cells (grownCap w k 0 57 - k)) 57) := by
  have h1 : ¬ ((k : Int) < 0) := by omega
  have h3 : wrap64 ((k : Int) - (((0 : Nat) : Int) - ((0 : Nat) : Int))) = (k : Int) := by unfold wrap64; omega
  have h4 : (k : Int) > 0 := by omega
  have hrz : ∀ ty, (Builtin.append_ #[46, 3] ty #[.slice none 0 0, .int .i64 (k : Int)]).run Tryz.prog w =
      .ok (.slice (some ⟨w.heap.size, 0, none⟩) k (grownCap w k 0 57)) (w.drew.alloc (.cells (Builtin.zeroCells z.cells k ++ Builtin.zeroCells z.cells (grownCap w k 0 57 - k)) 57)) := fun ty =>
    Lib.run_append_nil_zeros w 46 3 ty 57 i z .i64 .i64 (by rfl) (by rfl) hi hz k h0 (by omega) (by omega) (by rw [hby]; omega)
  obtain ⟨G, hG⟩ : ∃ G, G = grownCap w k 0 57 := ⟨_, rfl⟩
  rw [← hG] at hrz ⊢
  have hGn : k ≤ G := by rw [hG]; exact grownCap_ge w _ _ _
  clear hG
  go_enter Tryz.func100, Tryz.ntmps100
  go_wp2_with (at_builtin; refine Lib.wpList_append_run _ rfl _ _ _ _ rfl _ _ rfl rfl _ _ (hrz _) ?_)
  all_goals (go_ret; exact ⟨rfl, rfl⟩)
set_option maxRecDepth 100000 in
theorem growP_zero (w : World) : Calls Tryz.prog 100 #[.slice none 0 0, .int .i64 0] w fun e w' => e = .returned (.slice none 0 0) ∧ w' = w := by
  go_enter Tryz.func100, Tryz.ntmps100
  go_wp2
  go_ret
  exact ⟨rfl, rfl⟩
theorem growP_spec (k : Nat) (hb : k * 88 ≤ 140737488355328) : Fr Tryz.prog 100 [.one .nil, .one (.int .i64 k)] (.rows 57 5 0 (fun _ _ => .any)) := by
  obtain ⟨i, d, z, hi, hu, hz, _, hs, hby, hzl, _⟩ := T_parts T_ok (show T 57 = some _ from rfl)
  have hs : i.size = 5 := hs.symm
  have hby : i.bytes = 88 := hby.symm
  refine ⟨⟨_, Tryz.func100, by rfl, by rfl⟩, trivial, fun ok w vs hok hr => ?_⟩
  obtain ⟨vs⟩ := vs
  match vs, hr with
  | [v, u], hr =>
    obtain ⟨hv, hu, _⟩ := hr
    have hv : v = .slice none 0 0 := hv
    have hu : u = .int .i64 k := hu
    subst hv hu
    by_cases h0 : k = 0
    · subst h0
      refine (growP_zero w).mono ?_
      rintro e w' ⟨rfl, rfl⟩
      exact ⟨_, ⟨none, 0⟩, rfl, Go.RowKit.Below.refl _ _, rfl, (fun g o h => by cases h), (fun j => by simp [Bk.cell]), trivial, Nat.le_refl _, 0, Nat.le_refl _, .inr ⟨rfl, rfl, rfl, rfl⟩⟩
    refine (growP_walk k (by omega) hb w i z hi hz hs hby).mono ?_
    rintro e w' ⟨rfl, rfl⟩
    have hzc : z.cells.size = 5 := by
      have := congrArg List.length hzl
      simpa [T] using this.symm
    have hGn : k ≤ grownCap w k 0 57 := grownCap_ge w _ _ _
    refine ⟨_, ⟨some (w.heap.size, 0), 0⟩, rfl, ((Go.RowKit.Below.refl _ w).drew).alloc (Nat.le_refl _) _, rfl, fun g o h => ?_, ?_, trivial, Nat.le_refl _, grownCap w k 0 57, Nat.zero_le _, .inl ⟨w.heap.size, 0, 0, rfl, rfl, .inr (by simp), ?_⟩⟩
    · have : w.heap.size = g := by simpa using congrArg (Option.map Prod.fst) h
      subst this
      exact ⟨Nat.le_refl _, by simp⟩
    · unfold RepBk
      refine ⟨_, 57, heap_alloc_new w.drew _, fun j c hj => ?_⟩
      simp [Bk.cell] at hj
    have hrs : rowSize (w.drew.alloc (.cells (Builtin.zeroCells z.cells k ++ Builtin.zeroCells z.cells (grownCap w k 0 57 - k)) 57)) w.heap.size = (Builtin.zeroCells z.cells k ++ Builtin.zeroCells z.cells (grownCap w k 0 57 - k)).size := rowSize_of (heap_alloc_new w.drew _)
    rw [hrs]
    simp only [Array.size_append,size_zeroCells,hzc,Bk.wd]
    omega
set_option maxRecDepth 100000 in
theorem growZ_walk (k : Nat) (h0 : 0 < k) (hb : k * 8 ≤ 140737488355328) (w : World) (i : TypeInfo) (z : Value) (hi : Tryz.prog.info? 3 = some i) (hz : i.zero = some z) (hs : i.size = 1) (hby : i.bytes = 8) :
    Calls Tryz.prog 74 #[.slice none 0 0, .int .i64 k] w fun e w' => e = .returned (.slice (some ⟨w.heap.size, 0, none⟩) 0 (grownCap w k 0 3)) ∧
      w' = w.drew.alloc (.cells (Builtin.zeroCells z.cells k ++ Builtin.zeroCells z.cells (grownCap w k 0 3 - k)) 3) := by
  have h1 : ¬ ((k : Int) < 0) := by omega
  have h3 : wrap64 ((k : Int) - (((0 : Nat) : Int) - ((0 : Nat) : Int))) = (k : Int) := by unfold wrap64; omega
  have h4 : (k : Int) > 0 := by omega
  have hrz : ∀ ty, (Builtin.append_ #[22, 3] ty #[.slice none 0 0, .int .i64 (k : Int)]).run Tryz.prog w =
      .ok (.slice (some ⟨w.heap.size, 0, none⟩) k (grownCap w k 0 3)) (w.drew.alloc (.cells (Builtin.zeroCells z.cells k ++ Builtin.zeroCells z.cells (grownCap w k 0 3 - k)) 3)) := fun ty =>
    Lib.run_append_nil_zeros w 22 3 ty 3 i z .i64 .i64 (by rfl) (by rfl) hi hz k h0 (by omega) (by omega) (by rw [hby]; omega)
  obtain ⟨G, hG⟩ : ∃ G, G = grownCap w k 0 3 := ⟨_, rfl⟩
  rw [← hG] at hrz ⊢
  have hGn : k ≤ G := by rw [hG]; exact grownCap_ge w _ _ _
  clear hG
  go_enter Tryz.func74, Tryz.ntmps74
  go_wp2_with (at_builtin; refine Lib.wpList_append_run _ rfl _ _ _ _ rfl _ _ rfl rfl _ _ (hrz _) ?_)
  all_goals (go_ret; exact ⟨rfl, rfl⟩)
set_option maxRecDepth 100000 in
theorem growZ_zero (w : World) : Calls Tryz.prog 74 #[.slice none 0 0, .int .i64 0] w fun e w' => e = .returned (.slice none 0 0) ∧ w' = w := by
  go_enter Tryz.func74, Tryz.ntmps74
  go_wp2
  go_ret
  exact ⟨rfl, rfl⟩
theorem growZ_spec (k : Nat) (hb : k * 8 ≤ 140737488355328) : Fr Tryz.prog 74 [.one .nil, .one (.int .i64 k)] (.ints 3 .i64 []) := by
  obtain ⟨i, d, z, hi, hu, hz, _, hs, hby, hzl, _⟩ := T_parts T_ok (show T 3 = some _ from rfl)
  have hs : i.size = 1 := hs.symm
  have hby : i.bytes = 8 := hby.symm
  refine ⟨⟨_, Tryz.func74, by rfl, by rfl⟩, trivial, fun ok w vs hok hr => ?_⟩
  obtain ⟨vs⟩ := vs
  match vs, hr with
  | [v, u], hr =>
    obtain ⟨hv, hu, _⟩ := hr
    have hv : v = .slice none 0 0 := hv
    have hu : u = .int .i64 k := hu
    subst hv hu
    by_cases h0 : k = 0
    · subst h0
      refine (growZ_zero w).mono ?_
      rintro e w' ⟨rfl, rfl⟩
      exact ⟨_, ⟨none, 0⟩, rfl, Go.RowKit.Below.refl _ _, rfl, (fun g o h => by cases h), (fun j => by simp [Bk.cell]), trivial, Nat.le_refl _, 0, Nat.le_refl _, .inr ⟨rfl, rfl, rfl, rfl⟩⟩
    refine (growZ_walk k (by omega) hb w i z hi hz hs hby).mono ?_
    rintro e w' ⟨rfl, rfl⟩
    have hzc : z.cells.size = 1 := by
      have := congrArg List.length hzl
      simpa [T] using this.symm
    have hGn : k ≤ grownCap w k 0 3 := grownCap_ge w _ _ _
    refine ⟨_, ⟨some (w.heap.size, 0), 0⟩, rfl, ((Go.RowKit.Below.refl _ w).drew).alloc (Nat.le_refl _) _, rfl, fun g o h => ?_, ?_, trivial, Nat.le_refl _, grownCap w k 0 3, Nat.zero_le _, .inl ⟨w.heap.size, 0, 0, rfl, rfl, .inr (by simp), ?_⟩⟩
    · have : w.heap.size = g := by simpa using congrArg (Option.map Prod.fst) h
      subst this
      exact ⟨Nat.le_refl _, by simp⟩
    · unfold RepBk
      refine ⟨_, 3, heap_alloc_new w.drew _, fun j c hj => ?_⟩
      simp [Bk.cell] at hj
    have hrs : rowSize (w.drew.alloc (.cells (Builtin.zeroCells z.cells k ++ Builtin.zeroCells z.cells (grownCap w k 0 3 - k)) 3)) w.heap.size = (Builtin.zeroCells z.cells k ++ Builtin.zeroCells z.cells (grownCap w k 0 3 - k)).size := rowSize_of (heap_alloc_new w.drew _)
    rw [hrs]
    simp only [Array.size_append,size_zeroCells,hzc,Bk.wd]
    omega
open Go Go.Eng
theorem freshArgs {P : Program} {f : FuncId} {xs ys : List V} {B : Bk} (h : Fr P f ys B) (ha : VLeA xs ys) : Fr P f xs B :=
  ⟨h.1, h.2.1, fun ok w vs hok hvs => h.2.2 ok w vs hok (ha.rep hvs)⟩
theorem flat_step {α : Type} {ps : List (List α)} {i : Nat} (h : i < ps.length) : (ps.take (i + 1)).flatten = (ps.take i).flatten ++ ps.getD i default := by
  rw [List.take_add_one, List.flatten_append, X7, X8 h]; simp
theorem flat_le {α : Type} (ps : List (List α)) (i : Nat) : (ps.take i).flatten.length ≤ ps.flatten.length := by
  conv => rhs; rw [← List.take_append_drop i ps, List.flatten_append, X6]
  exact Nat.le_add_right _ _
theorem concatZ_spec (ps : List (List Int)) (hl : ps.flatten.length < 2 ^ 38) (hk : ps.length < 2 ^ 38) : Fr Tryz.prog 45 [.one (.rows 1 ps.length (fun i _ => C.ints .i64 (ps.getD i default)))] (Bk.ints 3 .i64 (ps.flatten)) := by
  refine fresh_of_vc T_ok mixed Tryz.func45 rfl (by decide) _ (by simp [Tryz.ntmps45]) ⟨[0, 2, 3, 5, 6, 8, 9, 10, 11, 12, 20, 25, 26, 27, 28], []⟩ (by kernel_rfl) (Bk.ints 3 .i64 (ps.flatten)) trivial ?_
  show vc T _ _ (Option.get! Tryz.f45.body) _ _
  simp only [Tryz.f45,Tryz.ntmps45,Option.get!,iS,iM,eO,J1]
  simp only [vx,T,K5,J0,K6,K7,↓reduceIte,J1,J2,J3,J4,J5,J6,J7,J8,J9,reduceCtorEq,K1,K2,K3,K4]
  refine Lk (fun y : {i : Nat // i ≤ ps.length} => ⟨[(0, .one (.rows 1 ps.length (fun i _ => C.ints .i64 (ps.getD i default)))), (3, .one (.int .i64 (ps.take y.1).flatten.length)), (9, .one (.rows 1 ps.length (fun i _ => C.ints .i64 (ps.getD i default)))), (10, .one (.int .i64 ps.length)), (11, .one (.int .i64 y.1))], [], 1, 36⟩) (fun y => ps.length - y.1) ⟨0, Nat.zero_le _⟩ ?_ (fun ⟨i, hi⟩ => ?_)
  · refine Sa ?_; simp only [rx,Y0,Y1,Y2,Y3,Y4,Y5,Y6,Y7,ren,↓reduceIte,J1,J2,J3,J4,J5,J6,J7,J8,J9,reduceCtorEq,K1,K2,K3,K4,Y8,Y9,X2,X3,X4]
  have h0 := flat_le ps i
  have i1 := wI i (by omega)
  simp only [vx,T,K5,J0,K6,K7,↓reduceIte,J1,J2,J3,J4,J5,J6,J7,J8,J9,reduceCtorEq,K1,K2,K3,K4]
  refine ⟨fun h1 => Lg ?_, fun h1 => Lg ?_⟩
  · have hs := flat_step (ps := ps) (i := i) (by omega)
    have h2 := flat_le ps (i + 1)
    have hsl : (ps.take (i + 1)).flatten.length = (ps.take i).flatten.length + (ps.getD i default).length := by rw [hs, X6]
    obtain ⟨a, ha⟩ : ∃ a, a = ps.getD i default := ⟨_, rfl⟩
    rw [← ha] at hsl
    have w1 : IntKind.i64.wrap (((ps.take i).flatten.length : Int) + a.length) = ((ps.take (i + 1)).flatten.length : Int) := by rw [IntWalk.i64_in _ (by omega)]; omega
    simp only [vx,T,K5,J0,K6,K7,↓reduceIte,J1,J2,J3,J4,J5,J6,J7,J8,J9,reduceCtorEq,K1,K2,K3,K4,PC,← ha]
    simp only [w1]
    refine ⟨by omega, fun h => absurd h (by omega), fun _ => Lg ?_⟩
    simp only [vx,T,K5,J0,K6,K7,↓reduceIte,J1,J2,J3,J4,J5,J6,J7,J8,J9,reduceCtorEq,K1,K2,K3,K4,PC,← ha]
    simp only [i1]
    refine Lq ⟨i + 1, by omega⟩ ?_ ?_
    · refine Sa ?_; simp only [rx,Y0,Y1,Y2,Y3,Y4,Y5,Y6,Y7,ren,↓reduceIte,J1,J2,J3,J4,J5,J6,J7,J8,J9,reduceCtorEq,K1,K2,K3,K4,Y8,Y9,X2,X3,X4]
    simp only; omega
  have hip : i = ps.length := by omega
  subst hip
  rw [List.take_length]
  simp only [vx,T,K5,J0,K6,K7,↓reduceIte,J1,J2,J3,J4,J5,J6,J7,J8,J9,reduceCtorEq,K1,K2,K3,K4]
  refine CallK.fresh (growZ_spec ps.flatten.length (by omega)) ?_
  simp only [vx,T,K5,J0,K6,K7,↓reduceIte,J1,J2,J3,J4,J5,J6,J7,J8,J9,reduceCtorEq,K1,K2,K3,K4]
  refine Lk (fun y : {i : Nat // i ≤ ps.length} => ⟨[(0, .one (.rows 1 ps.length (fun i _ => C.ints .i64 (ps.getD i default)))), (6, .one (.own 1 1 0 (ps.take y.1).flatten.length)), (25, .one (.rows 1 ps.length (fun i _ => C.ints .i64 (ps.getD i default)))), (26, .one (.int .i64 ps.length)), (27, .one (.int .i64 y.1))], [(1, ⟨(Bk.ints 3 .i64 ((ps.take y.1).flatten)), true⟩)], 2, 36⟩) (fun y => ps.length - y.1) ⟨0, Nat.zero_le _⟩ ?_ (fun ⟨i, hi⟩ => ?_)
  · refine Sa ?_; simp only [rx,Y0,Y1,Y2,Y3,Y4,Y5,Y6,Y7,ren,↓reduceIte,J1,J2,J3,J4,J5,J6,J7,J8,J9,reduceCtorEq,K1,K2,K3,K4,Y8,Y9,X2,X3,X4]
    skip
  have h0 := flat_le ps i
  have i1 := wI i (by omega)
  simp only [vx,T,K5,J0,K6,K7,↓reduceIte,J1,J2,J3,J4,J5,J6,J7,J8,J9,reduceCtorEq,K1,K2,K3,K4]
  refine ⟨fun h1 => Lg ?_, fun h1 => Lg ?_⟩
  · have hs := flat_step (ps := ps) (i := i) (by omega)
    have h2 := flat_le ps (i + 1)
    have hsl : (ps.take (i + 1)).flatten.length = (ps.take i).flatten.length + (ps.getD i default).length := by rw [hs, X6]
    obtain ⟨a, ha⟩ : ∃ a, a = ps.getD i default := ⟨_, rfl⟩
    rw [← ha] at hsl hs
    simp only [vx,T,K5,J0,K6,K7,↓reduceIte,J1,J2,J3,J4,J5,J6,J7,J8,J9,reduceCtorEq,K1,K2,K3,K4,PC,← ha]
    simp only [i1]
    refine ⟨by omega, by rw [← X6, ← hs]; omega, Lq ⟨i + 1, by omega⟩ ?_ ?_⟩
    · refine Sa ?_; simp only [rx,Y0,Y1,Y2,Y3,Y4,Y5,Y6,Y7,ren,↓reduceIte,J1,J2,J3,J4,J5,J6,J7,J8,J9,reduceCtorEq,K1,K2,K3,K4,Y8,Y9,X2,X3,X4,hs]
      skip
    simp only; omega
  have hip : i = ps.length := by omega
  subst hip
  rw [List.take_length]
  simp only [vx,T,K5,J0,K6,K7,↓reduceIte,J1,J2,J3,J4,J5,J6,J7,J8,J9,reduceCtorEq,K1,K2,K3,K4]
  exact ⟨rfl, rfl⟩
theorem concatP_spec (ps : List (List Mono)) (hl : ps.flatten.length < 2 ^ 38) (hk : ps.length < 2 ^ 38) : Fr Tryz.prog 65 [.one (.rows 1 ps.length (fun i _ => PC (ps.getD i default)))] (.rows 57 5 (ps.flatten).length (fR (ps.flatten))) := by
  refine fresh_of_vc T_ok mixed Tryz.func65 rfl (by decide) _ (by simp [Tryz.ntmps65]) ⟨[0, 2, 3, 5, 6, 8, 9, 10, 11, 12, 20, 25, 26, 27, 28], []⟩ (by kernel_rfl) (.rows 57 5 (ps.flatten).length (fR (ps.flatten))) trivial ?_
  show vc T _ _ (Option.get! Tryz.f65.body) _ _
  simp only [Tryz.f65,Tryz.ntmps65,Option.get!,iS,iM,eO,J1]
  simp only [vx,T,K5,J0,K6,K7,↓reduceIte,J1,J2,J3,J4,J5,J6,J7,J8,J9,reduceCtorEq,K1,K2,K3,K4]
  refine Lk (fun y : {i : Nat // i ≤ ps.length} => ⟨[(0, .one (.rows 1 ps.length (fun i _ => PC (ps.getD i default)))), (3, .one (.int .i64 (ps.take y.1).flatten.length)), (9, .one (.rows 1 ps.length (fun i _ => PC (ps.getD i default)))), (10, .one (.int .i64 ps.length)), (11, .one (.int .i64 y.1))], [], 1, 36⟩) (fun y => ps.length - y.1) ⟨0, Nat.zero_le _⟩ ?_ (fun ⟨i, hi⟩ => ?_)
  · refine Sa ?_; simp only [rx,Y0,Y1,Y2,Y3,Y4,Y5,Y6,Y7,ren,↓reduceIte,J1,J2,J3,J4,J5,J6,J7,J8,J9,reduceCtorEq,K1,K2,K3,K4,Y8,Y9,X2,X3,X4]
  have h0 := flat_le ps i
  have i1 := wI i (by omega)
  simp only [vx,T,K5,J0,K6,K7,↓reduceIte,J1,J2,J3,J4,J5,J6,J7,J8,J9,reduceCtorEq,K1,K2,K3,K4]
  refine ⟨fun h1 => Lg ?_, fun h1 => Lg ?_⟩
  · have hs := flat_step (ps := ps) (i := i) (by omega)
    have h2 := flat_le ps (i + 1)
    have hsl : (ps.take (i + 1)).flatten.length = (ps.take i).flatten.length + (ps.getD i default).length := by rw [hs, X6]
    obtain ⟨a, ha⟩ : ∃ a, a = ps.getD i default := ⟨_, rfl⟩
    rw [← ha] at hsl
    have w1 : IntKind.i64.wrap (((ps.take i).flatten.length : Int) + a.length) = ((ps.take (i + 1)).flatten.length : Int) := by rw [IntWalk.i64_in _ (by omega)]; omega
    simp only [vx,T,K5,J0,K6,K7,↓reduceIte,J1,J2,J3,J4,J5,J6,J7,J8,J9,reduceCtorEq,K1,K2,K3,K4,PC,← ha]
    simp only [w1]
    refine ⟨by omega, fun h => absurd h (by omega), fun _ => Lg ?_⟩
    simp only [vx,T,K5,J0,K6,K7,↓reduceIte,J1,J2,J3,J4,J5,J6,J7,J8,J9,reduceCtorEq,K1,K2,K3,K4,PC,← ha]
    simp only [i1]
    refine Lq ⟨i + 1, by omega⟩ ?_ ?_
    · refine Sa ?_; simp only [rx,Y0,Y1,Y2,Y3,Y4,Y5,Y6,Y7,ren,↓reduceIte,J1,J2,J3,J4,J5,J6,J7,J8,J9,reduceCtorEq,K1,K2,K3,K4,Y8,Y9,X2,X3,X4]
    simp only; omega
  have hip : i = ps.length := by omega
  subst hip
  rw [List.take_length]
  simp only [vx,T,K5,J0,K6,K7,↓reduceIte,J1,J2,J3,J4,J5,J6,J7,J8,J9,reduceCtorEq,K1,K2,K3,K4]
  refine CallK.fresh (growP_spec ps.flatten.length (by omega)) ?_
  simp only [vx,T,K5,J0,K6,K7,↓reduceIte,J1,J2,J3,J4,J5,J6,J7,J8,J9,reduceCtorEq,K1,K2,K3,K4]
  refine Lk (fun y : {i : Nat // i ≤ ps.length} => ⟨[(0, .one (.rows 1 ps.length (fun i _ => PC (ps.getD i default)))), (6, .one (.own 1 5 0 (ps.take y.1).flatten.length)), (25, .one (.rows 1 ps.length (fun i _ => PC (ps.getD i default)))), (26, .one (.int .i64 ps.length)), (27, .one (.int .i64 y.1))], [(1, ⟨(.rows 57 5 ((ps.take y.1).flatten).length (fR ((ps.take y.1).flatten))), true⟩)], 2, 36⟩) (fun y => ps.length - y.1) ⟨0, Nat.zero_le _⟩ ?_ (fun ⟨i, hi⟩ => ?_)
  · refine Sa ?_; simp only [rx,Y0,Y1,Y2,Y3,Y4,Y5,Y6,Y7,ren,↓reduceIte,J1,J2,J3,J4,J5,J6,J7,J8,J9,reduceCtorEq,K1,K2,K3,K4,Y8,Y9,X2,X3,X4]
    exact fun i j h => absurd h (by omega)
  have h0 := flat_le ps i
  have i1 := wI i (by omega)
  simp only [vx,T,K5,J0,K6,K7,↓reduceIte,J1,J2,J3,J4,J5,J6,J7,J8,J9,reduceCtorEq,K1,K2,K3,K4]
  refine ⟨fun h1 => Lg ?_, fun h1 => Lg ?_⟩
  · have hs := flat_step (ps := ps) (i := i) (by omega)
    have h2 := flat_le ps (i + 1)
    have hsl : (ps.take (i + 1)).flatten.length = (ps.take i).flatten.length + (ps.getD i default).length := by rw [hs, X6]
    obtain ⟨a, ha⟩ : ∃ a, a = ps.getD i default := ⟨_, rfl⟩
    rw [← ha] at hsl hs
    simp only [vx,T,K5,J0,K6,K7,↓reduceIte,J1,J2,J3,J4,J5,J6,J7,J8,J9,reduceCtorEq,K1,K2,K3,K4,PC,← ha]
    simp only [i1]
    refine ⟨by omega, by rw [← X6, ← hs]; omega, Lq ⟨i + 1, by omega⟩ ?_ ?_⟩
    · refine Sa ?_; simp only [rx,Y0,Y1,Y2,Y3,Y4,Y5,Y6,Y7,ren,↓reduceIte,J1,J2,J3,J4,J5,J6,J7,J8,J9,reduceCtorEq,K1,K2,K3,K4,Y8,Y9,X2,X3,X4,hs]
      exact ⟨by simp, by simp, app_rows _ _⟩
    simp only; omega
  have hip : i = ps.length := by omega
  subst hip
  rw [List.take_length]
  simp only [vx,T,K5,J0,K6,K7,↓reduceIte,J1,J2,J3,J4,J5,J6,J7,J8,J9,reduceCtorEq,K1,K2,K3,K4]
  exact ⟨rfl, rfl, fun _ _ _ _ => rfl⟩
open Go Go.Eng
theorem cloneZ_spec (xs : List Int) (hx : xs.length < 2 ^ 40) : Pr Tryz.prog 84 [.one (.ints .i64 xs)] (.one (.ints .i64 xs)) := by
  refine pv T_ok mixed Tryz.func84 rfl (by decide) _ (by simp [Tryz.ntmps84]) ⟨[0, 2, 4], []⟩ (by kernel_rfl) _ ?_
  show vc T _ _ (Option.get! Tryz.f84.body) _ _
  simp only [Tryz.f84,Tryz.ntmps84,Option.get!,iS,iM,eO,J1]
  simp only [vx,T,K5,J0,K6,K7,↓reduceIte,J1,J2,J3,J4,J5,J6,J7,J8,J9,reduceCtorEq,K1,K2,K3,K4]
  intro b hb
  refine Lg ?_
  simp only [vx,T,K5,J0,K6,K7,↓reduceIte,J1,J2,J3,J4,J5,J6,J7,J8,J9,reduceCtorEq,K1,K2,K3,K4]
  refine ⟨fun h => Lg ?_, fun h => Lg ?_⟩
  · simp only [vx,T,K5,J0,K6,K7,↓reduceIte,J1,J2,J3,J4,J5,J6,J7,J8,J9,reduceCtorEq,K1,K2,K3,K4]
    have h0 : xs = [] := by
      cases xs with
      | nil => rfl
      | cons x xs => simp at hb; rw [hb] at h; cases h
    refine Va ?_; simp only [vLe,vLeL,rx,Y0,Y1,Y2,Y3,Y4,Y5,Y6,Y7,ren,↓reduceIte,J1,J2,J3,J4,J5,J6,J7,J8,J9,reduceCtorEq,K1,K2,K3,K4,h0]
  simp only [vx,T,K5,J0,K6,K7,↓reduceIte,J1,J2,J3,J4,J5,J6,J7,J8,J9,reduceCtorEq,K1,K2,K3,K4]
  exact ⟨⟨by omega, by omega⟩, VLe.refl _⟩
theorem insM_end {c : Rat} {v : List Int} : ∀ {os : List Mono}, (∀ x ∈ os, cmpV x.2 v < 0) → insM c v os = os ++ [(c, v)]
  | [], _ => rfl
  | m :: r, h => by
    simp only [insM]
    rw [if_pos (h m (by simp)), insM_end fun x hx => h x (by simp [hx])]; rfl
theorem insM_lastEq {c : Rat} {v : List Int} {x : Mono} (hx : x.2 = v) : ∀ {ps : List Mono}, (∀ y ∈ ps, cmpV y.2 v < 0) → insM c v (ps ++ [x]) = ps ++ [(x.1 + c, v)]
  | [], _ => by simp only [List.nil_append,insM]; rw [if_neg (by rw [hx]; exact cmpV_irrefl v), if_pos hx]
  | m :: r, h => by
    simp only [List.cons_append,insM]
    rw [if_pos (h m (by simp)), insM_lastEq hx fun y hy => h y (by simp [hy])]
theorem asc_last {os : List Mono} (h : Asc os) {k : Nat} (hk : k + 1 = os.length) : ∀ y ∈ os.take k, cmpV y.2 (os.getD k default).2 < 0 := by
  intro y hy
  obtain ⟨i, hi, rfl⟩ := List.mem_iff_getElem.1 hy
  rw [X5] at hi
  rw [List.getElem_take, getD_eq (by omega)]
  exact List.pairwise_iff_getElem.1 h i k (by omega) (by omega) (by omega)
theorem split_last {os : List Mono} {k : Nat} (hk : k + 1 = os.length) : os = os.take k ++ [os.getD k default] := by
  rw [← take_step (by omega), List.take_of_length_le (by omega)]
theorem insM_same {c : Rat} {v : List Int} {os : List Mono} (h : Asc os) {k : Nat} (hk : k + 1 = os.length) (hv : (os.getD k default).2 = v) : insM c v os = os.set k ((os.getD k default).1 + c, v) := by
  have h1 := asc_last h hk
  rw [hv] at h1
  conv => lhs; rw [split_last hk]
  rw [insM_lastEq hv h1, List.set_eq_take_append_cons_drop, if_pos (by omega), List.drop_eq_nil_of_le (by omega)]
theorem insM_new {c : Rat} {v : List Int} {os : List Mono} (h : Asc os) (hall : ∀ x ∈ os, cmpV x.2 v ≤ 0) (hne : ∀ k, k + 1 = os.length → (os.getD k default).2 ≠ v) : insM c v os = os ++ [(c, v)] := by
  refine insM_end fun x hx => ?_
  have h1 := hall x hx
  obtain ⟨i, hi, rfl⟩ := List.mem_iff_getElem.1 hx
  have h2 := hne (os.length - 1) (by omega)
  have h3 := hall (os.getD (os.length - 1) default) (by rw [getD_eq (by omega)]; exact List.getElem_mem _)
  have h4 : cmpV (os.getD (os.length - 1) default).2 v < 0 := by
    have : cmpV (os.getD (os.length - 1) default).2 v ≠ 0 := fun e => h2 (cmpV_zero.1 e)
    omega
  by_cases h5 : i = os.length - 1
  · subst h5; rw [getD_eq (by omega)] at h4; exact h4
  have h6 := List.pairwise_iff_getElem.1 h i (os.length - 1) (by omega) (by omega) (by omega)
  rw [getD_eq (by omega)] at h4
  exact cmpV_lt_trans h6 h4
theorem norL_step {ys : List Mono} {i : Nat} (hi : i < ys.length) : norL (ys.take (i + 1)) [] = insM (ys.getD i default).1 (ys.getD i default).2 (norL (ys.take i) []) := by
  rw [take_step hi]
  unfold norL
  rw [List.foldl_append]; rfl
def NorR (l : List Mono) (r : V) (_ : Bk) : Prop := ∃ k f, r = .one (.rows 5 k f) ∧ k = (norM l).length ∧ ∀ i j, i < k → j < 5 → f i j = fR (norM l) i j
theorem normal_spec {l : List Mono} {n d B : Nat} (h : PB l n d B) (hn : n * (B + 1) < 2 ^ 30) (hn1 : n < 2 ^ 30) (hB : B < 2 ^ 30) (hd : d < 2 ^ 30) {N : Nat} (hN : l.length = N) :
    Mc Tryz.prog 48 [.one (.own 0 5 0 N)] (.rows 57 5 N (fR l)) (NorR l) := by
  have hln := h.n
  have hlo : LOk l := fun m hm => Nat.lt_of_le_of_lt (h.m m hm).2.1 (by omega)
  refine mut_of_vc T_ok mixed Tryz.func48 rfl (by decide) _ (by simp [Tryz.ntmps48]) ⟨[0, 2, 3, 5, 6, 9, 10, 11, 12, 30], []⟩ (by kernel_rfl) (.rows 57 5 N (fR l)) trivial _ ?_
  show vc T _ _ (Option.get! Tryz.f48.body) _ _
  simp only [Tryz.f48,Tryz.ntmps48,Option.get!,iS,iM,eO,J1]
  simp only [vx,T,K5,J0,K6,K7,↓reduceIte,J1,J2,J3,J4,J5,J6,J7,J8,J9,reduceCtorEq,K1,K2,K3,K4]
  refine Cm 0 rfl trivial (SortStable_spec l hN (by omega) hlo) ?_
  rintro _ _ ⟨ys, rfl, rfl, hp, hs⟩ _
  have hyl : ys.length = N := hp.length_eq.trans hN
  have hys : PB ys n d B := ⟨by rw [hp.length_eq]; exact hln, fun m hm => h.m m (hp.mem_iff.1 hm)⟩
  have hpre : ∀ i, i ≤ N → (norL (ys.take i) []).length ≤ i ∧ ∀ m ∈ norL (ys.take i) [], qm m.1 ≤ n * (B + 1) ∧ m.2.length ≤ d ∧ In63 m.2 := by
    intro i hi
    have h1 := PB.sumL (l := ys.take i) (d := d) (B := B) (fun m hm => hys.m m (List.mem_of_mem_take hm)) 0 [] ⟨by simp, fun m hm => by cases hm⟩
    rw [Nat.zero_add, X5, Nat.min_eq_left (by omega)] at h1
    refine ⟨h1.1, fun m hm => ?_⟩
    have h2 := h1.2 m hm
    exact ⟨Nat.le_trans h2.1 (Nat.mul_le_mul_right _ (by omega)), h2.2⟩
  simp only [vx,T,K5,J0,K6,K7,↓reduceIte,J1,J2,J3,J4,J5,J6,J7,J8,J9,reduceCtorEq,K1,K2,K3,K4]
  refine Lk (fun y : {y : Nat × List Mono // y.1 ≤ N ∧ y.2 = norL (ys.take y.1) []} => ⟨[(2, .one .nil), (3, .one (.own 1 5 0 y.1.2.length)), (9, .one (.own 0 5 0 N)), (10, .one (.int .i64 N)), (11, .one (.int .i64 y.1.1))], [(0, ⟨.rows 57 5 N (fR ys), true⟩), (1, ⟨.rows 57 5 y.1.2.length (fR y.1.2), true⟩)], 2, 57⟩) (fun y => N - y.1.1) ⟨(0, []), Nat.zero_le _, rfl⟩ ?_ (fun ⟨⟨i, os⟩, hi, hos⟩ => ?_)
  · refine Sa ?_; simp only [rx,Y0,Y1,Y2,Y3,Y4,Y5,Y6,Y7,ren,↓reduceIte,J1,J2,J3,J4,J5,J6,J7,J8,J9,reduceCtorEq,K1,K2,K3,K4,Y8,Y9,X2,X3,X4]
  simp only at hi hos
  have hol := (hpre i hi).1
  have hom := (hpre i hi).2
  have hoa : Asc os := by rw [hos]; exact norL_asc _ List.Pairwise.nil
  rw [← hos] at hol hom
  simp only [vx,T,K5,J0,K6,K7,↓reduceIte,J1,J2,J3,J4,J5,J6,J7,J8,J9,reduceCtorEq,K1,K2,K3,K4]
  refine ⟨fun h1 => Lg ?_, fun h1 => Lg ?_⟩
  · have hil : i < N := by omega
    have i1 := wI i (by omega)
    have hstep := norL_step (ys := ys) (i := i) (by omega)
    obtain ⟨a, ha⟩ : ∃ a, a = ys.getD i default := ⟨_, rfl⟩
    have hai := hys.get (i := i) (by omega)
    rw [← hos, ← ha] at hstep
    rw [← ha] at hai
    have hall : ∀ x ∈ os, cmpV x.2 a.2 ≤ 0 := by
      intro x hx
      rw [hos] at hx
      rcases norL_mem hx with ⟨m, hm, e⟩ | ⟨m, hm, _⟩
      · obtain ⟨j, hj, rfl⟩ := List.mem_iff_getElem.1 hm
        rw [X5] at hj
        rw [List.getElem_take, ← getD_eq (by omega)] at e
        rw [e, ha]
        exact hs j i (Nat.zero_le _) (by omega) hil
      cases hm
    simp only [vx,T,K5,J0,K6,K7,↓reduceIte,J1,J2,J3,J4,J5,J6,J7,J8,J9,reduceCtorEq,K1,K2,K3,K4,fR0,fR1,fR2,fR3,fR4,← ha]
    refine ⟨by omega, fun h2 => Lg ?_, fun h2 => Lg ?_⟩
    · obtain ⟨k, hk⟩ : ∃ k, k + 1 = os.length := ⟨os.length - 1, by omega⟩
      have k1 : IntKind.i64.wrap ((os.length : Int) - 1) = (k : Int) := by rw [IntWalk.i64_in _ (by omega)]; omega
      obtain ⟨b, hb⟩ : ∃ b, b = os.getD k default := ⟨_, rfl⟩
      have hbm := hom b (by rw [hb, getD_eq]; exact List.getElem_mem (by omega))
      simp only [vx,T,K5,J0,K6,K7,↓reduceIte,J1,J2,J3,J4,J5,J6,J7,J8,J9,reduceCtorEq,K1,K2,K3,K4,fR0,fR1,fR2,fR3,fR4,k1,← ha,← hb]
      refine ⟨by omega, Cg (compareV_spec b.2 a.2 (by omega) (by omega)) ?_⟩
      simp only [vx,T,K5,J0,K6,K7,↓reduceIte,J1,J2,J3,J4,J5,J6,J7,J8,J9,reduceCtorEq,K1,K2,K3,K4]
      refine ⟨fun h3 => Lg ?_, fun h3 => Lg ?_⟩
      · have h3 : b.2 = a.2 := cmpV_zero.1 (by omega)
        have hset := insM_same (c := a.1) (v := a.2) hoa hk (by rw [← hb]; exact h3)
        have hlen : (insM a.1 a.2 os).length = os.length := by rw [hset, List.length_set]
        simp only [vx,T,K5,J0,K6,K7,↓reduceIte,J1,J2,J3,J4,J5,J6,J7,J8,J9,reduceCtorEq,K1,K2,K3,K4,fR0,fR1,fR2,fR3,fR4,k1,← ha,← hb]
        refine ⟨by omega, Cg (iQAdd_spec b.1 a.1 (by omega) (by omega)) ?_⟩
        simp only [vx,T,K5,J0,K6,K7,↓reduceIte,J1,J2,J3,J4,J5,J6,J7,J8,J9,reduceCtorEq,K1,K2,K3,K4,QV,QC,frzs]
        simp only [i1]
        refine ⟨by omega, Lq ⟨(i + 1, insM a.1 a.2 os), by simp only; omega, hstep.symm⟩ ?_ ?_⟩
        · refine Sa ?_; simp only [rx,Y0,Y1,Y2,Y3,Y4,Y5,Y6,Y7,ren,↓reduceIte,J1,J2,J3,J4,J5,J6,J7,J8,J9,reduceCtorEq,K1,K2,K3,K4,Y8,Y9,X2,X3,X4,hlen]
          intro i' j' hi' hj'
          rw [set_rows (by omega) i' j' hi' hj', hset, ← hb, h3]
        simp only; omega
      have hins := insM_new (c := a.1) (v := a.2) hoa hall (fun k' hk' e => h3 (by rw [show k' = k by omega, ← hb] at e; rw [cmpV_zero.2 e]))
      have hlen : (insM a.1 a.2 os).length = os.length + 1 := by rw [hins, X6]; rfl
      simp only [vx,T,K5,J0,K6,K7,↓reduceIte,J1,J2,J3,J4,J5,J6,J7,J8,J9,reduceCtorEq,K1,K2,K3,K4,fR0,fR1,fR2,fR3,fR4,← ha]
      refine Cg (cloneZ_spec a.2 (by omega)) ?_
      simp only [vx,T,K5,J0,K6,K7,↓reduceIte,J1,J2,J3,J4,J5,J6,J7,J8,J9,reduceCtorEq,K1,K2,K3,K4,QV,QC]
      simp only [i1]
      refine ⟨by omega, Lq ⟨(i + 1, insM a.1 a.2 os), by simp only; omega, hstep.symm⟩ ?_ ?_⟩
      · refine Sa ?_; simp only [rx,Y0,Y1,Y2,Y3,Y4,Y5,Y6,Y7,ren,↓reduceIte,J1,J2,J3,J4,J5,J6,J7,J8,J9,reduceCtorEq,K1,K2,K3,K4,Y8,Y9,X2,X3,X4,hlen]
        rw [hins]
        exact snoc_rows os (a.1, a.2)
      simp only; omega
    have hins := insM_new (c := a.1) (v := a.2) hoa hall (fun k' hk' => absurd h2 (by omega))
    have hlen : (insM a.1 a.2 os).length = os.length + 1 := by rw [hins, X6]; rfl
    simp only [vx,T,K5,J0,K6,K7,↓reduceIte,J1,J2,J3,J4,J5,J6,J7,J8,J9,reduceCtorEq,K1,K2,K3,K4,fR0,fR1,fR2,fR3,fR4,← ha]
    refine Cg (cloneZ_spec a.2 (by omega)) ?_
    simp only [vx,T,K5,J0,K6,K7,↓reduceIte,J1,J2,J3,J4,J5,J6,J7,J8,J9,reduceCtorEq,K1,K2,K3,K4,QV,QC]
    simp only [i1]
    refine ⟨by omega, Lq ⟨(i + 1, insM a.1 a.2 os), by simp only; omega, hstep.symm⟩ ?_ ?_⟩
    · refine Sa ?_; simp only [rx,Y0,Y1,Y2,Y3,Y4,Y5,Y6,Y7,ren,↓reduceIte,J1,J2,J3,J4,J5,J6,J7,J8,J9,reduceCtorEq,K1,K2,K3,K4,Y8,Y9,X2,X3,X4,hlen]
      rw [hins]
      exact snoc_rows os (a.1, a.2)
    simp only; omega
  have hiN : i = N := by omega
  have hfin : os = norL ys [] := by rw [hos, hiN, ← hyl, List.take_length]
  have hq : QOk os := fun m hm => by have := (hom m hm).1; omega
  have hres : os.filter qn = norM l := by
    rw [hfin, ← norM_perm hp]; rfl
  simp only [vx,T,K5,J0,K6,K7,↓reduceIte,J1,J2,J3,J4,J5,J6,J7,J8,J9,reduceCtorEq,K1,K2,K3,K4]
  refine Cm 1 rfl trivial (DeleteFunc_spec os rfl (by omega) hq) ?_
  rintro _ _ ⟨k, f, rfl, rfl, hk1, hk2, hf⟩ _
  simp only [vx,T,K5,J0,K6,K7,↓reduceIte,J1,J2,J3,J4,J5,J6,J7,J8,J9,reduceCtorEq,K1,K2,K3,K4]
  rw [hres] at hk2 hf
  refine ⟨k, _, rfl, hk2, fun i' j' hi' hj' => ?_⟩
  exact hf i' j' hi' hj'
open Go Go.Eng
theorem concatP2 (p q : List Mono) (hl : p.length + q.length < 2 ^ 38) : Fr Tryz.prog 65 [.one (.rows 1 2 (fun i j => [PC p, PC q].getD (i * 1 + j) .any))] (.rows 57 5 (p ++ q).length (fR (p ++ q))) := by
  have h := concatP_spec [p, q] (by simpa using hl) (by simp)
  rw [show [p, q].flatten = p ++ q by simp] at h
  refine freshArgs h ⟨.cell (CLe.rows rfl fun i j hi hj => CLe.of_eq ?_), trivial⟩
  have : j = 0 := by omega
  subst this
  match i, hi with
  | 0, _ => rfl
  | 1, _ => rfl
theorem concatZ2 (p q : List Int) (hl : p.length + q.length < 2 ^ 38) : Fr Tryz.prog 45 [.one (.rows 1 2 (fun i j => [C.ints .i64 p, C.ints .i64 q].getD (i * 1 + j) .any))] (.ints 3 .i64 (p ++ q)) := by
  have h := concatZ_spec [p, q] (by simpa using hl) (by simp)
  rw [show [p, q].flatten = p ++ q by simp] at h
  refine freshArgs h ⟨.cell (CLe.rows rfl fun i j hi hj => CLe.of_eq ?_), trivial⟩
  have : j = 0 := by omega
  subst this
  match i, hi with
  | 0, _ => rfl
  | 1, _ => rfl
theorem iAddP_spec {p q : List Mono} {n d B n' d' B' : Nat} (hp : PB p n d B) (hq : PB q n' d' B') (hd : max d d' < 2 ^ 30) (hn : (n + n') * (max B B' + 1) < 2 ^ 30) (hB : max B B' < 2 ^ 30) : Pr Tryz.prog 35 [PV p, PV q] (PV (norM (p ++ q))) := by
  have hl : n + n' < 2 ^ 30 := Nat.lt_of_le_of_lt (Nat.le_mul_of_pos_right _ (by omega)) hn
  have hpl := hp.n
  have hql := hq.n
  refine pv T_ok mixed Tryz.func35 rfl (by decide) _ (by simp [Tryz.ntmps35]) ⟨[0, 1, 4], []⟩ (by kernel_rfl) _ ?_
  show vc T _ _ (Option.get! Tryz.f35.body) _ _
  simp only [Tryz.f35,Tryz.ntmps35,Option.get!,iS,iM,eO,J1]
  simp only [vx,T,K5,J0,K6,K7,↓reduceIte,J1,J2,J3,J4,J5,J6,J7,J8,J9,reduceCtorEq,K1,K2,K3,K4,PV,PC]
  refine CallK.fresh (concatP2 p q (by omega)) ?_
  simp only [vx,T,K5,J0,K6,K7,↓reduceIte,J1,J2,J3,J4,J5,J6,J7,J8,J9,reduceCtorEq,K1,K2,K3,K4]
  refine Cm 5 rfl trivial (normal_spec (hp.append hq) hn hl hB hd rfl) ?_
  rintro _ _ ⟨k, f, rfl, hk, hf⟩ _
  simp only [vx,T,K5,J0,K6,K7,↓reduceIte,J1,J2,J3,J4,J5,J6,J7,J8,J9,reduceCtorEq,K1,K2,K3,K4]
  exact Va ⟨rfl, hk, hf⟩
theorem Index_spec (xs : List Int) (v : Int) (hl : xs.length < 2 ^ 38) (hv : v ∈ xs) : Pr Tryz.prog 44 [.one (.ints .i64 xs), .one (.int .i64 v)] (.one (.int .i64 (xs.idxOf v : Nat))) := by
  refine pv T_ok mixed Tryz.func44 rfl (by decide) _ (by simp [Tryz.ntmps44]) ⟨[0, 1, 4, 5, 7, 8, 9, 16], []⟩ (by kernel_rfl) _ ?_
  show vc T _ _ (Option.get! Tryz.f44.body) _ _
  simp only [Tryz.f44,Tryz.ntmps44,Option.get!,iS,iM,eO,J1]
  simp only [vx,T,K5,J0,K6,K7,↓reduceIte,J1,J2,J3,J4,J5,J6,J7,J8,J9,reduceCtorEq,K1,K2,K3,K4]
  refine Lk (fun y : {i : Nat // i ≤ xs.length ∧ ∀ k, k < i → xs.getD k 0 ≠ v} => ⟨[(0, .one (.ints .i64 xs)), (1, .one (.int .i64 v)), (7, .one (.int .i64 xs.length)), (8, .one (.int .i64 y.1))], [], 1, 19⟩) (fun y => xs.length - y.1) ⟨0, Nat.zero_le _, fun k h => absurd h (Nat.not_lt_zero _)⟩ ?_ (fun ⟨i, hi, hz⟩ => ?_)
  · refine Sa ?_; simp only [rx,Y0,Y1,Y2,Y3,Y4,Y5,Y6,Y7,ren,↓reduceIte,J1,J2,J3,J4,J5,J6,J7,J8,J9,reduceCtorEq,K1,K2,K3,K4,Y8,Y9,X2,X3,X4]
  have i1 := wI i (by omega)
  simp only [vx,T,K5,J0,K6,K7,↓reduceIte,J1,J2,J3,J4,J5,J6,J7,J8,J9,reduceCtorEq,K1,K2,K3,K4]
  refine ⟨fun h1 => Lg ?_, fun h1 => Lg ?_⟩
  · simp only [vx,T,K5,J0,K6,K7,↓reduceIte,J1,J2,J3,J4,J5,J6,J7,J8,J9,reduceCtorEq,K1,K2,K3,K4]
    refine ⟨by omega, ?_⟩
    refine ⟨fun h2 => Lg ?_, fun h2 => Lg ?_⟩
    · have e1 : xs.idxOf v = i := by
        unfold List.idxOf
        rw [List.findIdx_eq (by omega)]
        refine ⟨by have e := h2; rw [X7, X8 (by omega)] at e; simpa using e.symm, fun j hj => ?_⟩
        have := hz j hj
        rw [X7, X8 (by omega)] at this
        simpa using this
      simp only [vx,T,K5,J0,K6,K7,↓reduceIte,J1,J2,J3,J4,J5,J6,J7,J8,J9,reduceCtorEq,K1,K2,K3,K4,e1]
      exact Ve rfl
    simp only [vx,T,K5,J0,K6,K7,↓reduceIte,J1,J2,J3,J4,J5,J6,J7,J8,J9,reduceCtorEq,K1,K2,K3,K4]
    simp only [i1]
    refine Lq ⟨i + 1, by omega, fun k hk => ?_⟩ ?_ ?_
    · by_cases h3 : k < i
      · exact hz k h3
      rw [show k = i by omega]; exact fun e => h2 e.symm
    · refine Sa ?_; simp only [rx,Y0,Y1,Y2,Y3,Y4,Y5,Y6,Y7,ren,↓reduceIte,J1,J2,J3,J4,J5,J6,J7,J8,J9,reduceCtorEq,K1,K2,K3,K4,Y8,Y9,X2,X3,X4]
    simp only; omega
  exfalso
  obtain ⟨k, hk, rfl⟩ := List.mem_iff_getElem.1 hv
  refine hz k (by omega) ?_
  rw [X7, X8 hk]; rfl
theorem pb_derP {p : List Mono} {n d B : Nat} (h : PB p n d B) (hd : d < 2 ^ 30) (v : Int) : PB (derP p v) n d (B + 2) := by
  refine ⟨?_, fun m hm => ?_⟩
  · have : ∀ l : List Mono, (derP l v).length ≤ l.length := by
      intro l
      induction l with
      | nil => exact Nat.le_refl _
      | cons m r ih =>
        have e : derP (m :: r) v = (if m.2.count v = 0 then [] else [(m.1 * (m.2.count v : Nat), m.2.erase v)]) ++ derP r v := by unfold derP; rw [List.flatMap_cons]
        rw [e, X6, List.length_cons]
        split <;> simp only [List.length_nil,List.length_cons] <;> omega
    exact Nat.le_trans (this p) h.n
  obtain ⟨x, hx, he⟩ := List.mem_flatMap.1 hm
  split at he
  · cases he
  obtain rfl := List.mem_singleton.1 he
  have h1 := h.m x hx
  have h2 := qm_mul x.1 ((x.2.count v : Nat) : Rat)
  have h3 : qm ((x.2.count v : Nat) : Rat) ≤ 2 := qm_ofInt (z := (x.2.count v : Nat)) (by have := List.count_le_length (a := v) (l := x.2); omega)
  exact ⟨by simp only; omega, Nat.le_trans List.length_erase_le h1.2.1, fun y hy => h1.2.2 y (List.mem_of_mem_erase hy)⟩
theorem take_drop_erase {l : List Int} {v : Int} : l.take (l.idxOf v) ++ l.drop (l.idxOf v + 1) = l.erase v := by
  rw [← List.eraseIdx_eq_take_drop_succ]; exact (List.erase_eq_eraseIdx_of_idxOf rfl).symm
theorem count_step {l : List Int} {v : Int} {j : Nat} (h : j < l.length) : (l.take (j + 1)).count v = (l.take j).count v + (if l.getD j 0 = v then 1 else 0) := by
  rw [List.take_add_one, List.count_append, X8 h, X7, X8 h]
  simp [List.count_singleton]
theorem iDer_spec {p : List Mono} {n d B : Nat} (v : Int) (hp : PB p n d B) (hd : d < 2 ^ 30) (hn : n * (B + 3) < 2 ^ 30) (hB : B < 2 ^ 29) : Pr Tryz.prog 15 [PV p, .one (.int .i64 v)] (PV (derM p v)) := by
  have hpl := hp.n
  have hn1 : n < 2 ^ 30 := Nat.lt_of_le_of_lt (Nat.le_mul_of_pos_right _ (by omega)) hn
  refine pv T_ok mixed Tryz.func15 rfl (by decide) _ (by simp [Tryz.ntmps15]) ⟨[0, 1, 4, 5, 7, 8, 10, 11, 12, 13, 14, 15, 16, 20, 21, 22, 23, 28, 33], []⟩ (by kernel_rfl) _ ?_
  show vc T _ _ (Option.get! Tryz.f15.body) _ _
  simp only [Tryz.f15,Tryz.ntmps15,Option.get!,iS,iM,eO,J1]
  simp only [vx,T,K5,J0,K6,K7,↓reduceIte,J1,J2,J3,J4,J5,J6,J7,J8,J9,reduceCtorEq,K1,K2,K3,K4,PV,PC]
  refine Lk (fun y : {y : Nat × List Mono // y.1 ≤ p.length ∧ y.2 = derP (p.take y.1) v ∧ y.2.length ≤ y.1} => ⟨[(1, .one (.int .i64 v)), (4, .one .nil), (5, .one (.own 1 5 0 y.1.2.length)), (13, PV p), (14, .one (.int .i64 p.length)), (15, .one (.int .i64 y.1.1))], [(1, ⟨.rows 57 5 y.1.2.length (fR y.1.2), true⟩)], 5, 62⟩) (fun y => p.length - y.1.1) ⟨(0, []), by omega, rfl, by simp⟩ ?_ (fun ⟨⟨i, ls⟩, hi, hls, hll⟩ => ?_)
  · refine Sa ?_; simp only [rx,Y0,Y1,Y2,Y3,Y4,Y5,Y6,Y7,ren,↓reduceIte,J1,J2,J3,J4,J5,J6,J7,J8,J9,reduceCtorEq,K1,K2,K3,K4,Y8,Y9,X2,X3,X4,PV,PC]
  simp only at hi hls hll
  simp only [vx,T,K5,J0,K6,K7,↓reduceIte,J1,J2,J3,J4,J5,J6,J7,J8,J9,reduceCtorEq,K1,K2,K3,K4,PV,PC]
  refine ⟨fun h1 => Lg ?_, fun h1 => Lg ?_⟩
  · have hil : i < p.length := by omega
    have i1 := wI i (by omega)
    obtain ⟨a, ha⟩ : ∃ a, a = p.getD i default := ⟨_, rfl⟩
    have hpi := hp.get hil
    have hstep : derP (p.take (i + 1)) v = derP (p.take i) v ++ (if (p.getD i default).2.count v = 0 then [] else [((p.getD i default).1 * ((p.getD i default).2.count v : Nat), (p.getD i default).2.erase v)]) := take_flatMap_step (fun m : Mono => if m.2.count v = 0 then [] else [(m.1 * (m.2.count v : Nat), m.2.erase v)]) hil
    rw [← ha] at hstep hpi
    rw [← hls] at hstep
    simp only [vx,T,K5,J0,K6,K7,↓reduceIte,J1,J2,J3,J4,J5,J6,J7,J8,J9,reduceCtorEq,K1,K2,K3,K4,PV,PC,← ha,mC]
    refine ⟨by omega, Lk (fun y : {j : Nat // j ≤ a.2.length} => ⟨[(1, .one (.int .i64 v)), (4, .one .nil), (5, .one (.own 1 5 0 ls.length)), (7, .one (.ptr 2 0)), (8, .one (.int .i64 ((a.2.take y.1).count v : Nat))), (13, PV p), (14, .one (.int .i64 p.length)), (15, .one (.int .i64 i)), (20, .one (.ints .i64 a.2)), (21, .one (.int .i64 a.2.length)), (22, .one (.int .i64 y.1))], [(1, ⟨.rows 57 5 ls.length (fR ls), true⟩), (2, ⟨.var (mL a), true⟩)], 5, 62⟩) (fun y => a.2.length - y.1) ⟨0, Nat.zero_le _⟩ ?_ (fun ⟨j, hj⟩ => ?_)⟩
    · refine Sa ?_; simp only [rx,Y0,Y1,Y2,Y3,Y4,Y5,Y6,Y7,ren,↓reduceIte,J1,J2,J3,J4,J5,J6,J7,J8,J9,reduceCtorEq,K1,K2,K3,K4,Y8,Y9,X2,X3,X4,PV,PC,mL]
      rfl
    have hcj : (a.2.take j).count v ≤ j := Nat.le_trans List.count_le_length (by rw [X5]; omega)
    simp only [vx,T,K5,J0,K6,K7,↓reduceIte,J1,J2,J3,J4,J5,J6,J7,J8,J9,reduceCtorEq,K1,K2,K3,K4,PV,PC,mL]
    refine ⟨fun h2 => Lg ?_, fun h2 => Lg ?_⟩
    · have j1 : IntKind.i64.wrap ((j : Int) + 1) = ((j + 1 : Nat) : Int) := by rw [IntWalk.i64_in _ (by omega)]; omega
      have c1 : IntKind.i64.wrap (((a.2.take j).count v : Int) + 1) = (((a.2.take j).count v + 1 : Nat) : Int) := by rw [IntWalk.i64_in _ (by omega)]; omega
      have hcs := count_step (l := a.2) (v := v) (j := j) (by omega)
      simp only [vx,T,K5,J0,K6,K7,↓reduceIte,J1,J2,J3,J4,J5,J6,J7,J8,J9,reduceCtorEq,K1,K2,K3,K4,PV,PC,mL]
      refine ⟨by omega, ?_⟩
      refine ⟨fun h3 => Lg ?_, fun h3 => Lg ?_⟩
      · rw [if_pos h3] at hcs
        simp only [vx,T,K5,J0,K6,K7,↓reduceIte,J1,J2,J3,J4,J5,J6,J7,J8,J9,reduceCtorEq,K1,K2,K3,K4,PV,PC,mL]
        simp only [j1,c1]
        rw [← hcs]
        refine Lq ⟨j + 1, by omega⟩ ?_ ?_
        · refine Sa ?_; simp only [rx,Y0,Y1,Y2,Y3,Y4,Y5,Y6,Y7,ren,↓reduceIte,J1,J2,J3,J4,J5,J6,J7,J8,J9,reduceCtorEq,K1,K2,K3,K4,Y8,Y9,X2,X3,X4,PV,PC,mL]
        simp only; omega
      have hcs : (a.2.take (j + 1)).count v = (a.2.take j).count v := by rw [hcs, if_neg h3]; rfl
      simp only [vx,T,K5,J0,K6,K7,↓reduceIte,J1,J2,J3,J4,J5,J6,J7,J8,J9,reduceCtorEq,K1,K2,K3,K4,PV,PC,mL]
      simp only [j1]
      rw [← hcs]
      refine Lq ⟨j + 1, by omega⟩ ?_ ?_
      · refine Sa ?_; simp only [rx,Y0,Y1,Y2,Y3,Y4,Y5,Y6,Y7,ren,↓reduceIte,J1,J2,J3,J4,J5,J6,J7,J8,J9,reduceCtorEq,K1,K2,K3,K4,Y8,Y9,X2,X3,X4,PV,PC,mL]
      simp only; omega
    have hja : a.2.take j = a.2 := List.take_of_length_le (by omega)
    rw [hja] at hcj ⊢
    simp only [vx,T,K5,J0,K6,K7,↓reduceIte,J1,J2,J3,J4,J5,J6,J7,J8,J9,reduceCtorEq,K1,K2,K3,K4,PV,PC,mL]
    refine ⟨fun h3 => Lg ?_, fun h3 => Lg ?_⟩
    · rw [if_pos (by omega), List.append_nil] at hstep
      simp only [vx,T,K5,J0,K6,K7,↓reduceIte,J1,J2,J3,J4,J5,J6,J7,J8,J9,reduceCtorEq,K1,K2,K3,K4,PV,PC,mL]
      simp only [i1]
      refine Lq ⟨(i + 1, ls), by simp only; omega, hstep.symm, by simp only; omega⟩ ?_ ?_
      · refine Sa ?_; simp only [rx,Y0,Y1,Y2,Y3,Y4,Y5,Y6,Y7,ren,↓reduceIte,J1,J2,J3,J4,J5,J6,J7,J8,J9,reduceCtorEq,K1,K2,K3,K4,Y8,Y9,X2,X3,X4,PV,PC,mL]
      simp only; omega
    have hcv : a.2.count v ≠ 0 := by omega
    have hva : v ∈ a.2 := by
      rcases Nat.eq_zero_or_pos (a.2.count v) with h | h
      · exact absurd h hcv
      exact List.count_pos_iff.1 h
    rw [if_neg hcv] at hstep
    have hix : a.2.idxOf v < a.2.length := List.idxOf_lt_length_of_mem hva
    have hte := take_drop_erase (l := a.2) (v := v)
    obtain ⟨x, hx⟩ : ∃ x, x = a.2.idxOf v := ⟨_, rfl⟩
    have hidx := Index_spec a.2 v (by omega) hva
    rw [← hx] at hix hte hidx
    have x1 : IntKind.i64.wrap ((x : Int) + 1) = ((x + 1 : Nat) : Int) := by rw [IntWalk.i64_in _ (by omega)]; omega
    have e7 : (a.2.drop (x + 1)).take ((a.2.length : Int) - ((x + 1 : Nat) : Int)).toNat = a.2.drop (x + 1) := by
      rw [List.take_of_length_le]
      rw [List.length_drop]; omega
    simp only [vx,T,K5,J0,K6,K7,↓reduceIte,J1,J2,J3,J4,J5,J6,J7,J8,J9,reduceCtorEq,K1,K2,K3,K4,PV,PC,mL]
    refine Cg hidx ?_
    simp only [vx,T,K5,J0,K6,K7,↓reduceIte,J1,J2,J3,J4,J5,J6,J7,J8,J9,reduceCtorEq,K1,K2,K3,K4,PV,PC,mL,x1]
    simp only [e7]
    refine ⟨by omega, by omega, CallK.fresh (concatZ2 _ _ (by rw [X5, List.length_drop]; omega)) ?_⟩
    rw [hte]
    simp only [vx,T,K5,J0,K6,K7,↓reduceIte,J1,J2,J3,J4,J5,J6,J7,J8,J9,reduceCtorEq,K1,K2,K3,K4,PV,PC,mL]
    refine Cg (iQFromInt_spec (a.2.count v : Nat) (by omega) (by omega)) ?_
    simp only [vx,T,K5,J0,K6,K7,↓reduceIte,J1,J2,J3,J4,J5,J6,J7,J8,J9,reduceCtorEq,K1,K2,K3,K4,QV,QC]
    refine Cg (iQMul_spec a.1 (Rat.ofInt (a.2.count v : Nat)) (by omega) (Nat.lt_of_le_of_lt (qm_ofInt (by omega)) (by decide))) ?_
    have hcast : Rat.ofInt ((a.2.count v : Nat) : Int) = ((a.2.count v : Nat) : Rat) := rfl
    rw [hcast]
    obtain ⟨c, hc⟩ : ∃ c, c = a.1 * ((a.2.count v : Nat) : Rat) := ⟨_, rfl⟩
    rw [← hc] at hstep ⊢
    have hlen : (ls ++ [(c, a.2.erase v)]).length = ls.length + 1 := by simp
    simp only [vx,T,K5,J0,K6,K7,↓reduceIte,J1,J2,J3,J4,J5,J6,J7,J8,J9,reduceCtorEq,K1,K2,K3,K4,QV,QC]
    simp only [i1]
    refine ⟨by omega, Lq ⟨(i + 1, ls ++ [(c, a.2.erase v)]), by simp only; omega, hstep.symm, by simp only; omega⟩ ?_ ?_⟩
    · refine Sa ?_; simp only [rx,Y0,Y1,Y2,Y3,Y4,Y5,Y6,Y7,ren,↓reduceIte,J1,J2,J3,J4,J5,J6,J7,J8,J9,reduceCtorEq,K1,K2,K3,K4,Y8,Y9,X2,X3,X4,PV,PC,mL,hlen]
      exact snoc_rows ls (c, a.2.erase v)
    simp only; omega
  have hil : i = p.length := by omega
  have e1 : ls = derP p v := by rw [hls, hil, List.take_length]
  subst e1
  simp only [vx,T,K5,J0,K6,K7,↓reduceIte,J1,J2,J3,J4,J5,J6,J7,J8,J9,reduceCtorEq,K1,K2,K3,K4]
  refine Cm 1 rfl trivial (normal_spec (pb_derP hp hd v) (by omega) hn1 (by omega) hd rfl) ?_
  rintro _ _ ⟨k, f, rfl, hk, hf⟩ _
  simp only [vx,T,K5,J0,K6,K7,↓reduceIte,J1,J2,J3,J4,J5,J6,J7,J8,J9,reduceCtorEq,K1,K2,K3,K4,PV,PC]
  exact Va ⟨rfl, hk, hf⟩
end Go.Proofs.YtpogdlmhmafjlaaGreat
/-
  slices.Sort of integers, as a function that turns a block.
-/
namespace Go.Proofs.YtpogdlmhmafjlaaGreat
open Go Go.Proofs Go.Eng Go.Sort
theorem mergeSort_srtZ (xs : List Int) : (xs.mergeSort fun x y => decide (x ≤ y)) = srtZ xs := rfl
def SortR (e : TypeId) (xs : List Int) (r : V) (B' : Bk) : Prop := r = .tup [] ∧ B' = .ints e .i64 (srtZ xs)
theorem heap_mapBlock_other (w : World) (blk k : Nat) (f : Array Value → Array Value) (h : k ≠ blk) : (mapBlock w blk f).heap[k]? = w.heap[k]? := by
  simp only [mapBlock,Array.getElem?_modify]
  rw [if_neg (fun e => h e.symm)]
theorem heap_mapBlock_same (w : World) (blk : Nat) (f : Array Value → Array Value) {c : Array Value} {e : TypeId} {fr : Nat × Nat} (h : w.heap[blk]? = some (.cells c e fr)) : (mapBlock w blk f).heap[blk]? = some (.cells (f c) e fr) := by
  simp [mapBlock, Array.getElem?_modify, h, onCells]
theorem sortZ_spec (e : TypeId) (xs : List Int) (hl : xs.length < 2 ^ 38) : Mc Tryz.prog 64 [.one (.own 0 1 0 xs.length)] (.ints e .i64 xs) (SortR e xs) := by
  refine ⟨⟨_, Tryz.func64, by rfl, by rfl⟩, fun ok w vs l hok hll hla hb hr => ?_⟩
  obtain ⟨vs⟩ := vs
  match vs, hr with
  | [v], hr =>
    obtain ⟨⟨_, _, cap, hcap, hv⟩, _⟩ := hr
    have hsl : (srtZ xs).length = xs.length := srtZ_length xs
    by_cases h0 : xs.length = 0
    · have hx : xs = [] := List.eq_nil_of_length_eq_zero h0
      subst hx
      have hv2 : ∃ p c, v = .slice p 0 c := by
        rcases hv with ⟨g, o, o', _, rfl, _⟩ | ⟨_, rfl, _⟩
        · exact ⟨_, _, rfl⟩
        exact ⟨_, _, rfl⟩
      obtain ⟨p, c, rfl⟩ := hv2
      refine (Tryz.slices_Sort_int_none p c w).mono ?_
      rintro e1 w' ⟨rfl, rfl⟩
      have hs0 : srtZ [] = [] := List.eq_nil_of_length_eq_zero hsl
      refine ⟨_, .tup [], .ints e .i64 [], rfl, ⟨rfl, by rw [hs0]⟩, trivial, rfl, ⟨rfl, rfl, rfl, Nat.le_refl _, fun _ _ _ => rfl, fun _ => Nat.le_refl _⟩, ?_, ⟨#[], rfl, trivial⟩⟩
      refine RepBk.ext (Ext.of_imp fun g hg => .inl hg) ⟨fun _ h => h, fun _ _ => rfl⟩ l _ (fun _ _ _ => rfl) hb
    rcases hv with ⟨g, o, o', ha, rfl, ho, hroom⟩ | ⟨_, _, h1, _⟩
    · have ho' : o' = o := by rcases ho with ho | ho <;> omega
      subst ho'
      unfold RepBk at hb
      rw [ha] at hb
      obtain ⟨cur, e', hg, hcell⟩ := hb
      have hgl := (hla g o' ha).1
      have hx : ∀ j, j < xs.length → cur[o' + j]? = some (.int .i64 (xs.getD j 0)) := by
        intro j hj
        obtain ⟨u, hu, hru⟩ := hcell j (.int .i64 (xs.getD j 0)) (by simp [Bk.cell, X8 hj])
        have hru : u = .int .i64 (xs.getD j 0) := hru
        rw [hu, hru]
      have hH : Holds (Value.int .i64) w g o' xs.toArray := by
        intro j hj
        have hj : j < xs.length := by simpa using hj
        refine ⟨?_, ?_⟩
        · rw [World.cell?, hg]
          simp only [Option.isSome_none,Bool.false_eq_true,if_false]
          rw [hx j hj]
          congr 2
          simp [X7, hj]
        simp only [World.frozen?,hg]
        simp
      refine (Tryz.slices_Sort_int g o' cap xs w hH hgl (by omega)).mono ?_
      rintro e1 w' ⟨rfl, n, os, rfl⟩
      rw [mergeSort_srtZ]
      have hgl' : g < (putRow (Value.int .i64) (Sort.ahead w n) g o' (srtZ xs).toArray).heap.size := by simpa using hgl
      have hgs : (putRow (Value.int .i64) (Sort.ahead w n) g o' (srtZ xs).toArray).heap[g]? = some (.cells (putCells (Value.int .i64) o' (srtZ xs).toArray cur) e' (0, 0)) := heap_mapBlock_same (Sort.ahead w n) g _ hg
      refine ⟨_, .tup [], .ints e .i64 (srtZ xs), rfl, ⟨rfl, rfl⟩, trivial, hsl, ⟨rfl, rfl, rfl, by simp, fun k hk hne => ?_, fun g' => ?_⟩, ?_, ⟨#[], rfl, trivial⟩⟩
      · rw [heap_grow_old _ _ (by simpa using hk)]
        exact heap_mapBlock_other (Sort.ahead w n) g k _ (fun e => hne o' (by rw [e]; exact ha))
      · by_cases hg' : g' < w.heap.size
        · by_cases hgg : g' = g
          · subst hgg
            simp only [rowSize,heap_grow_old _ _ hgl',hgs,hg,putCells]
            simp
          rw [rowSize_of_block (w' := grow _ os) (w := w) (by rw [heap_grow_old _ _ (by simpa using hg')]; exact heap_mapBlock_other (Sort.ahead w n) g g' _ hgg)]
          exact Nat.le_refl _
        rw [rowSize_lt hg']; exact Nat.zero_le _
      unfold RepBk
      rw [ha]
      refine ⟨_, e', by rw [heap_grow_old _ _ hgl']; exact hgs, fun j c hj => ?_⟩
      simp only [Bk.cell] at hj
      have hjl : j < (srtZ xs).length := by
        rcases Nat.lt_or_ge j (srtZ xs).length with h | h
        · exact h
        rw [List.getElem?_eq_none h] at hj; cases hj
      rw [X8 hjl] at hj
      simp only [Option.map_some,Option.some.injEq] at hj
      subst hj
      refine ⟨.int .i64 ((srtZ xs)[j]), ?_, rfl⟩
      have hc := hx j (by omega)
      simp only [putCells,Array.getElem?_mapIdx,hc,Option.map_some]
      rw [if_pos ⟨by omega, by simp; omega⟩]
      congr 2
      simp [hjl]
    exact absurd h1 h0
open Go Go.Eng
theorem iMulP_spec {p q : List Mono} {n d B n' d' B' : Nat} (hp : PB p n d B) (hq : PB q n' d' B') (hd : d + d' < 2 ^ 30) (hn : n * n' * (B + B' + 1) < 2 ^ 30) (hn1 : n < 2 ^ 30) (hn2 : n' < 2 ^ 30) (hB : B + B' < 2 ^ 30) : Pr Tryz.prog 34 [PV p, PV q] (PV (mulM p q)) := by
  have hpl := hp.n
  have hql := hq.n
  obtain ⟨g, hg⟩ : ∃ g : Mono → Mono → Mono, g = fun a b => (a.1 * b.1, srtZ (a.2 ++ b.2)) := ⟨_, rfl⟩
  have hnn : n * n' < 2 ^ 30 := Nat.lt_of_le_of_lt (Nat.le_mul_of_pos_right _ (by omega)) hn
  have hL : p.length * q.length ≤ n * n' := Nat.mul_le_mul hpl hql
  have hlen : ∀ x, x ≤ p.length → ((p.take x).flatMap fun a => q.map (g a)).length = x * q.length := by
    intro x hx
    have : ∀ l : List Mono, (l.flatMap fun a => q.map (g a)).length = l.length * q.length := by
      intro l
      induction l with
      | nil => simp
      | cons a l ih => rw [List.flatMap_cons, X6, ih, List.length_map, List.length_cons, Nat.add_mul]; omega
    rw [this, X5, Nat.min_eq_left hx]
  refine pv T_ok mixed Tryz.func34 rfl (by decide) _ (by simp [Tryz.ntmps34]) ⟨[0, 1, 4, 5, 7, 9, 10, 11, 12, 13, 14, 17, 18, 19, 20], []⟩ (by kernel_rfl) _ ?_
  show vc T _ _ (Option.get! Tryz.f34.body) _ _
  simp only [Tryz.f34,Tryz.ntmps34,Option.get!,iS,iM,eO,J1]
  simp only [vx,T,K5,J0,K6,K7,↓reduceIte,J1,J2,J3,J4,J5,J6,J7,J8,J9,reduceCtorEq,K1,K2,K3,K4,PV,PC]
  refine Lk (fun y : {y : Nat × List Mono // y.1 ≤ p.length ∧ y.2 = (p.take y.1).flatMap fun a => q.map (g a)} => ⟨[(1, PV q), (4, .one .nil), (5, .one (.own 1 5 0 y.1.2.length)), (11, PV p), (12, .one (.int .i64 p.length)), (13, .one (.int .i64 y.1.1))], [(1, ⟨.rows 57 5 y.1.2.length (fR y.1.2), true⟩)], 5, 45⟩) (fun y => p.length - y.1.1) ⟨(0, []), by omega, rfl⟩ ?_ (fun ⟨⟨i, ls⟩, hi, hls⟩ => ?_)
  · refine Sa ?_; simp only [rx,Y0,Y1,Y2,Y3,Y4,Y5,Y6,Y7,ren,↓reduceIte,J1,J2,J3,J4,J5,J6,J7,J8,J9,reduceCtorEq,K1,K2,K3,K4,Y8,Y9,X2,X3,X4,PV,PC]
  simp only at hi hls
  simp only [vx,T,K5,J0,K6,K7,↓reduceIte,J1,J2,J3,J4,J5,J6,J7,J8,J9,reduceCtorEq,K1,K2,K3,K4,PV,PC]
  refine ⟨fun h1 => Lg ?_, fun h1 => Lg ?_⟩
  · have hil : i < p.length := by omega
    have i1 := wI i (by omega)
    obtain ⟨a, ha⟩ : ∃ a, a = p.getD i default := ⟨_, rfl⟩
    have hpi := hp.get hil
    have hstep := take_flatMap_step (fun a => q.map (g a)) hil
    rw [← ha] at hstep hpi
    rw [← hls] at hstep
    simp only [vx,T,K5,J0,K6,K7,↓reduceIte,J1,J2,J3,J4,J5,J6,J7,J8,J9,reduceCtorEq,K1,K2,K3,K4,PV,PC,← ha,mC]
    refine ⟨by omega, Lk (fun y : {y : Nat × List Mono // y.1 ≤ q.length ∧ y.2 = ls ++ (q.take y.1).map (g a)} => ⟨[(1, PV q), (4, .one .nil), (5, .one (.own 1 5 0 y.1.2.length)), (7, .one (.ptr 2 0)), (11, PV p), (12, .one (.int .i64 p.length)), (13, .one (.int .i64 i)), (17, PV q), (18, .one (.int .i64 q.length)), (19, .one (.int .i64 y.1.1))], [(1, ⟨.rows 57 5 y.1.2.length (fR y.1.2), true⟩), (2, ⟨.var (mL a), true⟩)], 5, 45⟩) (fun y => q.length - y.1.1) ⟨(0, ls), by omega, by simp⟩ ?_ (fun ⟨⟨k, ks⟩, hk, hks⟩ => ?_)⟩
    · refine Sa ?_; simp only [rx,Y0,Y1,Y2,Y3,Y4,Y5,Y6,Y7,ren,↓reduceIte,J1,J2,J3,J4,J5,J6,J7,J8,J9,reduceCtorEq,K1,K2,K3,K4,Y8,Y9,X2,X3,X4,PV,PC,mL]
    simp only at hk hks
    simp only [vx,T,K5,J0,K6,K7,↓reduceIte,J1,J2,J3,J4,J5,J6,J7,J8,J9,reduceCtorEq,K1,K2,K3,K4,PV,PC,mL]
    refine ⟨fun h2 => Lg ?_, fun h2 => Lg ?_⟩
    · have hkl : k < q.length := by omega
      have k1 : IntKind.i64.wrap ((k : Int) + 1) = ((k + 1 : Nat) : Int) := by rw [IntWalk.i64_in _ (by omega)]; omega
      obtain ⟨b, hb⟩ : ∃ b, b = q.getD k default := ⟨_, rfl⟩
      have hqk := hq.get hkl
      have hstep2 := take_map_step (g a) hkl
      rw [← hb] at hstep2 hqk
      have hll := hlen i hi
      rw [← hls] at hll
      have hks2 : ks.length = ls.length + k := by rw [hks, X6, List.length_map, X5]; omega
      have hil2 : (i + 1) * q.length ≤ p.length * q.length := Nat.mul_le_mul_right _ hil
      rw [Nat.add_mul] at hil2
      have e9 : (ks ++ [g a b]).length = ks.length + 1 := by simp
      have hab : (a.2 ++ b.2).length < 2 ^ 38 := by rw [X6]; omega
      simp only [vx,T,K5,J0,K6,K7,↓reduceIte,J1,J2,J3,J4,J5,J6,J7,J8,J9,reduceCtorEq,K1,K2,K3,K4,PV,PC,← hb,mC]
      refine ⟨by omega, CallK.fresh (concatZ2 a.2 b.2 (by omega)) ?_⟩
      simp only [vx,T,K5,J0,K6,K7,↓reduceIte,J1,J2,J3,J4,J5,J6,J7,J8,J9,reduceCtorEq,K1,K2,K3,K4,PV,PC,mL]
      refine Cm 14 rfl trivial (sortZ_spec 3 (a.2 ++ b.2) hab) ?_
      rintro _ _ ⟨rfl, rfl⟩ _
      obtain ⟨v, hv⟩ : ∃ v, v = srtZ (a.2 ++ b.2) := ⟨_, rfl⟩
      have hvl : v.length = (a.2 ++ b.2).length := by rw [hv, srtZ_length]
      have hgab : g a b = (a.1 * b.1, v) := by rw [hg, hv]
      rw [← hv, ← hvl]
      simp only [vx,T,K5,J0,K6,K7,↓reduceIte,J1,J2,J3,J4,J5,J6,J7,J8,J9,reduceCtorEq,K1,K2,K3,K4,PV,PC,mL]
      refine Cg (iQMul_spec a.1 b.1 (by omega) (by omega)) ?_
      simp only [vx,T,K5,J0,K6,K7,↓reduceIte,J1,J2,J3,J4,J5,J6,J7,J8,J9,reduceCtorEq,K1,K2,K3,K4,PV,PC,QV,QC]
      simp only [k1]
      refine ⟨by omega, Lq ⟨(k + 1, ks ++ [g a b]), by simp only; omega, by rw [hks, List.append_assoc, ← hstep2]⟩ ?_ ?_⟩
      · refine Sa ?_; simp only [rx,Y0,Y1,Y2,Y3,Y4,Y5,Y6,Y7,ren,↓reduceIte,J1,J2,J3,J4,J5,J6,J7,J8,J9,reduceCtorEq,K1,K2,K3,K4,Y8,Y9,X2,X3,X4,PV,PC,mL,e9]
        rw [hgab]
        exact snocR rfl (a.1 * b.1, v)
      simp only; omega
    have hkl : k = q.length := by omega
    simp only [vx,T,K5,J0,K6,K7,↓reduceIte,J1,J2,J3,J4,J5,J6,J7,J8,J9,reduceCtorEq,K1,K2,K3,K4,PV,PC]
    simp only [i1]
    refine Lq ⟨(i + 1, ks), by simp only; omega, by rw [hstep, hks, hkl, List.take_length]⟩ ?_ ?_
    · refine Sa ?_; simp only [rx,Y0,Y1,Y2,Y3,Y4,Y5,Y6,Y7,ren,↓reduceIte,J1,J2,J3,J4,J5,J6,J7,J8,J9,reduceCtorEq,K1,K2,K3,K4,Y8,Y9,X2,X3,X4,PV,PC]
    simp only; omega
  have hil : i = p.length := by omega
  have e1 : ls = srtM (mulL p q) := by
    rw [hls, hil, List.take_length, hg]
    unfold mulL
    rw [srtM_flatMap]
    refine flatMap_congr' fun a _ => ?_
    unfold srtM
    rw [List.map_map]; rfl
  subst e1
  simp only [vx,T,K5,J0,K6,K7,↓reduceIte,J1,J2,J3,J4,J5,J6,J7,J8,J9,reduceCtorEq,K1,K2,K3,K4]
  refine Cm 1 rfl trivial (normal_spec (hp.mulL hq).srtM hn hnn hB hd rfl) ?_
  rintro _ _ ⟨k, f, rfl, hk, hf⟩ _
  rw [← mulM_eq] at hk hf
  simp only [vx,T,K5,J0,K6,K7,↓reduceIte,J1,J2,J3,J4,J5,J6,J7,J8,J9,reduceCtorEq,K1,K2,K3,K4,PV,PC]
  exact Va ⟨rfl, hk, hf⟩
theorem PB.one {c : Rat} {v : List Int} {d B : Nat} (hc : qm c ≤ B) (hd : v.length ≤ d) (hv : In63 v) : PB [(c, v)] 1 d B :=
  ⟨Nat.le_refl _, fun m hm => by obtain rfl := List.mem_singleton.1 hm; exact ⟨hc, hd, hv⟩⟩
theorem in63_nil : In63 [] := fun x hx => by cases hx
theorem fresh_mut {P : Program} {f : FuncId} {g : Nat → Nat → C} {R : V → Bk → Prop} (h : Mc P f [.one (.own 0 5 0 1)] (.rows 57 5 1 g) R) {ok : Nat → Prop} {w : World} (hok : ∀ g, ok g → g < w.heap.size) (o1 : Obj) (cells : Array Value)
    (hs : cells.size = 5) (hrep : ∀ j, j < 5 → ∃ u, cells[j]? = some u ∧ RepI ok w (g 0 j) u) :
    Calls P f #[.slice (some ⟨w.heap.size + 1, 0, none⟩) 1 1] ((w.alloc o1).alloc (.cells cells 57)) fun e w' => ∃ v r B', e = .returned v ∧ R r B' ∧ Go.RowKit.Below w.heap.size w w' ∧
      ∀ k f, r = .one (.rows 5 k f) → RepI (fun g => ok g ∨ (w.heap.size ≤ g ∧ g < w'.heap.size)) w' (.rows 5 k f) v := by
  obtain ⟨W, hW⟩ : ∃ W, W = (w.alloc o1).alloc (.cells cells 57) := ⟨_, rfl⟩
  have hb1 := below_alloc w o1
  have hb2 := below_alloc (w.alloc o1) (.cells cells 57)
  have hWs : W.heap.size = w.heap.size + 2 := by rw [hW]; simp
  have hWg : W.heap[w.heap.size + 1]? = some (.cells cells 57 (0, 0)) := by
    rw [hW]
    have := heap_alloc_new (w.alloc o1) (.cells cells 57)
    simpa using this
  have hWk : ∀ k, k < w.heap.size → W.heap[k]? = w.heap[k]? := fun k hk => by
    rw [hW, hb2.block k (by simp; omega), hb1.block k hk]
  have hx : Ext ok ok w W := ⟨fun g hg => ⟨hg, hWk g (hok g hg)⟩, fun g => by
    by_cases hg : g < w.heap.size
    · rw [rowSize_of_block (hWk g hg)]; exact Nat.le_refl _
    rw [rowSize_lt hg]; exact Nat.zero_le _⟩
  rw [← hW]
  refine (h.2 ok W #[.slice (some ⟨w.heap.size + 1, 0, none⟩) 1 1] ⟨some (w.heap.size + 1, 0), 1⟩ (fun g hg => by have := hok g hg; omega) rfl (fun g o he => ?_) ?_ ⟨⟨rfl, Nat.le_refl _, 1, Nat.le_refl _, .inl ⟨w.heap.size + 1, 0, 0, rfl, rfl, .inr (by simp), ?_⟩⟩, trivial⟩).mono ?_
  · have : w.heap.size + 1 = g := by simpa using congrArg (Option.map Prod.fst) he
    subst this
    exact ⟨by omega, fun hg => by have := hok _ hg; omega⟩
  · unfold RepBk
    refine ⟨cells, 57, hWg, fun j c hj => ?_⟩
    simp only [Bk.cell] at hj
    split at hj
    · rename_i hj5
      obtain rfl := Option.some.inj hj
      obtain ⟨u, hu, hr⟩ := hrep j (by omega)
      rw [Nat.zero_add, show j / 5 = 0 by omega, show j % 5 = j by omega]
      exact ⟨u, hu, RepI.ext hx _ _ hr⟩
    cases hj
  · rw [rowSize_of hWg, hs]; exact Nat.le_refl _
  rintro e w' ⟨v, r, B', he, hR, _, _, hM, _, hv⟩
  refine ⟨v, r, B', he, hR, ?_, ?_⟩
  · have hsz := hM.size
    have ho : W.os = w.os ∧ W.tape = w.tape ∧ W.output = w.output := by rw [hW]; exact ⟨rfl, rfl, rfl⟩
    exact ⟨hM.os.trans ho.1, hM.tape.trans ho.2.1, hM.output.trans ho.2.2, by omega, fun k hk => (hM.block k (by omega) (fun o e => by
      have : w.heap.size + 1 = k := by simpa using congrArg (Option.map Prod.fst) e
      omega)).trans (hWk k hk)⟩
  rintro k f rfl
  have h1 : RepI (Eng.okM ok W w') w' (.rows 5 k f) v := hv
  exact RepI.ext (Ext.of_imp fun g hg => by rcases hg with hg | ⟨h1, h2⟩; exact .inl hg; exact .inr ⟨by omega, h2⟩) _ _ h1
set_option maxRecDepth 100000 in
theorem const_spec (c : Rat) {B : Nat} (hc : qm c ≤ B) (hB : B < 2 ^ 29) : Pr Tryz.prog 24 [QV c] (PV (norM [(c, [])])) := by
  have hm := normal_spec (PB.one (d := 0) hc (Nat.le_refl _) in63_nil) (by omega) (by decide) (by omega) (by decide) (rfl : [(c, ([] : List Int))].length = 1)
  refine ⟨⟨_, Tryz.func24, by rfl, by rfl⟩, fun ok w vs hok hr => ?_⟩
  obtain ⟨vs⟩ := vs
  match vs, hr with
  | [v], hr =>
    obtain ⟨⟨us, rfl, hl⟩, _⟩ := hr
    obtain ⟨us⟩ := us
    have hlen : us.length = 4 := (RepL.length hl).symm
    match us, hlen, hl with
    | [u0, u1, u2, u3], _, hl =>
      obtain ⟨h0, h1, h2, h3, _⟩ := hl
      have h0 : u0 = .bool (zs c.num) := h0
      have h2 : u2 = .bool (zs (c.den : Int)) := h2
      have h1 : RepI ok w (.ints .u32 (zm c.num)) u1 := RepI.of_loc0 h1
      have h3 : RepI ok w (.ints .u32 (zm (c.den : Int))) u3 := RepI.of_loc0 h3
      subst h0 h2
      have h1' := h1
      have h3' := h3
      obtain ⟨a1, c1, rfl, _, _⟩ := h1
      obtain ⟨a3, c3, rfl, _, _⟩ := h3
      have hm1 : Mc Tryz.prog 48 [.one (.own 0 5 0 1)] (.rows 57 5 1 (fR [(c, [])])) (NorR [(c, [])]) := hm
      have hcells : ∀ j, j < 5 → ∃ u, #[Value.bool (zs c.num), Value.slice a1 (zm c.num).length c1, Value.bool (zs ↑c.den), Value.slice a3 (zm ↑c.den).length c3, Value.slice none 0 0][j]? = some u ∧ RepI ok w (fR [(c, [])] 0 j) u := by
        intro j hj
        match j, hj with
        | 0, _ => exact ⟨_, rfl, rfl⟩
        | 1, _ => exact ⟨_, rfl, h1'⟩
        | 2, _ => exact ⟨_, rfl, rfl⟩
        | 3, _ => exact ⟨_, rfl, h3'⟩
        | 4, _ => exact ⟨_, rfl, CLe.nil_ints .i64 ok w _ rfl⟩
      clear hr hl hm
      go_enter Tryz.func24, Tryz.ntmps24
      go_wp2_with (go_at_call 48; refine (fresh_mut hm1 hok _ _ rfl hcells).mono ?_; rintro e w' ⟨v, r, B', rfl, ⟨k, f, rfl, hk, hf⟩, hB, hv⟩)
      go_ret
      refine ⟨v, rfl, hB, ?_⟩
      have h5 := hv k f rfl
      exact RepC.of_repI (ρ := loc0) (dom := dom0) (CLe.rows hk (fun i j hi hj => CLe.of_eq (hf i j hi hj)) _ _ _ h5)
theorem var_spec (v : Int) : Pr Tryz.prog 26 [.one (.int .i64 v)] (PV [(Rat.ofInt 1, [v])]) := by
  refine pv T_ok mixed Tryz.func26 rfl (by decide) _ (by simp [Tryz.ntmps26]) ⟨[0, 2], []⟩ (by kernel_rfl) _ ?_
  show vc T _ _ (Option.get! Tryz.f26.body) _ _
  simp only [Tryz.f26,Tryz.ntmps26,Option.get!,iS,iM,eO,J1]
  simp only [vx,T,K5,J0,K6,K7,↓reduceIte,J1,J2,J3,J4,J5,J6,J7,J8,J9,reduceCtorEq,K1,K2,K3,K4]
  refine Cg (iQFromInt_spec 1 (by decide) (by decide)) ?_
  simp only [vx,T,K5,J0,K6,K7,↓reduceIte,J1,J2,J3,J4,J5,J6,J7,J8,J9,reduceCtorEq,K1,K2,K3,K4,QV,QC]
  refine Va ⟨rfl, rfl, fun i j hi hj => ?_⟩
  obtain rfl : i = 0 := by omega
  show [C.bool _, C.ints .u32 _, C.bool _, C.ints .u32 _, C.ints .i64 [v]].getD (0 * 5 + j) C.any = mC (Rat.ofInt 1, [v]) j
  rw [Nat.zero_mul, Nat.zero_add]
  exact mC_list (Rat.ofInt 1, [v]) hj
def negM (q : List Mono) : List Mono := mulM (norM [(Rat.ofInt (-1), [])]) q
def subM (p q : List Mono) : List Mono := norM (p ++ negM q)
theorem qm_one : qm (Rat.ofInt 1) ≤ 2 := qm_ofInt (by decide)
theorem qm_neg : qm (Rat.ofInt (-1)) ≤ 2 := qm_ofInt (by decide)
theorem pb_neg {q : List Mono} {n d B : Nat} (hq : PB q n d B) : PB (negM q) n d (n * (B + 4)) := by
  have h := ((PB.one (d := 0) qm_neg (Nat.le_refl _) in63_nil).norM).mulM hq
  rw [Nat.one_mul, Nat.one_mul, Nat.zero_add] at h
  exact h.mono (Nat.le_refl _) (Nat.le_refl _) (Nat.mul_le_mul_left _ (by omega))
theorem pb_sub {p q : List Mono} {n d B n' d' B' : Nat} (hp : PB p n d B) (hq : PB q n' d' B') : PB (subM p q) (n + n') (max d d') ((n + n') * (max B (n' * (B' + 4)) + 1)) := (hp.append (pb_neg hq)).norM
theorem minus_spec {p q : List Mono} {n d B n' d' B' : Nat} (hp : PB p n d B) (hq : PB q n' d' B') (hd : max d d' < 2 ^ 30) (hn : (n + n') * (max B (n' * (B' + 4)) + 1) < 2 ^ 30) (hB : max B (n' * (B' + 4)) < 2 ^ 30) (hB' : B' < 2 ^ 28) (hn' : n' * (B' + 4) < 2 ^ 30) (hn2 : n' < 2 ^ 30) :
    Pr Tryz.prog 29 [PV p, PV q] (PV (subM p q)) := by
  have h1 := (PB.one (d := 0) qm_neg (Nat.le_refl _) in63_nil).norM
  have h2 := iMulP_spec h1 hq (by omega) (by rw [Nat.one_mul]; exact Nat.lt_of_le_of_lt (Nat.mul_le_mul_left _ (by omega)) hn') (by decide) hn2 (by omega)
  have h3 := iAddP_spec hp (pb_neg hq) hd hn hB
  refine pv T_ok mixed Tryz.func29 rfl (by decide) _ (by simp [Tryz.ntmps29]) ⟨[0, 1, 4], []⟩ (by kernel_rfl) _ ?_
  show vc T _ _ (Option.get! Tryz.f29.body) _ _
  simp only [Tryz.f29,Tryz.ntmps29,Option.get!,iS,iM,eO,J1]
  simp only [vx,T,K5,J0,K6,K7,↓reduceIte,J1,J2,J3,J4,J5,J6,J7,J8,J9,reduceCtorEq,K1,K2,K3,K4,PV,PC,QV,QC]
  refine Cg (iQFromInt_spec (-1) (by decide) (by decide)) ?_
  simp only [vx,T,K5,J0,K6,K7,↓reduceIte,J1,J2,J3,J4,J5,J6,J7,J8,J9,reduceCtorEq,K1,K2,K3,K4,PV,PC,QV,QC]
  refine Cg (const_spec (Rat.ofInt (-1)) qm_neg (by decide)) ?_
  simp only [vx,T,K5,J0,K6,K7,↓reduceIte,J1,J2,J3,J4,J5,J6,J7,J8,J9,reduceCtorEq,K1,K2,K3,K4,PV,PC,QV,QC]
  refine Cg h2 ?_
  simp only [vx,T,K5,J0,K6,K7,↓reduceIte,J1,J2,J3,J4,J5,J6,J7,J8,J9,reduceCtorEq,K1,K2,K3,K4,PV,PC,QV,QC]
  refine Cg h3 ?_
  simp only [vx,T,K5,J0,K6,K7,↓reduceIte,J1,J2,J3,J4,J5,J6,J7,J8,J9,reduceCtorEq,K1,K2,K3,K4,PV,PC,QV,QC]
  exact Ve rfl
theorem square_spec {p : List Mono} {n d B : Nat} (hp : PB p n d B) (hd : d + d < 2 ^ 30) (hn : n * n * (B + B + 1) < 2 ^ 30) (hn1 : n < 2 ^ 30) (hB : B + B < 2 ^ 30) : Pr Tryz.prog 32 [PV p] (PV (mulM p p)) := by
  refine pv T_ok mixed Tryz.func32 rfl (by decide) _ (by simp [Tryz.ntmps32]) ⟨[0, 2], []⟩ (by kernel_rfl) _ ?_
  show vc T _ _ (Option.get! Tryz.f32.body) _ _
  simp only [Tryz.f32,Tryz.ntmps32,Option.get!,iS,iM,eO,J1]
  simp only [vx,T,K5,J0,K6,K7,↓reduceIte,J1,J2,J3,J4,J5,J6,J7,J8,J9,reduceCtorEq,K1,K2,K3,K4,PV,PC,QV,QC]
  refine Cg (iMulP_spec hp hp hd hn hn1 hn1 hB) ?_
  simp only [vx,T,K5,J0,K6,K7,↓reduceIte,J1,J2,J3,J4,J5,J6,J7,J8,J9,reduceCtorEq,K1,K2,K3,K4,PV,PC,QV,QC]
  exact Ve rfl
def VV (a : List Mono × List Mono) : V := .agg [PC a.1, PC a.2]
theorem dot_spec (a b : List Mono × List Mono) {r : List Mono} (h1 : Pr Tryz.prog 34 [PV a.1, PV b.1] (PV (mulM a.1 b.1))) (h2 : Pr Tryz.prog 34 [PV a.2, PV b.2] (PV (mulM a.2 b.2)))
    (h3 : Pr Tryz.prog 35 [PV (mulM a.1 b.1), PV (mulM a.2 b.2)] (PV r)) : Pr Tryz.prog 31 [VV a, VV b] (PV r) := by
  refine pv T_ok mixed Tryz.func31 rfl (by decide) _ (by simp [Tryz.ntmps31]) ⟨[0, 1, 2, 3, 4], []⟩ (by kernel_rfl) _ ?_
  show vc T _ _ (Option.get! Tryz.f31.body) _ _
  simp only [Tryz.f31,Tryz.ntmps31,Option.get!,iS,iM,eO,J1]
  simp only [vx,T,K5,J0,K6,K7,↓reduceIte,J1,J2,J3,J4,J5,J6,J7,J8,J9,reduceCtorEq,K1,K2,K3,K4,VV,PV,PC]
  refine Cg h1 ?_
  simp only [vx,T,K5,J0,K6,K7,↓reduceIte,J1,J2,J3,J4,J5,J6,J7,J8,J9,reduceCtorEq,K1,K2,K3,K4,VV,PV,PC]
  refine Cg h2 ?_
  simp only [vx,T,K5,J0,K6,K7,↓reduceIte,J1,J2,J3,J4,J5,J6,J7,J8,J9,reduceCtorEq,K1,K2,K3,K4,VV,PV,PC]
  refine Cg h3 ?_
  simp only [vx,T,K5,J0,K6,K7,↓reduceIte,J1,J2,J3,J4,J5,J6,J7,J8,J9,reduceCtorEq,K1,K2,K3,K4,VV,PV,PC]
  exact Ve rfl
theorem cross_spec (a b : List Mono × List Mono) {r : List Mono} (h1 : Pr Tryz.prog 34 [PV a.1, PV b.2] (PV (mulM a.1 b.2))) (h2 : Pr Tryz.prog 34 [PV a.2, PV b.1] (PV (mulM a.2 b.1)))
    (h3 : Pr Tryz.prog 29 [PV (mulM a.1 b.2), PV (mulM a.2 b.1)] (PV r)) : Pr Tryz.prog 33 [VV a, VV b] (PV r) := by
  refine pv T_ok mixed Tryz.func33 rfl (by decide) _ (by simp [Tryz.ntmps33]) ⟨[0, 1, 2, 3, 4], []⟩ (by kernel_rfl) _ ?_
  show vc T _ _ (Option.get! Tryz.f33.body) _ _
  simp only [Tryz.f33,Tryz.ntmps33,Option.get!,iS,iM,eO,J1]
  simp only [vx,T,K5,J0,K6,K7,↓reduceIte,J1,J2,J3,J4,J5,J6,J7,J8,J9,reduceCtorEq,K1,K2,K3,K4,VV,PV,PC]
  refine Cg h1 ?_
  simp only [vx,T,K5,J0,K6,K7,↓reduceIte,J1,J2,J3,J4,J5,J6,J7,J8,J9,reduceCtorEq,K1,K2,K3,K4,VV,PV,PC]
  refine Cg h2 ?_
  simp only [vx,T,K5,J0,K6,K7,↓reduceIte,J1,J2,J3,J4,J5,J6,J7,J8,J9,reduceCtorEq,K1,K2,K3,K4,VV,PV,PC]
  refine Cg h3 ?_
  simp only [vx,T,K5,J0,K6,K7,↓reduceIte,J1,J2,J3,J4,J5,J6,J7,J8,J9,reduceCtorEq,K1,K2,K3,K4,VV,PV,PC]
  exact Ve rfl
def varM (v : Int) : List Mono := [(Rat.ofInt 1, [v])]
def ptM (i : Nat) : List Mono × List Mono := (varM (2 * i), varM (2 * i + 1))
theorem point_spec (i : Nat) (hi : i < 2 ^ 40) : Pr Tryz.prog 28 [.one (.int .i64 i)] (VV (ptM i)) := by
  have w1 : IntKind.i64.wrap (2 * (i : Int)) = 2 * (i : Int) := IntWalk.i64_in _ (by omega)
  have w2 : IntKind.i64.wrap (2 * (i : Int) + 1) = 2 * (i : Int) + 1 := IntWalk.i64_in _ (by omega)
  refine pv T_ok mixed Tryz.func28 rfl (by decide) _ (by simp [Tryz.ntmps28]) ⟨[0, 2], []⟩ (by kernel_rfl) _ ?_
  show vc T _ _ (Option.get! Tryz.f28.body) _ _
  simp only [Tryz.f28,Tryz.ntmps28,Option.get!,iS,iM,eO,J1]
  simp only [vx,T,K5,J0,K6,K7,↓reduceIte,J1,J2,J3,J4,J5,J6,J7,J8,J9,reduceCtorEq,K1,K2,K3,K4,w1]
  refine Cg (var_spec _) ?_
  simp only [vx,T,K5,J0,K6,K7,↓reduceIte,J1,J2,J3,J4,J5,J6,J7,J8,J9,reduceCtorEq,K1,K2,K3,K4,PV,PC,w1,w2]
  refine Cg (var_spec _) ?_
  simp only [vx,T,K5,J0,K6,K7,↓reduceIte,J1,J2,J3,J4,J5,J6,J7,J8,J9,reduceCtorEq,K1,K2,K3,K4,PV,PC,VV,ptM,varM]
  exact Ve rfl
theorem pb_var {v : Int} (h0 : 0 ≤ v) (h1 : v < 9223372036854775808) : PB (varM v) 1 1 2 := PB.one qm_one (Nat.le_refl _) (fun x hx => by
  obtain rfl := List.mem_singleton.1 hx; exact ⟨h0, h1⟩)
def wayM (i k : Nat) : List Mono × List Mono := (subM (ptM k).1 (ptM i).1, subM (ptM k).2 (ptM i).2)
theorem pb_wayx (i k : Nat) (hi : i < 2 ^ 40) (hk : k < 2 ^ 40) : PB (wayM i k).1 2 1 14 := (pb_sub (pb_var (by omega) (by omega)) (pb_var (by omega) (by omega))).mono (by decide) (by decide) (by decide)
theorem pb_wayy (i k : Nat) (hi : i < 2 ^ 40) (hk : k < 2 ^ 40) : PB (wayM i k).2 2 1 14 := (pb_sub (pb_var (by omega) (by omega)) (pb_var (by omega) (by omega))).mono (by decide) (by decide) (by decide)
theorem way_spec (i k : Nat) (hi : i < 2 ^ 40) (hk : k < 2 ^ 40) : Pr Tryz.prog 30 [.one (.int .i64 i), .one (.int .i64 k)] (VV (wayM i k)) := by
  have h1 := minus_spec (pb_var (v := 2 * (k : Int)) (by omega) (by omega)) (pb_var (v := 2 * (i : Int)) (by omega) (by omega)) (by decide) (by decide) (by decide) (by decide) (by decide) (by decide)
  have h2 := minus_spec (pb_var (v := 2 * (k : Int) + 1) (by omega) (by omega)) (pb_var (v := 2 * (i : Int) + 1) (by omega) (by omega)) (by decide) (by decide) (by decide) (by decide) (by decide) (by decide)
  refine pv T_ok mixed Tryz.func30 rfl (by decide) _ (by simp [Tryz.ntmps30]) ⟨[0, 1, 4, 5, 6], []⟩ (by kernel_rfl) _ ?_
  show vc T _ _ (Option.get! Tryz.f30.body) _ _
  simp only [Tryz.f30,Tryz.ntmps30,Option.get!,iS,iM,eO,J1]
  simp only [vx,T,K5,J0,K6,K7,↓reduceIte,J1,J2,J3,J4,J5,J6,J7,J8,J9,reduceCtorEq,K1,K2,K3,K4]
  refine Cg (point_spec i hi) ?_
  simp only [vx,T,K5,J0,K6,K7,↓reduceIte,J1,J2,J3,J4,J5,J6,J7,J8,J9,reduceCtorEq,K1,K2,K3,K4,VV,PC,ptM]
  refine Cg (point_spec k hk) ?_
  simp only [vx,T,K5,J0,K6,K7,↓reduceIte,J1,J2,J3,J4,J5,J6,J7,J8,J9,reduceCtorEq,K1,K2,K3,K4,VV,PC,ptM]
  refine Cg h1 ?_
  simp only [vx,T,K5,J0,K6,K7,↓reduceIte,J1,J2,J3,J4,J5,J6,J7,J8,J9,reduceCtorEq,K1,K2,K3,K4,PV,PC]
  refine Cg h2 ?_
  simp only [vx,T,K5,J0,K6,K7,↓reduceIte,J1,J2,J3,J4,J5,J6,J7,J8,J9,reduceCtorEq,K1,K2,K3,K4,PV,PC,VV,wayM]
  exact Ve rfl
end Go.Proofs.YtpogdlmhmafjlaaGreat
/-
  The example of the chapter, reckoned.
-/
namespace Go.Eng
def insI (x : Int) : List Int → List Int
  | [] => [x]
  | y :: ys => if x ≤ y then x :: y :: ys else y :: insI x ys
def isrt : List Int → List Int
  | [] => []
  | x :: xs => insI x (isrt xs)
theorem insI_perm (x : Int) : ∀ l, (insI x l).Perm (x :: l)
  | [] => .refl _
  | y :: ys => by
    simp only [insI]
    split
    · exact .refl _
    exact ((insI_perm x ys).cons y).trans (List.Perm.swap x y ys)
theorem insI_mem {x z : Int} {l : List Int} (h : z ∈ insI x l) : z = x ∨ z ∈ l := by simpa using (insI_perm x l).mem_iff.1 h
theorem insI_pair (x : Int) : ∀ {l : List Int}, l.Pairwise (· ≤ ·) → (insI x l).Pairwise (· ≤ ·)
  | [], _ => List.pairwise_cons.2 ⟨(fun _ h => by cases h), List.Pairwise.nil⟩
  | y :: ys, h => by
    simp only [insI]
    have h1 := List.pairwise_cons.1 h
    split
    · rename_i hxy
      refine List.pairwise_cons.2 ⟨fun z hz => ?_, h⟩
      rcases List.mem_cons.1 hz with rfl | hz
      · exact hxy
      exact Int.le_trans hxy (h1.1 z hz)
    rename_i hxy
    refine List.pairwise_cons.2 ⟨fun z hz => ?_, insI_pair x h1.2⟩
    rcases insI_mem hz with rfl | hz
    · omega
    exact h1.1 z hz
theorem isrt_perm : ∀ l, (isrt l).Perm l
  | [] => .refl _
  | x :: xs => (insI_perm x _).trans ((isrt_perm xs).cons x)
theorem isrt_pair : ∀ l, (isrt l).Pairwise (· ≤ ·)
  | [] => List.Pairwise.nil
  | x :: xs => insI_pair x (isrt_pair xs)
theorem isrt_eq (l : List Int) : srtZ l = isrt l := by rw [← srtZ_congr (isrt_perm l), srtZ_self (isrt_pair l)]
def mulE (p q : List Mono) : List Mono := norM ((mulL p q).map fun m => (m.1, isrt m.2))
theorem mulM_E (p q : List Mono) : mulM p q = mulE p q := by
  rw [mulM_eq]
  unfold mulE srtM
  congr 1
  exact List.map_congr_left fun m _ => by rw [isrt_eq]
def negE (q : List Mono) : List Mono := mulE (norM [(Rat.ofInt (-1), [])]) q
def subE (p q : List Mono) : List Mono := norM (p ++ negE q)
def varE (v : Int) : List Mono := [(Rat.ofInt 1, [v])]
def exE : List Mono := subE (norM (mulE (subE (varE 2) (varE 0)) (subE (varE 2) (varE 0)) ++ mulE (subE (varE 3) (varE 1)) (subE (varE 3) (varE 1)))) (mulE (norM [(Rat.ofInt 5, [])]) (norM [(Rat.ofInt 5, [])]))
def exL : List Mono := [(Rat.ofInt (-25), []), (Rat.ofInt 1, [0, 0]), (Rat.ofInt (-2), [0, 2]), (Rat.ofInt 1, [1, 1]), (Rat.ofInt (-2), [1, 3]), (Rat.ofInt 1, [2, 2]), (Rat.ofInt 1, [3, 3])]
theorem exE_eq : exE = exL := by decide +kernel
theorem exD_eq : derM exL 0 = [(Rat.ofInt 2, [0]), (Rat.ofInt (-2), [2])] := by decide +kernel
end Go.Eng
namespace Go.Proofs.YtpogdlmhmafjlaaGreat
open Go Go.Eng
def qC (q : Rat) : Nat → C
  | 0 => .bool (zs q.num)
  | 1 => .ints .u32 (zm q.num)
  | 2 => .bool (zs (q.den : Int))
  | 3 => .ints .u32 (zm (q.den : Int))
  | _ => .any
def QsC (l : List Rat) : C := .rows 4 l.length (fun i => qC (l.getD i default))
def tC (h : Nat) (t : List (List Rat)) : C := .rows 1 h (fun i _ => QsC (t.getD i []))
def tV (h : Nat) (t : List (List Rat)) : V := .one (tC h t)
def eV (a : List Rat) : V := .one (QsC a)
open Go Go.Eng
theorem term_spec (n : Int) (vs : List Int) (h1 : -9223372036854775808 ≤ n) (h2 : n ≤ 9223372036854775807) : Pr Tryz.prog 14 [.one (.int .i64 n), .one (.ints .i64 vs)] (MV (Rat.ofInt n, vs)) := by
  refine pv T_ok mixed Tryz.func14 rfl (by decide) _ (by simp [Tryz.ntmps14]) ⟨[0, 1, 4], []⟩ (by kernel_rfl) _ ?_
  show vc T _ _ (Option.get! Tryz.f14.body) _ _
  simp only [Tryz.f14,Tryz.ntmps14,Option.get!,iS,iM,eO,J1]
  simp only [vx,T,K5,J0,K6,K7,↓reduceIte,J1,J2,J3,J4,J5,J6,J7,J8,J9,reduceCtorEq,K1,K2,K3,K4]
  refine Cg (rQFromInt_spec n h1 h2) ?_
  simp only [vx,T,K5,J0,K6,K7,↓reduceIte,J1,J2,J3,J4,J5,J6,J7,J8,J9,reduceCtorEq,K1,K2,K3,K4,QV,QC,MV,mC]
  exact Ve rfl
theorem term0_spec (n : Int) (h1 : -9223372036854775808 ≤ n) (h2 : n ≤ 9223372036854775807) : Pr Tryz.prog 14 [.one (.int .i64 n), .one .nil] (MV (Rat.ofInt n, [])) :=
  (term_spec n [] h1 h2).args ⟨.refl _, .cell (CLe.nil_ints _), trivial⟩
def LC (ps : List (List Mono)) : C := .rows 1 ps.length (fun i _ => PC (ps.getD i default))
def LV (ps : List (List Mono)) : V := .one (LC ps)
theorem ofv_spec (l : List Rat) (i : Nat) (hi : i < l.length) (hl : l.length < 2 ^ 40) {B : Nat} (hq : qm (l.getD i default) ≤ B) (hB : B < 2 ^ 29) (g : Nat → Nat → C) (hg : g 0 0 = QsC l) : Pr Tryz.prog 23 [.one (.int .i64 i), .one (.elt (.rows 1 1 g) 1 0 0)] (PV (norM [(l.getD i default, [])])) := by
  refine pv T_ok mixed Tryz.func23 rfl (by decide) _ (by simp [Tryz.ntmps23]) ⟨[0, 1, 3], []⟩ (by kernel_rfl) _ ?_
  show vc T _ _ (Option.get! Tryz.f23.body) _ _
  simp only [Tryz.f23,Tryz.ntmps23,Option.get!,iS,iM,eO,J1]
  simp only [vx,T,K5,J0,K6,K7,↓reduceIte,J1,J2,J3,J4,J5,J6,J7,J8,J9,reduceCtorEq,K1,K2,K3,K4,hg,QsC,qC]
  refine ⟨by omega, Cg (const_spec _ hq hB) ?_⟩
  simp only [vx,T,K5,J0,K6,K7,↓reduceIte,J1,J2,J3,J4,J5,J6,J7,J8,J9,reduceCtorEq,K1,K2,K3,K4,PV,PC]
  exact Ve rfl
def distM (i k : Nat) (q : Rat) : List Mono := subM (norM (mulM (wayM i k).1 (wayM i k).1 ++ mulM (wayM i k).2 (wayM i k).2)) (mulM (norM [(q, [])]) (norM [(q, [])]))
theorem ofDist_spec (i k : Nat) (q : Rat) (hi : i < 2 ^ 40) (hk : k < 2 ^ 40) (hq : qm q ≤ 2) (c3 : C) (s : Int) (n : Int) : Pr Tryz.prog 9 [.agg [.int .i64 2, .ints .i64 [(i : Int), (k : Int)], .nil, c3, .int .i64 s], .one (QsC [q]), .one .nil, .one (.int .i64 n)] (LV [distM i k q]) := by
  refine pv T_ok mixed Tryz.func9 rfl (by decide) _ (by simp [Tryz.ntmps9]) ⟨[0, 1, 2, 3, 4, 5, 6, 7, 8, 9, 10, 11, 12, 13, 14, 15, 16, 17, 18, 19, 20, 21, 22, 23, 24, 25, 26, 27, 28, 35, 36, 53, 70, 88, 116, 143, 161, 179, 203, 230, 276, 287, 298, 314, 322, 330, 369], []⟩ (by kernel_rfl) _ ?_
  show vc T _ _ (Option.get! Tryz.f9.body) _ _
  simp only [Tryz.f9,Tryz.ntmps9,Option.get!,iS,iM,eO,J1]
  have hw := way_spec i k hi hk
  have bx := pb_wayx i k hi hk
  have by_ := pb_wayy i k hi hk
  have m1 := iMulP_spec bx bx (by decide) (by decide) (by decide) (by decide) (by decide)
  have m2 := iMulP_spec by_ by_ (by decide) (by decide) (by decide) (by decide) (by decide)
  have a1 := iAddP_spec (bx.mulM bx) (by_.mulM by_) (by decide) (by decide) (by decide)
  have bv := (PB.one (d := 0) hq (Nat.le_refl _) in63_nil).norM
  have s1 := square_spec bv (by decide) (by decide) (by decide) (by decide)
  have d1 := minus_spec ((bx.mulM bx).append (by_.mulM by_)).norM (bv.mulM bv) (by decide) (by decide) (by decide) (by decide) (by decide) (by decide)
  simp only [vx,T,K5,J0,K6,K7,↓reduceIte,J1,J2,J3,J4,J5,J6,J7,J8,J9,reduceCtorEq,K1,K2,K3,K4,QsC]
  refine ⟨by omega, by omega, Cg hw ?_⟩
  simp only [vx,T,K5,J0,K6,K7,↓reduceIte,J1,J2,J3,J4,J5,J6,J7,J8,J9,reduceCtorEq,K1,K2,K3,K4,VV,PC]
  refine Cg (dot_spec (wayM i k) (wayM i k) m1 m2 a1) ?_
  simp only [vx,T,K5,J0,K6,K7,↓reduceIte,J1,J2,J3,J4,J5,J6,J7,J8,J9,reduceCtorEq,K1,K2,K3,K4,PV,PC]
  refine Cg (ofv_spec [q] 0 (by simp) (by simp) (B := 2) hq (by decide) _ rfl) ?_
  simp only [vx,T,K5,J0,K6,K7,↓reduceIte,J1,J2,J3,J4,J5,J6,J7,J8,J9,reduceCtorEq,K1,K2,K3,K4,PV,PC,X0]
  refine Cg s1 ?_
  simp only [vx,T,K5,J0,K6,K7,↓reduceIte,J1,J2,J3,J4,J5,J6,J7,J8,J9,reduceCtorEq,K1,K2,K3,K4,PV,PC]
  refine Cg d1 ?_
  simp only [vx,T,K5,J0,K6,K7,↓reduceIte,J1,J2,J3,J4,J5,J6,J7,J8,J9,reduceCtorEq,K1,K2,K3,K4,PV,PC]
  refine Va ⟨rfl, rfl, fun i' j' hi' hj' => ?_⟩
  obtain rfl : i' = 0 := by omega
  obtain rfl : j' = 0 := by omega
  rfl
theorem mL_getD {l : List Mono} {i j : Nat} (hi : i < l.length) (hj : j < 5) : mC (l.getD i default) j = (l.flatMap mL).getD (i * 5 + j) .any := by
  induction l generalizing i with
  | nil => exact absurd hi (by simp)
  | cons m r ih =>
    rw [List.flatMap_cons, X7 (l := mL m ++ _)]
    have hlen : (mL m).length = 5 := rfl
    match i with
    | 0 =>
      rw [Nat.zero_mul, Nat.zero_add, List.getElem?_append_left (by omega), ← X7]
      exact (mC_list m hj).symm
    | i + 1 =>
      rw [List.getElem?_append_right (by omega), ← X7, show (i + 1) * 5 + j - (mL m).length = i * 5 + j by omega, ← ih (by simpa using hi)]; rfl
theorem litP {l : List Mono} {n : Nat} {L : List C} (hn : n = l.length) (hL : L = l.flatMap mL) : CLe (.rows 5 n (fun i j => L.getD (i * 5 + j) .any)) (PC l) := by
  subst hn hL
  exact CLe.rows rfl fun i j hi hj => CLe.of_eq (mL_getD hi hj).symm
def exD : List Mono := [(Rat.ofInt 2, [0]), (Rat.ofInt (-2), [2])]
theorem mok (n : Int) (v : List Int) (h : n.natAbs < 18446744073709551616) (hl : v.length ≤ 2) (hi : In63 v) : qm (Rat.ofInt n) ≤ 2 ∧ v.length ≤ 2 ∧ In63 v := ⟨qm_ofInt h, hl, hi⟩
theorem pb_exL : PB exL 7 2 2 := by
  refine ⟨by decide, fun m hm => ?_⟩
  simp only [exL,List.mem_cons,List.not_mem_nil,or_false] at hm
  rcases hm with rfl | rfl | rfl | rfl | rfl | rfl | rfl <;> exact mok _ _ (by decide) (by decide) (by unfold In63; decide)
theorem pb_exD : PB exD 2 2 2 := by
  refine ⟨by decide, fun m hm => ?_⟩
  simp only [exD,List.mem_cons,List.not_mem_nil,or_false] at hm
  rcases hm with rfl | rfl <;> exact mok _ _ (by decide) (by decide) (by unfold In63; decide)
theorem pok_exL : POk exL := pb_exL.pok (by decide) (by decide) (by decide)
theorem pok_exD : POk exD := pb_exD.pok (by decide) (by decide) (by decide)
theorem dist_ex : distM 0 1 (Rat.ofInt 5) = exL := by
  rw [← exE_eq]
  unfold distM exE subM negM subE negE wayM ptM varM subM negM
  simp only [mulM_E]
  rfl
theorem awake_spec : Pr Tryz.prog 4 [] (.one (.bool true)) := by
  have hd := ofDist_spec 0 1 (Rat.ofInt 5) (by decide) (by decide) (qm_ofInt (by decide))
  rw [dist_ex] at hd
  refine pv T_ok mixed Tryz.func4 rfl (by decide) _ (by simp [Tryz.ntmps4]) ⟨[0, 1, 2, 35], []⟩ (by kernel_rfl) _ ?_
  show vc T _ _ (Option.get! Tryz.f4.body) _ _
  simp only [Tryz.f4,Tryz.ntmps4,Option.get!,iS,iM,eO,J1]
  simp only [vx,T,K5,J0,K6,K7,↓reduceIte,J1,J2,J3,J4,J5,J6,J7,J8,J9,reduceCtorEq,K1,K2,K3,K4]
  refine Cg (rQFromInt_spec 5 (by decide) (by decide)) ?_
  simp only [vx,T,K5,J0,K6,K7,↓reduceIte,J1,J2,J3,J4,J5,J6,J7,J8,J9,reduceCtorEq,K1,K2,K3,K4,QV,QC]
  refine Cg (rQFromInt_spec 5 (by decide) (by decide)) ?_
  simp only [vx,T,K5,J0,K6,K7,↓reduceIte,J1,J2,J3,J4,J5,J6,J7,J8,J9,reduceCtorEq,K1,K2,K3,K4,QV,QC]
  have hq : CLe (.rows 4 1 fun i j => [C.bool (zs (Rat.ofInt 5).num), C.ints IntKind.u32 (zm (Rat.ofInt 5).num), C.bool (zs ((Rat.ofInt 5).den : Int)), C.ints IntKind.u32 (zm ((Rat.ofInt 5).den : Int))].getD (i * 4 + j) C.any) (QsC [Rat.ofInt 5]) := by
    refine CLe.rows rfl fun i j hi hj => CLe.of_eq ?_
    obtain rfl : i = 0 := by omega
    match j, hj with
    | 0, _ => rfl
    | 1, _ => rfl
    | 2, _ => rfl
    | 3, _ => rfl
  refine Cg ((hd _ 0 2).args ⟨.refl _, .cell hq, .refl _, .refl _, trivial⟩) ?_
  simp only [vx,T,K5,J0,K6,K7,↓reduceIte,J1,J2,J3,J4,J5,J6,J7,J8,J9,reduceCtorEq,K1,K2,K3,K4,LV,LC,PC]
  refine ⟨fun h => absurd rfl h, fun _ => Lg ?_⟩
  simp only [vx,T,K5,J0,K6,K7,↓reduceIte,J1,J2,J3,J4,J5,J6,J7,J8,J9,reduceCtorEq,K1,K2,K3,K4,LV,LC,PC]
  refine ⟨by decide, Cg (term0_spec (-25) (by decide) (by decide)) ?_⟩
  simp only [vx,T,K5,J0,K6,K7,↓reduceIte,J1,J2,J3,J4,J5,J6,J7,J8,J9,reduceCtorEq,K1,K2,K3,K4,MV,mC]
  refine Cg (term_spec (1) [0, 0] (by decide) (by decide)) ?_
  simp only [vx,T,K5,J0,K6,K7,↓reduceIte,J1,J2,J3,J4,J5,J6,J7,J8,J9,reduceCtorEq,K1,K2,K3,K4,MV,mC]
  refine Cg (term_spec (-2) [0, 2] (by decide) (by decide)) ?_
  simp only [vx,T,K5,J0,K6,K7,↓reduceIte,J1,J2,J3,J4,J5,J6,J7,J8,J9,reduceCtorEq,K1,K2,K3,K4,MV,mC]
  refine Cg (term_spec (1) [1, 1] (by decide) (by decide)) ?_
  simp only [vx,T,K5,J0,K6,K7,↓reduceIte,J1,J2,J3,J4,J5,J6,J7,J8,J9,reduceCtorEq,K1,K2,K3,K4,MV,mC]
  refine Cg (term_spec (-2) [1, 3] (by decide) (by decide)) ?_
  simp only [vx,T,K5,J0,K6,K7,↓reduceIte,J1,J2,J3,J4,J5,J6,J7,J8,J9,reduceCtorEq,K1,K2,K3,K4,MV,mC]
  refine Cg (term_spec (1) [2, 2] (by decide) (by decide)) ?_
  simp only [vx,T,K5,J0,K6,K7,↓reduceIte,J1,J2,J3,J4,J5,J6,J7,J8,J9,reduceCtorEq,K1,K2,K3,K4,MV,mC]
  refine Cg (term_spec (1) [3, 3] (by decide) (by decide)) ?_
  simp only [vx,T,K5,J0,K6,K7,↓reduceIte,J1,J2,J3,J4,J5,J6,J7,J8,J9,reduceCtorEq,K1,K2,K3,K4,MV,mC]
  refine Cg ((Same_spec exL exL pok_exL pok_exL).args ⟨.refl _, .cell (litP rfl rfl), trivial⟩) ?_
  rw [decide_eq_true (rfl : exL = exL)]
  simp only [vx,T,K5,J0,K6,K7,↓reduceIte,J1,J2,J3,J4,J5,J6,J7,J8,J9,reduceCtorEq,K1,K2,K3,K4,LV,LC,PC]
  refine ⟨by decide, Cg (iDer_spec 0 pb_exL (by decide) (by decide) (by decide)) ?_⟩
  rw [exD_eq]
  simp only [vx,T,K5,J0,K6,K7,↓reduceIte,J1,J2,J3,J4,J5,J6,J7,J8,J9,reduceCtorEq,K1,K2,K3,K4,PV,PC]
  refine Cg (term_spec 2 [0] (by decide) (by decide)) ?_
  simp only [vx,T,K5,J0,K6,K7,↓reduceIte,J1,J2,J3,J4,J5,J6,J7,J8,J9,reduceCtorEq,K1,K2,K3,K4,MV,mC]
  refine Cg (term_spec (-2) [2] (by decide) (by decide)) ?_
  simp only [vx,T,K5,J0,K6,K7,↓reduceIte,J1,J2,J3,J4,J5,J6,J7,J8,J9,reduceCtorEq,K1,K2,K3,K4,MV,mC]
  refine Cg ((Same_spec exD exD pok_exD pok_exD).args ⟨.refl _, .cell (litP rfl rfl), trivial⟩) ?_
  rw [decide_eq_true (rfl : exD = exD)]
  simp only [vx,T,K5,J0,K6,K7,↓reduceIte,J1,J2,J3,J4,J5,J6,J7,J8,J9,reduceCtorEq,K1,K2,K3,K4]
  exact Ve rfl
end Go.Proofs.YtpogdlmhmafjlaaGreat
/-
  THE ENGINE, PART OP: what comes in, read as data, as the engine's cells.
-/
namespace Go.Eng
open Go Go.ChangeShapes Go.WideShapes Go.Deep
def contigF (P : Program) : Nat → List Field → Nat → Bool
  | off, [], tot => off == tot
  | off, f :: r, tot => f.offset == off && contigF P (off + P.cellsOf f.type) r tot
def closedB (P : Program) (S : List TypeId) : Bool := S.all fun t =>
  match P.underlying t with
  | some .bool => true
  | some (.int _) => true
  | some .string => true
  | some (.slice e) => decide (0 < P.cellsOf e) && S.contains e && (match P.underlying e with | some (.int _) => P.cellsOf e == 1 | _ => true)
  | some (.struct fs) => contigF P 0 fs.toList (P.cellsOf t) && fs.toList.all fun f => S.contains f.type
  | some (.array n e) => S.contains e && P.cellsOf t == n * P.cellsOf e
  | _ => false
def OkF (R : TypeId → List C → Prop) : List Field → List C → Prop
  | [], cs => cs = []
  | f :: r, cs => ∃ c1 c2, cs = c1 ++ c2 ∧ R f.type c1 ∧ OkF R r c2
def OkC (P : Program) (B : Nat) : Nat → TypeId → List C → Prop
  | 0, _, _ => False
  | n + 1, t, cs =>
    match P.underlying t with
    | some .bool => ∃ b, cs = [.bool b]
    | some (.int k) => ∃ x, cs = [.int k x] ∧ k.min ≤ x ∧ x ≤ k.max
    | some .string => ∃ s : ByteArray, cs = [.str s] ∧ s.size ≤ B
    | some (.slice e) =>
      match P.underlying e with
      | some (.int k) => ∃ xs : List Int, cs = [.ints k xs] ∧ xs.length ≤ B ∧ ∀ x ∈ xs, k.min ≤ x ∧ x ≤ k.max
      | _ => ∃ m f, cs = [.rows (P.cellsOf e) m f] ∧ m ≤ B ∧ ∀ i, i < m → OkC P B n e ((List.range (P.cellsOf e)).map (f i))
    | some (.struct fs) => OkF (OkC P B n) fs.toList cs
    | some (.array m e) => ∃ l : List (List C), cs = l.flatten ∧ l.length = m ∧ ∀ c ∈ l, OkC P B n e c
    | _ => False
theorem OkC.mono {P : Program} {B B' : Nat} (hB : B ≤ B') : ∀ {n : Nat} {t : TypeId} {cs : List C}, OkC P B n t cs → OkC P B' n t cs := by
  intro n
  induction n with
  | zero => intro t cs h; exact h
  | succ n ih =>
    intro t cs h
    have hf : ∀ (fs : List Field) (cs : List C), OkF (OkC P B n) fs cs → OkF (OkC P B' n) fs cs := by
      intro fs
      induction fs with
      | nil => intro cs h; exact h
      | cons f r ihf =>
        rintro cs ⟨c1, c2, rfl, h1, h2⟩
        exact ⟨c1, c2, rfl, ih h1, ihf c2 h2⟩
    simp only [OkC] at h ⊢
    split at h
    · exact h
    · exact h
    · obtain ⟨s, h1, h2⟩ := h; exact ⟨s, h1, Nat.le_trans h2 hB⟩
    · split at h
      · obtain ⟨xs, h1, h2, h3⟩ := h; exact ⟨xs, h1, Nat.le_trans h2 hB, h3⟩
      obtain ⟨m, f, h1, h2, h3⟩ := h
      exact ⟨m, f, h1, Nat.le_trans h2 hB, fun i hi => ih (h3 i hi)⟩
    · exact hf _ _ h
    · obtain ⟨l, h1, h2, h3⟩ := h
      exact ⟨l, h1, h2, fun c hc => ih (h3 c hc)⟩
    exact h
structure BulkOk {H : Type} (bulk : DataW H → Nat) : Prop where
  str : ∀ s : List UInt8, s.length ≤ bulk (.lit (.string s))
  sl : ∀ el sp, el.length ≤ bulk (.slice el sp) ∧ ∀ d ∈ el, bulk d ≤ bulk (.slice el sp)
  agg : ∀ ps d, d ∈ ps → bulk d ≤ bulk (.agg ps)
def Bnd {H : Type} (bulk : DataW H → Nat) (B : Nat) (d : DataW H) : Prop := maxLen ≤ B ∨ (BulkOk bulk ∧ bulk d ≤ B)
def RepIL (ok : Nat → Prop) (w : World) : List C → List Value → Prop
  | [], [] => True
  | c :: cs, v :: vs => RepI ok w c v ∧ RepIL ok w cs vs
  | _, _ => False
theorem RepIL.append {ok : Nat → Prop} {w : World} : ∀ {a b : List C} {x y : List Value}, RepIL ok w a x → RepIL ok w b y → RepIL ok w (a ++ b) (x ++ y)
  | [], _, [], _, _, h => h
  | _ :: _, _, _ :: _, _, h1, h2 => ⟨h1.1, RepIL.append h1.2 h2⟩
  | [], _, _ :: _, _, h, _ => h.elim
  | _ :: _, _, [], _, h, _ => h.elim
theorem RepIL.length {ok : Nat → Prop} {w : World} : ∀ {a : List C} {x : List Value}, RepIL ok w a x → a.length = x.length
  | [], [], _ => rfl
  | _ :: _, _ :: _, h => by simp [RepIL.length h.2]
  | [], _ :: _, h => h.elim
  | _ :: _, [], h => h.elim
theorem RepIL.get {ok : Nat → Prop} {w : World} : ∀ {a : List C} {x : List Value}, RepIL ok w a x → ∀ j, j < a.length → ∃ u, x[j]? = some u ∧ RepI ok w (a.getD j .any) u
  | _ :: _, u :: _, h, 0, _ => ⟨u, rfl, h.1⟩
  | _ :: _, _ :: _, h, j + 1, hj => by simpa using RepIL.get h.2 j (by simpa using hj)
  | [], [], _, j, hj => absurd hj (by simp)
  | [], _ :: _, h, _, _ => h.elim
  | _ :: _, [], h, _, _ => h.elim
theorem RepIL.repL {ok : Nat → Prop} {w : World} : ∀ {a : List C} {x : List Value}, RepIL ok w a x → RepL loc0 dom0 ok w a x
  | [], [], _ => trivial
  | _ :: _, _ :: _, h => ⟨RepC.of_repI h.1, RepIL.repL h.2⟩
  | [], _ :: _, h => h.elim
  | _ :: _, [], h => h.elim
theorem cell_lt {w : World} {a : Addr} {v : Value} (h : w.cell? a = some v) : a.block < w.heap.size ∧ a.spot = none := by
  unfold World.cell? at h
  split at h
  · rename_i c _ _ hb
    refine ⟨(Array.getElem?_eq_some_iff.1 hb).1, ?_⟩
    split at h
    · cases h
    rename_i hs
    cases hsp : a.spot with
    | none => rfl
    | some x => rw [hsp] at hs; simp at hs
  cases h
section
variable {H : Type} {bulk : DataW H → Nat} {B : Nat} {enc : TypeId × Value → H} {P : Program} {w : World} {base : Nat} {spare : Nat → Bool} {held : Bool}
theorem open_data {S : List TypeId} (hS : closedB P S = true) : ∀ (fuel : Nat) (t : TypeId) (vs : List Value) (x : DataW H × List MemPlace), t ∈ S → DataW.trod enc P w base spare held fuel t vs = some x → Bnd bulk B x.1 →
    ∃ cs, OkC P B fuel t cs ∧ RepIL (fun g => g < w.heap.size) w cs vs := by
  intro fuel
  induction fuel with
  | zero => intro t vs x _ h _; simp [DataW.trod] at h
  | succ fuel ih =>
    intro t vs x ht h hb
    have hc := List.all_eq_true.1 hS t ht
    simp only [OkC]
    cases hu : P.underlying t with
    | none => rw [hu] at hc; simp at hc
    | some d =>
      rw [hu] at hc
      cases d with
      | bool =>
        obtain ⟨b, rfl, _⟩ := DataW.trod_bool hu h
        exact ⟨[.bool b], ⟨b, rfl⟩, rfl, trivial⟩
      | int k =>
        obtain ⟨n, rfl, _, hw⟩ := DataW.trod_int hu h
        simp only [Lit.wf,Bool.and_eq_true,decide_eq_true_eq] at hw
        exact ⟨[.int k n], ⟨n, rfl, hw⟩, rfl, trivial⟩
      | string =>
        obtain ⟨s, rfl, hx, hs⟩ := DataW.trod_string hu h
        refine ⟨[.str s], ⟨s, rfl, ?_⟩, rfl, trivial⟩
        rcases hb with hb | ⟨hb, hb2⟩
        · omega
        have h1 := hb.str s.data.toList
        rw [hx] at hb2
        have hb2 : bulk (.lit (.string s.data.toList)) ≤ B := hb2
        have h2 : s.data.toList.length = s.size := Array.length_toList
        omega
      | slice e =>
        simp only [Bool.and_eq_true,decide_eq_true_eq] at hc
        obtain ⟨⟨hpos, he⟩, hk⟩ := hc
        have he : e ∈ S := by simpa using he
        have hfit : (vs = [.slice none 0 0]) ∨ ∃ (a : Addr) (len cap : Nat), vs = [.slice (some a) len cap] ∧ len ≤ cap ∧ len ≤ B ∧
            ∀ i, i < len → ∃ cs', w.cells? base (a.add (i * P.cellsOf e)) (P.cellsOf e) = some cs' ∧ ∃ y, DataW.trod enc P w base spare held fuel e cs' = some y ∧ Bnd bulk B y.1 := by
          rcases DataW.trod_slice hu h with ⟨rfl, _⟩ | ⟨a, len, cap, elems, rest, n, hn, rfl, hx, _, hl, hm, hlen, hel, _, _⟩
          · exact .inl rfl
          have hlB : len ≤ B := by
            rcases hb with hb | ⟨hb, hb2⟩
            · omega
            have h1 := (hb.sl (elems.map (·.1)) (rest.map (·.1))).1
            rw [hx] at hb2
            rw [List.length_map] at h1
            have hb2 : bulk (.slice (elems.map (·.1)) (rest.map (·.1))) ≤ B := hb2
            omega
          refine .inr ⟨a, len, cap, rfl, hl, hlB, fun i hi => ?_⟩
          obtain rfl : fuel = n := by omega
          have h1 := hel i hi
          rw [X8 (by omega)] at h1
          cases hcs : w.cells? base (a.add (i * P.cellsOf e)) (P.cellsOf e) with
          | none => rw [hcs] at h1; simp at h1
          | some cs' =>
            rw [hcs] at h1
            refine ⟨cs', rfl, _, h1, ?_⟩
            rcases hb with hb | ⟨hb, hb2⟩
            · exact .inl hb
            refine .inr ⟨hb, ?_⟩
            have h2 := (hb.sl (elems.map (·.1)) (rest.map (·.1))).2 elems[i].1 (List.mem_map.2 ⟨elems[i], List.getElem_mem _, rfl⟩)
            rw [hx] at hb2
            exact Nat.le_trans h2 hb2
        -- by rows
        have hrows : ∃ m f, m ≤ B ∧ (∀ i, i < m → OkC P B fuel e ((List.range (P.cellsOf e)).map (f i))) ∧ ∃ v, vs = [v] ∧ RepI (fun g => g < w.heap.size) w (.rows (P.cellsOf e) m f) v := by
          rcases hfit with rfl | ⟨a, len, cap, rfl, hl, hm, hel⟩
          · exact ⟨0, fun _ _ => .any, Nat.zero_le _, fun i hi => absurd hi (Nat.not_lt_zero _), _, rfl, none, 0, rfl, Nat.le_refl _, .inl rfl⟩
          have hex : ∀ i, i < len → ∃ cs, OkC P B fuel e cs ∧ cs.length = P.cellsOf e ∧ ∀ j, j < P.cellsOf e → ∃ u, w.cell? ((a.add (i * P.cellsOf e)).add j) = some u ∧ RepI (fun g => g < w.heap.size) w (cs.getD j .any) u := by
            intro i hi
            obtain ⟨cs', hcs', y, hy, hyb⟩ := hel i hi
            obtain ⟨_, hcl, hcell⟩ := World.cells?_some hcs'
            obtain ⟨cs, hok, hrep⟩ := ih e cs' y he hy hyb
            have hlen : cs.length = P.cellsOf e := by rw [hrep.length, hcl]
            refine ⟨cs, hok, hlen, fun j hj => ?_⟩
            obtain ⟨u, hu, hr⟩ := hrep.get j (by omega)
            exact ⟨u, by rw [hcell j hj, hu], hr⟩
          obtain ⟨g, hg⟩ := Classical.axiomOfChoice (r := fun (i : Nat) (cs : List C) => i < len → OkC P B fuel e cs ∧ cs.length = P.cellsOf e ∧ ∀ j, j < P.cellsOf e → ∃ u, w.cell? ((a.add (i * P.cellsOf e)).add j) = some u ∧ RepI (fun g => g < w.heap.size) w (cs.getD j .any) u) (fun i => by
            by_cases hi : i < len
            · obtain ⟨cs, h⟩ := hex i hi; exact ⟨cs, fun _ => h⟩
            exact ⟨[], fun h => absurd h hi⟩)
          refine ⟨len, fun i j => (g i).getD j .any, hm, fun i hi => ?_, _, rfl, some a, cap, rfl, hl, ?_⟩
          · obtain ⟨h1, h2, _⟩ := hg i hi
            have e : (List.range (P.cellsOf e)).map (fun j => (g i).getD j .any) = g i := by
              refine List.ext_getElem (by simp [h2]) fun j hj1 hj2 => ?_
              simp [X7, X8 hj2]
            rw [e]; exact h1
          by_cases h0 : len = 0
          · exact .inl h0
          right
          obtain ⟨u, hu, _⟩ := (hg 0 (by omega)).2.2 0 hpos
          rw [Nat.zero_mul] at hu
          have ha0 : (a.add 0).add 0 = a := by simp [Addr.add]
          rw [ha0] at hu
          obtain ⟨hlt, hsp⟩ := cell_lt hu
          refine ⟨a.block, a.off, ?_, hlt, fun i j hi hj => ?_⟩
          · obtain ⟨b, o, s⟩ := a; simp only at hsp; subst hsp; rfl
          obtain ⟨u, hu, hr⟩ := (hg i hi).2.2 j hj
          refine ⟨u, ?_, hr⟩
          rw [← hu]
          congr 1
          obtain ⟨b, o, s⟩ := a
          simp only at hsp
          subst hsp
          unfold Addr.add
          split <;> split <;> simp_all <;> omega
        simp only
        cases hue : P.underlying e with
        | none =>
          obtain ⟨m, f, h1, h2, v, rfl, h3⟩ := hrows
          exact ⟨[.rows (P.cellsOf e) m f], ⟨m, f, rfl, h1, h2⟩, h3, trivial⟩
        | some de =>
          cases de with
          | int k =>
            rw [hue] at hk
            have hk : P.cellsOf e = 1 := by simpa using hk
            obtain ⟨m, f, h1, h2, v, rfl, a, cap, rfl, h4, h5⟩ := hrows
            have h2' : ∀ i, i < m → ∃ x, f i 0 = .int k x ∧ k.min ≤ x ∧ x ≤ k.max := by
              intro i hi
              have := h2 i hi
              rw [hk] at this
              cases fuel with
              | zero => exact this.elim
              | succ fuel =>
                simp only [OkC,hue] at this
                obtain ⟨x, hx, hr⟩ := this
                simp only [List.range_succ,List.range_zero,List.nil_append,List.map_cons,List.map_nil,List.cons.injEq,and_true] at hx
                exact ⟨x, hx, hr⟩
            obtain ⟨g, hg⟩ := Classical.axiomOfChoice (r := fun (i : Nat) (x : Int) => i < m → f i 0 = .int k x ∧ k.min ≤ x ∧ x ≤ k.max) (fun i => by
              by_cases hi : i < m
              · obtain ⟨x, h⟩ := h2' i hi; exact ⟨x, fun _ => h⟩
              exact ⟨0, fun h => absurd h hi⟩)
            have hlen : ((List.range m).map g).length = m := by simp
            refine ⟨[.ints k ((List.range m).map g)], ⟨_, rfl, by rw [hlen]; exact h1, fun x hx => ?_⟩, ⟨a, cap, by rw [hlen], by rw [hlen]; exact h4, ?_⟩, trivial⟩
            · obtain ⟨i, hi, rfl⟩ := List.mem_map.1 hx
              exact (hg i (List.mem_range.1 hi)).2
            rw [hlen]
            rcases h5 with h5 | ⟨b, o, ha, hb, hcell⟩
            · exact .inl h5
            refine .inr ⟨b, o, ha, hb, fun i hi => ?_⟩
            obtain ⟨u, hu, hr⟩ := hcell i 0 hi (by omega)
            rw [(hg i hi).1] at hr
            have hr : u = .int k (g i) := hr
            rw [hk, Nat.mul_one, Nat.add_zero] at hu
            rw [hu, hr]
            simp [X7, hi]
          | _ =>
            obtain ⟨m, f, h1, h2, v, rfl, h3⟩ := hrows
            exact ⟨[.rows (P.cellsOf e) m f], ⟨m, f, rfl, h1, h2⟩, h3, trivial⟩
      | struct fs =>
        simp only [Bool.and_eq_true] at hc
        obtain ⟨hcon, hmem⟩ := hc
        obtain ⟨xs, n, hn, hx, hcl, hxl, hf⟩ := DataW.trod_struct hu h
        obtain rfl : fuel = n := by omega
        have hall : ∀ f ∈ fs.toList, ∃ y, DataW.trod enc P w base spare held fuel f.type ((vs.drop f.offset).take (P.cellsOf f.type)) = some y ∧ Bnd bulk B y.1 := by
          intro f hfm
          obtain ⟨i, hi, rfl⟩ := List.mem_iff_getElem.1 hfm
          have hi' : i < fs.size := by simpa using hi
          have h1 := hf i fs[i] (Array.getElem?_eq_getElem hi')
          rw [X8 (by omega)] at h1
          refine ⟨xs[i], by simpa using h1, ?_⟩
          rcases hb with hb | ⟨hb, hb2⟩
          · exact .inl hb
          refine .inr ⟨hb, ?_⟩
          have h2 := hb.agg (xs.map (·.1)) xs[i].1 (List.mem_map.2 ⟨xs[i], List.getElem_mem _, rfl⟩)
          rw [hx] at hb2
          exact Nat.le_trans h2 hb2
        have hmem : ∀ f ∈ fs.toList, f.type ∈ S := fun f hf => by simpa using List.all_eq_true.1 hmem f hf
        simp only
        -- field by field
        have key : ∀ (l : List Field) (off : Nat), (∀ f ∈ l, ∃ y, DataW.trod enc P w base spare held fuel f.type ((vs.drop f.offset).take (P.cellsOf f.type)) = some y ∧ Bnd bulk B y.1) → (∀ f ∈ l, f.type ∈ S) → contigF P off l vs.length = true →
            ∃ cs, OkF (OkC P B fuel) l cs ∧ RepIL (fun g => g < w.heap.size) w cs (vs.drop off) := by
          intro l
          induction l with
          | nil =>
            intro off _ _ hcf
            simp only [contigF,beq_iff_eq] at hcf
            exact ⟨[], rfl, by rw [List.drop_eq_nil_of_le (by omega)]; trivial⟩
          | cons f r ihl =>
            intro off hy hm hcf
            simp only [contigF,Bool.and_eq_true,beq_iff_eq] at hcf
            obtain ⟨ho, hcf⟩ := hcf
            obtain ⟨y, hy1, hy2⟩ := hy f (by simp)
            obtain ⟨c1, h1, h2⟩ := ih f.type _ y (hm f (by simp)) hy1 hy2
            obtain ⟨c2, h3, h4⟩ := ihl (off + P.cellsOf f.type) (fun g hg => hy g (by simp [hg])) (fun g hg => hm g (by simp [hg])) hcf
            refine ⟨c1 ++ c2, ⟨c1, c2, rfl, h1, h3⟩, ?_⟩
            have e : vs.drop off = (vs.drop f.offset).take (P.cellsOf f.type) ++ vs.drop (off + P.cellsOf f.type) := by
              rw [ho, ← List.drop_drop, List.take_append_drop]
            rw [e]
            exact h2.append h4
        have := key fs.toList 0 hall hmem (by rw [hcl]; exact hcon)
        rwa [List.drop_zero] at this
      | array m e =>
        simp only [Bool.and_eq_true,beq_iff_eq] at hc
        obtain ⟨he, hsz⟩ := hc
        have he : e ∈ S := by simpa using he
        obtain ⟨xs, n, hn, hx, hcl, hxl, hf⟩ := DataW.trod_array hu h
        obtain rfl : fuel = n := by omega
        simp only
        have key : ∀ j, j ≤ m → ∃ l : List (List C), l.length = j ∧ (∀ c ∈ l, OkC P B fuel e c) ∧ RepIL (fun g => g < w.heap.size) w l.flatten (vs.take (j * P.cellsOf e)) := by
          intro j
          induction j with
          | zero => intro _; exact ⟨[], rfl, fun c hc => (by cases hc), by rw [Nat.zero_mul]; trivial⟩
          | succ j ihj =>
            intro hj
            obtain ⟨l, h1, h2, h3⟩ := ihj (by omega)
            have h4 := hf j (by omega)
            rw [X8 (by omega)] at h4
            obtain ⟨c, h5, h6⟩ := ih e _ xs[j] he h4 (by
              rcases hb with hb | ⟨hb, hb2⟩
              · exact .inl hb
              refine .inr ⟨hb, ?_⟩
              have h2 := hb.agg (xs.map (·.1)) xs[j].1 (List.mem_map.2 ⟨xs[j], List.getElem_mem _, rfl⟩)
              rw [hx] at hb2
              exact Nat.le_trans h2 hb2)
            refine ⟨l ++ [c], by rw [X6, h1]; rfl, fun x hx => ?_, ?_⟩
            · rcases List.mem_append.1 hx with hx | hx
              · exact h2 x hx
              obtain rfl := List.mem_singleton.1 hx; exact h5
            rw [List.flatten_append, Nat.add_mul, Nat.one_mul, List.take_add]
            refine h3.append ?_
            simpa using h6
        obtain ⟨l, h1, h2, h3⟩ := key m (Nat.le_refl _)
        rw [← hsz, ← hcl, List.take_length] at h3
        exact ⟨l.flatten, ⟨l, rfl, h1, h2⟩, h3⟩
      | _ => simp at hc
theorem open_argB {S : List TypeId} (hS : closedB P S = true) {t : TypeId} (ht : t ∈ S) {v : Value} {d : DataW H} {p : List MemPlace} (hv : v.oneCell' = true) (h : DataW.Trod enc P w base spare held t v d p) (hb : Bnd bulk B d) :
    ∃ n c, OkC P B n t [c] ∧ RepI (fun g => g < w.heap.size) w c v := by
  obtain ⟨fuel, hf⟩ := h
  have hvc : v.cells.toList = [v] := by
    cases v <;> first | rfl | (simp [Value.oneCell'] at hv)
  rw [hvc] at hf
  obtain ⟨cs, h1, h2⟩ := open_data hS fuel t _ _ ht hf hb
  match cs, h2 with
  | [c], h2 => exact ⟨fuel, c, h1, h2.1⟩
theorem open_argSB {S : List TypeId} (hS : closedB P S = true) {t : TypeId} (ht : t ∈ S) {us : Array Value} {d : DataW H} {p : List MemPlace} (h : DataW.Trod enc P w base spare held t (.agg us) d p) (hb : Bnd bulk B d) :
    ∃ n cs, OkC P B n t cs ∧ RepV1 loc0 dom0 (fun g => g < w.heap.size) w (.agg cs) (.agg us) := by
  obtain ⟨fuel, hf⟩ := h
  obtain ⟨cs, h1, h2⟩ := open_data hS fuel t _ _ ht hf hb
  exact ⟨fuel, cs, h1, us, rfl, h2.repL⟩
end
end Go.Eng
/-
  THE ENGINE, PART LW: a law: a function that answers true, and leaves its arguments as they were.
-/
namespace Go.Eng
open Go Go.ChangeShapes Go.WideShapes Go.RowKit
section
variable {H : Type} {enc : TypeId × Value → H} {P : Program}
theorem arg_stays (hl : laidOutB P = true) {t : TypeId} (hr : P.readableRec t = true) (hrow : t < P.types.size) {W W' : World} {v : Value} {d : DataW H} {ps : List MemPlace} (h : DataW.Trod enc P W 0 (fun _ => true) true t v d ps)
    (hb : Below W.heap.size W W') (hlt : ∀ x ∈ ps, x.block < W.heap.size) : DataW.Trod enc P W' 0 (fun b => decide (b < W.heap.size)) true t v d ps :=
  Below.trod hl hr hrow h hb hlt
theorem law_post {f : Func} {s : ChangeSpec} {W W' : World} {args : Array Value} {ds : List (DataW H)} {before : List MemPlace} {tb : TypeId}
    (hW : DataW.Whole enc P f.params.toList s.vars false W args.toList ds [] before) (hv : s.vars = []) (hrt : f.resultTypes = #[tb]) (htb : P.underlying tb = some .bool)
    (hres : (s.fn H (ds ++ [])).results = [.lit (.bool true)]) (hargs : DataW.TrodAll enc P W' 0 (fun b => decide (b < W.heap.size)) true f.params.toList args.toList (s.fn H (ds ++ [])).args before)
    (hvs : (s.fn H (ds ++ [])).vars = []) (hb : Below W.heap.size W W') : s.post enc P f false true false false W args (.bool true) W' := by
  refine ⟨ds, [], before, [], before, [], hW, ?_, hargs, ?_, World.keptBut_mono (fun p hp => ⟨hp, .inr (.inl hp)⟩) (hb.frame (· ∈ before)), fun h => by cases h⟩
  · rw [hres, hrt]
    exact trodAll_mk1 (shut_bool htb true)
  rw [hv, hvs]; rfl
theorem slice_one {w : World} {r : Reach} {base : Nat} {t e : TypeId} {v : Value} (ht : P.underlying t = some (.slice e)) (h : Value.okWide P w r base t v) : v.oneCell' = true := by
  obtain ⟨a, len, cap, rfl⟩ := okWide_slice ht h
  rfl
end
end Go.Eng
namespace Go.Proofs.YtpogdlmhmafjlaaGreat
open Go Go.Proofs Go.Eng Go.ChangeShapes Go.WideShapes Go.ChangeAt Go.RowKit
theorem ok_two {R : TypeId → List C → Prop} {f g : Field} {cs : List C} (h : OkF R [f, g] cs) : ∃ c1 c2, cs = c1 ++ c2 ∧ R f.type c1 ∧ R g.type c2 := by
  obtain ⟨c1, c2, rfl, h1, c3, c4, rfl, h2, h3⟩ := h
  have h3 : c4 = [] := h3
  subst h3
  exact ⟨c1, c3, by simp, h1, h2⟩
open Go Go.Eng
section
variable {B n : Nat} {cs : List C}
theorem okb_bool (h : OkC Tryz.prog B n 4 cs) : ∃ b, cs = [.bool b] := by
  cases n with
  | zero => exact h.elim
  | succ n =>
    simp only [OkC,Tryz.underlying4] at h
    exact h
theorem okb_i64 (h : OkC Tryz.prog B n 3 cs) : ∃ x, cs = [.int .i64 x] ∧ -9223372036854775808 ≤ x ∧ x ≤ 9223372036854775807 := by
  cases n with
  | zero => exact h.elim
  | succ n =>
    simp only [OkC,Tryz.underlying3] at h
    exact h
theorem okb_str (h : OkC Tryz.prog B n 9 cs) : ∃ s, cs = [.str s] ∧ s.size ≤ B := by
  cases n with
  | zero => exact h.elim
  | succ n =>
    simp only [OkC,Tryz.underlying9] at h
    exact h
theorem okb_u32s (h : OkC Tryz.prog B n 29 cs) : ∃ xs, cs = [.ints .u32 xs] ∧ InR xs ∧ xs.length ≤ B := by
  cases n with
  | zero => exact h.elim
  | succ n =>
    simp only [OkC,Tryz.underlying29,Tryz.underlying92] at h
    obtain ⟨xs, h1, h3, h2⟩ := h
    refine ⟨xs, h1, fun x hx => ?_, h3⟩
    have := h2 x hx
    have e1 : IntKind.u32.min = 0 := rfl
    have e2 : IntKind.u32.max = 4294967295 := rfl
    rw [e1, e2] at this
    omega
theorem okb_i64s (h : OkC Tryz.prog B n 22 cs) : ∃ xs, cs = [.ints .i64 xs] ∧ xs.length ≤ B := by
  cases n with
  | zero => exact h.elim
  | succ n =>
    simp only [OkC,Tryz.underlying22,Tryz.underlying3] at h
    obtain ⟨xs, h1, h3, h2⟩ := h
    exact ⟨xs, h1, h3⟩
theorem okb_int (h : OkC Tryz.prog B n 31 cs) : ∃ s xs, cs = [.bool s, .ints .u32 xs] ∧ InR xs ∧ xs.length ≤ B := by
  cases n with
  | zero => exact h.elim
  | succ n =>
    simp only [OkC,Tryz.underlying31] at h
    obtain ⟨c1, c2, rfl, h1, h2⟩ := ok_two h
    obtain ⟨s, rfl⟩ := okb_bool h1
    obtain ⟨xs, rfl, h3⟩ := okb_u32s h2
    exact ⟨s, xs, rfl, h3⟩
theorem okb_rat (h : OkC Tryz.prog B n 33 cs) : ∃ s xs t ys, cs = [.bool s, .ints .u32 xs, .bool t, .ints .u32 ys] ∧ (InR xs ∧ xs.length ≤ B) ∧ InR ys ∧ ys.length ≤ B := by
  cases n with
  | zero => exact h.elim
  | succ n =>
    simp only [OkC,Tryz.underlying33] at h
    obtain ⟨c1, c2, rfl, h1, h2⟩ := ok_two h
    obtain ⟨s, xs, rfl, h3⟩ := okb_int h1
    obtain ⟨t, ys, rfl, h4⟩ := okb_int h2
    exact ⟨s, xs, t, ys, rfl, h3, h4⟩
end
def exL (op : Int) (s : Bool) (xs : List Int) (t : Bool) (ys : List Int) (nm : ByteArray) (m : Nat) (f : Nat → Nat → C) : List C := [.int .i64 op, .bool s, .ints .u32 xs, .bool t, .ints .u32 ys, .str nm, .rows 7 m f]
set_option maxRecDepth 100000 in
theorem okb_expr {B n : Nat} {cs : List C} (h : OkC Tryz.prog B n 54 cs) : ∃ op s xs t ys nm m f k, cs = exL op s xs t ys nm m f ∧ (InR xs ∧ xs.length ≤ B) ∧ (InR ys ∧ ys.length ≤ B) ∧ nm.size ≤ B ∧ m ≤ B ∧ k < n ∧
    ∀ i, i < m → OkC Tryz.prog B k 54 [f i 0, f i 1, f i 2, f i 3, f i 4, f i 5, f i 6] := by
  cases n with
  | zero => exact h.elim
  | succ n =>
    simp only [OkC,Tryz.underlying54] at h
    obtain ⟨c1, r1, rfl, h1, c2, r2, rfl, h2, c3, r3, rfl, h3, c4, r4, rfl, h4, h5⟩ := h
    have h5 : r4 = [] := h5
    subst h5
    obtain ⟨op, rfl, _⟩ := okb_i64 h1
    obtain ⟨s, xs, t, ys, rfl, hx, hy⟩ := okb_rat h2
    obtain ⟨nm, rfl, hn⟩ := okb_str h3
    cases n with
    | zero => exact h4.elim
    | succ k =>
      simp only [OkC,Tryz.underlying23,Tryz.underlying54] at h4
      obtain ⟨m, f, rfl, hm, hf⟩ := h4
      have h7 : Tryz.prog.cellsOf 54 = 7 := by kernel_rfl
      rw [h7] at hf ⊢
      exact ⟨op, s, xs, t, ys, nm, m, f, k, rfl, hx, hy, hn, hm, by omega, hf⟩
def ExAt (f : Nat → Nat → C) (i : Nat) : Prop := ∃ op s xs t ys nm m g, [f i 0, f i 1, f i 2, f i 3, f i 4, f i 5, f i 6] = exL op s xs t ys nm m g
theorem ExAt.of {B k : Nat} {f : Nat → Nat → C} {i : Nat} (h : OkC Tryz.prog B k 54 [f i 0, f i 1, f i 2, f i 3, f i 4, f i 5, f i 6]) : ExAt f i := by
  obtain ⟨op, s, xs, t, ys, nm, m, g, _, e, _⟩ := okb_expr h
  exact ⟨op, s, xs, t, ys, nm, m, g, e⟩
theorem Formed_step (op : Int) (s : Bool) (xs : List Int) (t : Bool) (ys : List Int) (nm : ByteArray) (m : Nat) (f : Nat → Nat → C) (hm : m < 2 ^ 40) (b : Bool) (hsh : Pr Tryz.prog 122 [.agg (exL op s xs t ys nm m f)] (.one (.bool b))) (g : Nat → Bool) (hx : ∀ i, i < m → ExAt f i)
    (hg : ∀ i, i < m → Pr Tryz.prog 89 [.agg [f i 0, f i 1, f i 2, f i 3, f i 4, f i 5, f i 6]] (.one (.bool (g i)))) :
    Pr Tryz.prog 89 [.agg (exL op s xs t ys nm m f)] (.one (.bool (b && (List.range m).all g))) := by
  unfold exL at hsh ⊢
  refine pv T_ok mixed Tryz.func89 rfl (by decide) _ (by simp [Tryz.ntmps89]) ⟨[0, 1, 2, 3, 6, 11, 20], []⟩ (by kernel_rfl) _ ?_
  show vc T _ _ (Option.get! Tryz.f89.body) _ _
  simp only [Tryz.f89,Tryz.ntmps89,Option.get!,iS,iM,eO,J1]
  simp only [vx,T,K5,J0,K6,K7,↓reduceIte,J1,J2,J3,J4,J5,J6,J7,J8,J9,reduceCtorEq,K1,K2,K3,K4]
  refine Cg hsh ?_
  simp only [vx,T,K5,J0,K6,K7,↓reduceIte,J1,J2,J3,J4,J5,J6,J7,J8,J9,reduceCtorEq,K1,K2,K3,K4]
  refine ⟨fun h1 => Lg ?_, fun h1 => Lg ?_⟩
  · have h1 : b = false := by simpa using h1
    simp only [vx,T,K5,J0,K6,K7,↓reduceIte,J1,J2,J3,J4,J5,J6,J7,J8,J9,reduceCtorEq,K1,K2,K3,K4]
    exact vb (by rw [h1]; rfl)
  have h1 : b = true := by simpa using h1
  simp only [vx,T,K5,J0,K6,K7,↓reduceIte,J1,J2,J3,J4,J5,J6,J7,J8,J9,reduceCtorEq,K1,K2,K3,K4]
  refine Lk (fun y : {i : Nat // i ≤ m ∧ ∀ j, j < i → g j = true} => ⟨[(1, .one (.ptr 1 0)), (3, .one (.int .i64 y.1))], [(1, ⟨.var [.int .i64 op, .bool s, .ints .u32 xs, .bool t, .ints .u32 ys, .str nm, .rows 7 m f], true⟩)], 2, 21⟩) (fun y => m - y.1) ⟨0, Nat.zero_le _, fun j h => absurd h (Nat.not_lt_zero _)⟩ ?_ (fun ⟨i, hi, he⟩ => ?_)
  · refine Sa ?_; simp only [rx,Y0,Y1,Y2,Y3,Y4,Y5,Y6,Y7,ren,↓reduceIte,J1,J2,J3,J4,J5,J6,J7,J8,J9,reduceCtorEq,K1,K2,K3,K4,Y8,Y9,X2,X3,X4]
  have i1 := wI i (by omega)
  simp only [vx,T,K5,J0,K6,K7,↓reduceIte,J1,J2,J3,J4,J5,J6,J7,J8,J9,reduceCtorEq,K1,K2,K3,K4]
  refine ⟨fun h2 => Lg ?_, fun h2 => Lg ?_⟩
  · have him : i < m := by omega
    obtain ⟨op', s', xs', t', ys', nm', m', g', hxe⟩ := hx i him
    simp only [exL,List.cons.injEq,and_true] at hxe
    obtain ⟨e0, e1, e2, e3, e4, e5, e6⟩ := hxe
    have hgi := hg i him
    rw [e0, e1, e2, e3, e4, e5, e6] at hgi
    simp only [vx,T,K5,J0,K6,K7,↓reduceIte,J1,J2,J3,J4,J5,J6,J7,J8,J9,reduceCtorEq,K1,K2,K3,K4,e0,e1,e2,e3,e4,e5,e6]
    refine ⟨⟨by omega, by omega⟩, Cg hgi ?_⟩
    simp only [vx,T,K5,J0,K6,K7,↓reduceIte,J1,J2,J3,J4,J5,J6,J7,J8,J9,reduceCtorEq,K1,K2,K3,K4]
    refine ⟨fun h3 => Lg ?_, fun h3 => Lg ?_⟩
    · have h3 : g i = false := by simpa using h3
      simp only [vx,T,K5,J0,K6,K7,↓reduceIte,J1,J2,J3,J4,J5,J6,J7,J8,J9,reduceCtorEq,K1,K2,K3,K4]
      refine vb ?_
      rw [h1, Bool.true_and]
      exact (all_range_f him h3).symm
    have h3 : g i = true := by simpa using h3
    simp only [vx,T,K5,J0,K6,K7,↓reduceIte,J1,J2,J3,J4,J5,J6,J7,J8,J9,reduceCtorEq,K1,K2,K3,K4]
    simp only [i1]
    refine Lq ⟨i + 1, by omega, fun j hj => ?_⟩ ?_ ?_
    · by_cases hji : j < i
      · exact he j hji
      rw [show j = i by omega]; exact h3
    · refine Sa ?_; simp only [rx,Y0,Y1,Y2,Y3,Y4,Y5,Y6,Y7,ren,↓reduceIte,J1,J2,J3,J4,J5,J6,J7,J8,J9,reduceCtorEq,K1,K2,K3,K4,Y8,Y9,X2,X3,X4]
    simp only; omega
  simp only [vx,T,K5,J0,K6,K7,↓reduceIte,J1,J2,J3,J4,J5,J6,J7,J8,J9,reduceCtorEq,K1,K2,K3,K4]
  refine vb ?_
  rw [h1, Bool.true_and]
  exact (all_range.2 fun j hj => he j (by omega)).symm
def dM (g : Nat → Int) (k : Nat) : Int := (List.range k).foldl (fun a i => if a < g i then g i else a) 0
theorem dM_step (g : Nat → Int) (k : Nat) : dM g (k + 1) = if dM g k < g k then g k else dM g k := by
  unfold dM; rw [List.range_succ, List.foldl_append]; rfl
theorem Depth_step (op : Int) (s : Bool) (xs : List Int) (t : Bool) (ys : List Int) (nm : ByteArray) (m : Nat) (f : Nat → Nat → C) (hm : m < 2 ^ 40) (g : Nat → Int) (hx : ∀ i, i < m → ExAt f i)
    (hg : ∀ i, i < m → Pr Tryz.prog 90 [.agg [f i 0, f i 1, f i 2, f i 3, f i 4, f i 5, f i 6]] (.one (.int .i64 (g i)))) :
    Pr Tryz.prog 90 [.agg (exL op s xs t ys nm m f)] (.one (.int .i64 (IntKind.i64.wrap (dM g m + 1)))) := by
  unfold exL
  refine pv T_ok mixed Tryz.func90 rfl (by decide) _ (by simp [Tryz.ntmps90]) ⟨[0, 1, 2, 3, 4, 9], []⟩ (by kernel_rfl) _ ?_
  show vc T _ _ (Option.get! Tryz.f90.body) _ _
  simp only [Tryz.f90,Tryz.ntmps90,Option.get!,iS,iM,eO,J1]
  simp only [vx,T,K5,J0,K6,K7,↓reduceIte,J1,J2,J3,J4,J5,J6,J7,J8,J9,reduceCtorEq,K1,K2,K3,K4]
  refine Lk (fun y : {i : Nat // i ≤ m} => ⟨[(1, .one (.ptr 1 0)), (3, .one (.int .i64 (dM g y.1))), (4, .one (.int .i64 y.1))], [(1, ⟨.var [.int .i64 op, .bool s, .ints .u32 xs, .bool t, .ints .u32 ys, .str nm, .rows 7 m f], true⟩)], 2, 22⟩) (fun y => m - y.1) ⟨0, Nat.zero_le _⟩ ?_ (fun ⟨i, hi⟩ => ?_)
  · refine Sa ?_; simp only [rx,Y0,Y1,Y2,Y3,Y4,Y5,Y6,Y7,ren,↓reduceIte,J1,J2,J3,J4,J5,J6,J7,J8,J9,reduceCtorEq,K1,K2,K3,K4,Y8,Y9,X2,X3,X4]
    rfl
  have i1 := wI i (by omega)
  have hs := dM_step g i
  simp only [vx,T,K5,J0,K6,K7,↓reduceIte,J1,J2,J3,J4,J5,J6,J7,J8,J9,reduceCtorEq,K1,K2,K3,K4]
  refine ⟨fun h2 => Lg ?_, fun h2 => Lg ?_⟩
  · have him : i < m := by omega
    obtain ⟨op', s', xs', t', ys', nm', m', g', hxe⟩ := hx i him
    simp only [exL,List.cons.injEq,and_true] at hxe
    obtain ⟨e0, e1, e2, e3, e4, e5, e6⟩ := hxe
    have hgi := hg i him
    rw [e0, e1, e2, e3, e4, e5, e6] at hgi
    simp only [vx,T,K5,J0,K6,K7,↓reduceIte,J1,J2,J3,J4,J5,J6,J7,J8,J9,reduceCtorEq,K1,K2,K3,K4,e0,e1,e2,e3,e4,e5,e6]
    refine ⟨⟨by omega, by omega⟩, Cg hgi ?_⟩
    simp only [vx,T,K5,J0,K6,K7,↓reduceIte,J1,J2,J3,J4,J5,J6,J7,J8,J9,reduceCtorEq,K1,K2,K3,K4,maxC]
    simp only [i1]
    refine Lq ⟨i + 1, by omega⟩ ?_ ?_
    · refine Sa ?_; simp only [rx,Y0,Y1,Y2,Y3,Y4,Y5,Y6,Y7,ren,↓reduceIte,J1,J2,J3,J4,J5,J6,J7,J8,J9,reduceCtorEq,K1,K2,K3,K4,Y8,Y9,X2,X3,X4,hs]
    simp only; omega
  have him : i = m := by omega
  subst him
  simp only [vx,T,K5,J0,K6,K7,↓reduceIte,J1,J2,J3,J4,J5,J6,J7,J8,J9,reduceCtorEq,K1,K2,K3,K4]
  exact Ve rfl
theorem Formed_ex {B : Nat} (hB : B ≤ 2 ^ 30) : ∀ (n : Nat) (cs : List C), OkC Tryz.prog B n 54 cs → ∃ b, Pr Tryz.prog 89 [.agg cs] (.one (.bool b)) := by
  intro n
  induction n using Nat.strongRecOn with
  | _ n ih =>
    intro cs h
    obtain ⟨op, s, xs, t, ys, nm, m, f, k, rfl, hx, hy, hn, hm, hk, hf⟩ := okb_expr h
    obtain ⟨S, d, hd⟩ := Decimal_ex s t xs ys hx.1 hy.1 (by omega) (by omega)
    have hsh := shape_spec op s t xs ys nm m f (by omega) hd
    obtain ⟨g, hg⟩ := Classical.axiomOfChoice (r := fun (i : Nat) (b : Bool) => i < m → Pr Tryz.prog 89 [.agg [f i 0, f i 1, f i 2, f i 3, f i 4, f i 5, f i 6]] (.one (.bool b))) (fun i => by
      by_cases hi : i < m
      · obtain ⟨b, hb⟩ := ih k hk _ (hf i hi); exact ⟨b, fun _ => hb⟩
      exact ⟨true, fun h => absurd h hi⟩)
    exact ⟨_, Formed_step op s xs t ys nm m f (by omega) _ hsh g (fun i hi => ExAt.of (hf i hi)) hg⟩
theorem Depth_ex {B : Nat} (hB : B ≤ 2 ^ 30) : ∀ (n : Nat) (cs : List C), OkC Tryz.prog B n 54 cs → ∃ x, Pr Tryz.prog 90 [.agg cs] (.one (.int .i64 x)) := by
  intro n
  induction n using Nat.strongRecOn with
  | _ n ih =>
    intro cs h
    obtain ⟨op, s, xs, t, ys, nm, m, f, k, rfl, hx, hy, hn, hm, hk, hf⟩ := okb_expr h
    obtain ⟨g, hg⟩ := Classical.axiomOfChoice (r := fun (i : Nat) (x : Int) => i < m → Pr Tryz.prog 90 [.agg [f i 0, f i 1, f i 2, f i 3, f i 4, f i 5, f i 6]] (.one (.int .i64 x))) (fun i => by
      by_cases hi : i < m
      · obtain ⟨b, hb⟩ := ih k hk _ (hf i hi); exact ⟨b, fun _ => hb⟩
      exact ⟨0, fun h => absurd h hi⟩)
    exact ⟨_, Depth_step op s xs t ys nm m f (by omega) g (fun i hi => ExAt.of (hf i hi)) hg⟩
theorem xValid_step (op : Int) (s : Bool) (xs : List Int) (t : Bool) (ys : List Int) (nm : ByteArray) (m : Nat) (f : Nat → Nat → C) (b : Bool) (x : Int) (h1 : Pr Tryz.prog 89 [.agg (exL op s xs t ys nm m f)] (.one (.bool b)))
    (h2 : Pr Tryz.prog 90 [.agg (exL op s xs t ys nm m f)] (.one (.int .i64 x))) : Pr Tryz.prog 51 [.agg (exL op s xs t ys nm m f)] (.one (.int .i64 (if b = true then (if 40 < x then 3 else 0) else 1))) := by
  unfold exL at h1 h2 ⊢
  refine pv T_ok mixed Tryz.func51 rfl (by decide) _ (by simp [Tryz.ntmps51]) ⟨[0, 1, 2, 5, 8], []⟩ (by kernel_rfl) _ ?_
  show vc T _ _ (Option.get! Tryz.f51.body) _ _
  simp only [Tryz.f51,Tryz.ntmps51,Option.get!,iS,iM,eO,J1]
  simp only [vx,T,K5,J0,K6,K7,↓reduceIte,J1,J2,J3,J4,J5,J6,J7,J8,J9,reduceCtorEq,K1,K2,K3,K4]
  refine Cg h1 ?_
  simp only [vx,T,K5,J0,K6,K7,↓reduceIte,J1,J2,J3,J4,J5,J6,J7,J8,J9,reduceCtorEq,K1,K2,K3,K4]
  refine ⟨fun k1 => Lg ?_, fun k1 => Lg ?_⟩
  · have k1 : b = false := by simpa using k1
    simp only [vx,T,K5,J0,K6,K7,↓reduceIte,J1,J2,J3,J4,J5,J6,J7,J8,J9,reduceCtorEq,K1,K2,K3,K4]
    rw [if_neg (by rw [k1]; simp)]
    exact Ve rfl
  have k1 : b = true := by simpa using k1
  rw [if_pos k1]
  simp only [vx,T,K5,J0,K6,K7,↓reduceIte,J1,J2,J3,J4,J5,J6,J7,J8,J9,reduceCtorEq,K1,K2,K3,K4]
  refine Cg h2 ?_
  simp only [vx,T,K5,J0,K6,K7,↓reduceIte,J1,J2,J3,J4,J5,J6,J7,J8,J9,reduceCtorEq,K1,K2,K3,K4]
  refine ⟨fun k2 => Lg ?_, fun k2 => Lg ?_⟩
  · rw [if_pos k2]
    simp only [vx,T,K5,J0,K6,K7,↓reduceIte,J1,J2,J3,J4,J5,J6,J7,J8,J9,reduceCtorEq,K1,K2,K3,K4]
    exact Ve rfl
  rw [if_neg k2]
  simp only [vx,T,K5,J0,K6,K7,↓reduceIte,J1,J2,J3,J4,J5,J6,J7,J8,J9,reduceCtorEq,K1,K2,K3,K4]
  exact Ve rfl
theorem xValid_ex {B : Nat} (hB : B ≤ 2 ^ 30) (n : Nat) (cs : List C) (h : OkC Tryz.prog B n 54 cs) : ∃ e, Pr Tryz.prog 51 [.agg cs] (.one (.int .i64 e)) := by
  obtain ⟨b, h1⟩ := Formed_ex hB n cs h
  obtain ⟨x, h2⟩ := Depth_ex hB n cs h
  obtain ⟨op, s, xs, t, ys, nm, m, f, k, rfl, _⟩ := okb_expr h
  exact ⟨_, xValid_step op s xs t ys nm m f b x h1 h2⟩
open Go Go.Eng
def wiB (l : List Int) (n : Int) : Bool := (List.range l.length).all fun i => decide (0 ≤ l.getD i 0) && decide (l.getD i 0 < n)
theorem within_spec (l : List Int) (n : Int) (hl : l.length < 2 ^ 40) : Pr Tryz.prog 50 [.one (.ints .i64 l), .one (.int .i64 n)] (.one (.bool (wiB l n))) := by
  refine pv T_ok mixed Tryz.func50 rfl (by decide) _ (by simp [Tryz.ntmps50]) ⟨[0, 1, 4, 5, 9, 24], []⟩ (by kernel_rfl) _ ?_
  show vc T _ _ (Option.get! Tryz.f50.body) _ _
  simp only [Tryz.f50,Tryz.ntmps50,Option.get!,iS,iM,eO,J1]
  simp only [vx,T,K5,J0,K6,K7,↓reduceIte,J1,J2,J3,J4,J5,J6,J7,J8,J9,reduceCtorEq,K1,K2,K3,K4]
  refine Lk (fun y : {i : Nat // i ≤ l.length ∧ ∀ j, j < i → (decide (0 ≤ l.getD j 0) && decide (l.getD j 0 < n)) = true} => ⟨[(0, .one (.ints .i64 l)), (1, .one (.int .i64 n)), (5, .one (.int .i64 y.1))], [], 1, 25⟩) (fun y => l.length - y.1) ⟨0, Nat.zero_le _, fun j h => absurd h (Nat.not_lt_zero _)⟩ ?_ (fun ⟨i, hi, he⟩ => ?_)
  · refine Sa ?_; simp only [rx,Y0,Y1,Y2,Y3,Y4,Y5,Y6,Y7,ren,↓reduceIte,J1,J2,J3,J4,J5,J6,J7,J8,J9,reduceCtorEq,K1,K2,K3,K4,Y8,Y9,X2,X3,X4]
  have i1 := wI i (by omega)
  simp only [vx,T,K5,J0,K6,K7,↓reduceIte,J1,J2,J3,J4,J5,J6,J7,J8,J9,reduceCtorEq,K1,K2,K3,K4]
  refine ⟨fun h1 => Lg ?_, fun h1 => Lg ?_⟩
  · have hil : i < l.length := by omega
    simp only [vx,T,K5,J0,K6,K7,↓reduceIte,J1,J2,J3,J4,J5,J6,J7,J8,J9,reduceCtorEq,K1,K2,K3,K4]
    refine ⟨⟨by omega, by omega⟩, ?_⟩
    refine ⟨fun h2 => Lg ?_, fun h2 => Lg ?_⟩
    · simp only [vx,T,K5,J0,K6,K7,↓reduceIte,J1,J2,J3,J4,J5,J6,J7,J8,J9,reduceCtorEq,K1,K2,K3,K4]
      exact vb (all_range_f hil (by rw [decide_eq_false (p := 0 ≤ l.getD i 0) (by omega)]; rfl)).symm
    simp only [vx,T,K5,J0,K6,K7,↓reduceIte,J1,J2,J3,J4,J5,J6,J7,J8,J9,reduceCtorEq,K1,K2,K3,K4]
    refine ⟨⟨by omega, by omega⟩, ?_⟩
    refine ⟨fun h3 => Lg ?_, fun h3 => Lg ?_⟩
    · simp only [vx,T,K5,J0,K6,K7,↓reduceIte,J1,J2,J3,J4,J5,J6,J7,J8,J9,reduceCtorEq,K1,K2,K3,K4]
      exact vb (all_range_f hil (by rw [decide_eq_false (p := l.getD i 0 < n) (by omega), Bool.and_false])).symm
    simp only [vx,T,K5,J0,K6,K7,↓reduceIte,J1,J2,J3,J4,J5,J6,J7,J8,J9,reduceCtorEq,K1,K2,K3,K4]
    simp only [i1]
    refine Lq ⟨i + 1, by omega, fun j hj => ?_⟩ ?_ ?_
    · by_cases hji : j < i
      · exact he j hji
      rw [show j = i by omega, decide_eq_true (p := 0 ≤ l.getD i 0) (by omega), decide_eq_true (p := l.getD i 0 < n) (by omega)]; rfl
    · refine Sa ?_; simp only [rx,Y0,Y1,Y2,Y3,Y4,Y5,Y6,Y7,ren,↓reduceIte,J1,J2,J3,J4,J5,J6,J7,J8,J9,reduceCtorEq,K1,K2,K3,K4,Y8,Y9,X2,X3,X4]
    simp only; omega
  simp only [vx,T,K5,J0,K6,K7,↓reduceIte,J1,J2,J3,J4,J5,J6,J7,J8,J9,reduceCtorEq,K1,K2,K3,K4]
  exact vb (all_range.2 fun j hj => he j (by omega)).symm
def diB (l : List Int) : Bool := (List.range l.length).all fun i => (List.range i).all fun k => decide (l.getD i 0 ≠ l.getD k 0)
theorem different_spec (l : List Int) (hl : l.length < 2 ^ 40) : Pr Tryz.prog 52 [.one (.ints .i64 l)] (.one (.bool (diB l))) := by
  refine pv T_ok mixed Tryz.func52 rfl (by decide) _ (by simp [Tryz.ntmps52]) ⟨[0, 2, 3, 4, 8, 13, 24], []⟩ (by kernel_rfl) _ ?_
  show vc T _ _ (Option.get! Tryz.f52.body) _ _
  simp only [Tryz.f52,Tryz.ntmps52,Option.get!,iS,iM,eO,J1]
  simp only [vx,T,K5,J0,K6,K7,↓reduceIte,J1,J2,J3,J4,J5,J6,J7,J8,J9,reduceCtorEq,K1,K2,K3,K4]
  refine Lk (fun y : {i : Nat // i ≤ l.length ∧ ∀ j, j < i → ((List.range j).all fun k => decide (l.getD j 0 ≠ l.getD k 0)) = true} => ⟨[(0, .one (.ints .i64 l)), (3, .one (.int .i64 y.1))], [], 1, 25⟩) (fun y => l.length - y.1) ⟨0, Nat.zero_le _, fun j h => absurd h (Nat.not_lt_zero _)⟩ ?_ (fun ⟨i, hi, he⟩ => ?_)
  · refine Sa ?_; simp only [rx,Y0,Y1,Y2,Y3,Y4,Y5,Y6,Y7,ren,↓reduceIte,J1,J2,J3,J4,J5,J6,J7,J8,J9,reduceCtorEq,K1,K2,K3,K4,Y8,Y9,X2,X3,X4]
  have i1 := wI i (by omega)
  simp only [vx,T,K5,J0,K6,K7,↓reduceIte,J1,J2,J3,J4,J5,J6,J7,J8,J9,reduceCtorEq,K1,K2,K3,K4]
  refine ⟨fun h1 => Lg ?_, fun h1 => Lg ?_⟩
  · have hil : i < l.length := by omega
    simp only [vx,T,K5,J0,K6,K7,↓reduceIte,J1,J2,J3,J4,J5,J6,J7,J8,J9,reduceCtorEq,K1,K2,K3,K4]
    refine Lk (fun y : {k : Nat // k ≤ i ∧ ∀ j, j < k → decide (l.getD i 0 ≠ l.getD j 0) = true} => ⟨[(0, .one (.ints .i64 l)), (3, .one (.int .i64 i)), (4, .one (.int .i64 y.1))], [], 1, 25⟩) (fun y => i - y.1) ⟨0, Nat.zero_le _, fun j h => absurd h (Nat.not_lt_zero _)⟩ ?_ (fun ⟨k, hk, hk2⟩ => ?_)
    · refine Sa ?_; simp only [rx,Y0,Y1,Y2,Y3,Y4,Y5,Y6,Y7,ren,↓reduceIte,J1,J2,J3,J4,J5,J6,J7,J8,J9,reduceCtorEq,K1,K2,K3,K4,Y8,Y9,X2,X3,X4]
    have k1 : IntKind.i64.wrap ((k : Int) + 1) = ((k + 1 : Nat) : Int) := by rw [IntWalk.i64_in _ (by omega)]; omega
    simp only [vx,T,K5,J0,K6,K7,↓reduceIte,J1,J2,J3,J4,J5,J6,J7,J8,J9,reduceCtorEq,K1,K2,K3,K4]
    refine ⟨fun h2 => Lg ?_, fun h2 => Lg ?_⟩
    · have hki : k < i := by omega
      simp only [vx,T,K5,J0,K6,K7,↓reduceIte,J1,J2,J3,J4,J5,J6,J7,J8,J9,reduceCtorEq,K1,K2,K3,K4]
      refine ⟨⟨by omega, by omega⟩, ⟨by omega, by omega⟩, ?_⟩
      refine ⟨fun h3 => Lg ?_, fun h3 => Lg ?_⟩
      · simp only [vx,T,K5,J0,K6,K7,↓reduceIte,J1,J2,J3,J4,J5,J6,J7,J8,J9,reduceCtorEq,K1,K2,K3,K4]
        exact vb (all_range_f hil (all_range_f hki (decide_eq_false (fun e => e h3)))).symm
      simp only [vx,T,K5,J0,K6,K7,↓reduceIte,J1,J2,J3,J4,J5,J6,J7,J8,J9,reduceCtorEq,K1,K2,K3,K4]
      simp only [k1]
      refine Lq ⟨k + 1, by omega, fun j hj => ?_⟩ ?_ ?_
      · by_cases hji : j < k
        · exact hk2 j hji
        rw [show j = k by omega]; exact decide_eq_true h3
      · refine Sa ?_; simp only [rx,Y0,Y1,Y2,Y3,Y4,Y5,Y6,Y7,ren,↓reduceIte,J1,J2,J3,J4,J5,J6,J7,J8,J9,reduceCtorEq,K1,K2,K3,K4,Y8,Y9,X2,X3,X4]
      simp only; omega
    have hki : k = i := by omega
    subst hki
    simp only [vx,T,K5,J0,K6,K7,↓reduceIte,J1,J2,J3,J4,J5,J6,J7,J8,J9,reduceCtorEq,K1,K2,K3,K4]
    simp only [i1]
    refine Lq ⟨k + 1, by omega, fun j hj => ?_⟩ ?_ ?_
    · by_cases hji : j < k
      · exact he j hji
      rw [show j = k by omega]; exact all_range.2 fun a ha => hk2 a ha
    · refine Sa ?_; simp only [rx,Y0,Y1,Y2,Y3,Y4,Y5,Y6,Y7,ren,↓reduceIte,J1,J2,J3,J4,J5,J6,J7,J8,J9,reduceCtorEq,K1,K2,K3,K4,Y8,Y9,X2,X3,X4]
    simp only; omega
  simp only [vx,T,K5,J0,K6,K7,↓reduceIte,J1,J2,J3,J4,J5,J6,J7,J8,J9,reduceCtorEq,K1,K2,K3,K4]
  exact vb (all_range.2 fun j hj => he j (by omega)).symm
theorem Few_spec (s t : Bool) (xs ys : List Int) (n : Int) (hx : InR xs) (hy : InR ys) (hxl : xs.length < 2 ^ 36) (hyl : ys.length < 2 ^ 36) :
    Pr Tryz.prog 6 [.agg [.bool s, .ints .u32 xs, .bool t, .ints .u32 ys], .one (.int .i64 n)] (.one (.bool (decide ((xs.length : Int) ≤ n) && (decide ((ys.length : Int) ≤ n) && okQ s xs t ys)))) := by
  have hv := rQValid_spec s t xs ys hx hy hxl hyl
  refine pv T_ok mixed Tryz.func6 rfl (by decide) _ (by simp [Tryz.ntmps6]) ⟨[0, 1, 2, 4], []⟩ (by kernel_rfl) _ ?_
  show vc T _ _ (Option.get! Tryz.f6.body) _ _
  simp only [Tryz.f6,Tryz.ntmps6,Option.get!,iS,iM,eO,J1]
  simp only [vx,T,K5,J0,K6,K7,↓reduceIte,J1,J2,J3,J4,J5,J6,J7,J8,J9,reduceCtorEq,K1,K2,K3,K4]
  refine ⟨fun h1 => Lg ?_, fun h1 => Lg ?_⟩
  · simp only [vx,T,K5,J0,K6,K7,↓reduceIte,J1,J2,J3,J4,J5,J6,J7,J8,J9,reduceCtorEq,K1,K2,K3,K4]
    refine ⟨fun h2 => Lg ?_, fun h2 => Lg ?_⟩
    · simp only [vx,T,K5,J0,K6,K7,↓reduceIte,J1,J2,J3,J4,J5,J6,J7,J8,J9,reduceCtorEq,K1,K2,K3,K4]
      refine Cg hv ?_
      simp only [vx,T,K5,J0,K6,K7,↓reduceIte,J1,J2,J3,J4,J5,J6,J7,J8,J9,reduceCtorEq,K1,K2,K3,K4]
      exact vb (by rw [decide_eq_true h1, decide_eq_true h2]; rfl)
    simp only [vx,T,K5,J0,K6,K7,↓reduceIte,J1,J2,J3,J4,J5,J6,J7,J8,J9,reduceCtorEq,K1,K2,K3,K4]
    exact vb (by rw [decide_eq_true h1, decide_eq_false h2]; rfl)
  simp only [vx,T,K5,J0,K6,K7,↓reduceIte,J1,J2,J3,J4,J5,J6,J7,J8,J9,reduceCtorEq,K1,K2,K3,K4]
  exact vb (by rw [decide_eq_false h1]; rfl)
open Go Go.Eng
def rowT : List (List C) := [
  [.str ⟨#[102, 105, 120]⟩, .int .i64 1, .int .i64 0, .int .i64 2, .int .i64 1, .int .i64 2, .bool false],
  [.str ⟨#[100, 105, 115, 116, 97, 110, 99, 101]⟩, .int .i64 2, .int .i64 0, .int .i64 1, .int .i64 2, .int .i64 1, .bool false],
  [.str ⟨#[105, 110, 99, 105, 100, 101, 110, 116]⟩, .int .i64 3, .int .i64 0, .int .i64 0, .int .i64 0, .int .i64 1, .bool false],
  [.str ⟨#[111, 102, 102, 115, 101, 116]⟩, .int .i64 3, .int .i64 0, .int .i64 1, .int .i64 2, .int .i64 1, .bool true],
  [.str ⟨#[97, 110, 103, 108, 101]⟩, .int .i64 4, .int .i64 0, .int .i64 1, .int .i64 3, .int .i64 1, .bool false],
  [.str ⟨#[112, 97, 114, 97, 108, 108, 101, 108]⟩, .int .i64 4, .int .i64 0, .int .i64 0, .int .i64 0, .int .i64 1, .bool false],
  [.str ⟨#[112, 101, 114, 112, 101, 110, 100, 105, 99, 117, 108, 97, 114]⟩, .int .i64 4, .int .i64 0, .int .i64 0, .int .i64 0, .int .i64 1, .bool false],
  [.str ⟨#[101, 113, 117, 97, 108]⟩, .int .i64 4, .int .i64 0, .int .i64 0, .int .i64 0, .int .i64 1, .bool false],
  [.str ⟨#[109, 105, 100, 112, 111, 105, 110, 116]⟩, .int .i64 3, .int .i64 0, .int .i64 0, .int .i64 0, .int .i64 2, .bool false],
  [.str ⟨#[115, 121, 109, 109, 101, 116, 114, 105, 99]⟩, .int .i64 4, .int .i64 0, .int .i64 0, .int .i64 0, .int .i64 2, .bool false],
  [.str ⟨#[104, 111, 114, 105, 122, 111, 110, 116, 97, 108]⟩, .int .i64 2, .int .i64 0, .int .i64 0, .int .i64 0, .int .i64 1, .bool false],
  [.str ⟨#[118, 101, 114, 116, 105, 99, 97, 108]⟩, .int .i64 2, .int .i64 0, .int .i64 0, .int .i64 0, .int .i64 1, .bool false],
  [.str ⟨#[111, 110, 99, 105, 114, 99, 108, 101]⟩, .int .i64 1, .int .i64 1, .int .i64 0, .int .i64 0, .int .i64 1, .bool false],
  [.str ⟨#[114, 97, 100, 105, 117, 115]⟩, .int .i64 0, .int .i64 1, .int .i64 1, .int .i64 2, .int .i64 1, .bool false],
  [.str ⟨#[115, 97, 109, 101, 114, 97, 100, 105, 117, 115]⟩, .int .i64 0, .int .i64 2, .int .i64 0, .int .i64 0, .int .i64 1, .bool false],
  [.str ⟨#[116, 97, 110, 103, 101, 110, 116, 108, 105, 110, 101]⟩, .int .i64 2, .int .i64 1, .int .i64 0, .int .i64 0, .int .i64 1, .bool true],
  [.str ⟨#[116, 97, 110, 103, 101, 110, 116, 99, 105, 114, 99, 108, 101]⟩, .int .i64 0, .int .i64 2, .int .i64 0, .int .i64 0, .int .i64 1, .bool true]]
theorem flat_getD {k : Nat} : ∀ {l : List (List C)}, (∀ r ∈ l, r.length = k) → ∀ {i j : Nat}, i < l.length → j < k → l.flatten.getD (i * k + j) .any = (l.getD i []).getD j .any
  | [], _, i, j, hi, _ => absurd hi (Nat.not_lt_zero _)
  | r :: l, h, 0, j, _, hj => by
    rw [Nat.zero_mul, Nat.zero_add, List.flatten_cons, X7, List.getElem?_append_left (by rw [h r (by simp)]; exact hj), ← X7]; rfl
  | r :: l, h, i + 1, j, hi, hj => by
    have hr := h r (by simp)
    rw [List.flatten_cons, X7, List.getElem?_append_right (by rw [hr, Nat.add_mul]; omega), ← X7, hr, show (i + 1) * k + j - k = i * k + j by rw [Nat.add_mul]; omega]
    rw [flat_getD (fun r' hr' => h r' (by simp [hr'])) (by simpa using hi) hj]; rfl
theorem rowT_len : ∀ r ∈ rowT, r.length = 7 := by
  intro r hr
  simp only [rowT,List.mem_cons,List.not_mem_nil,or_false] at hr
  rcases hr with rfl | rfl | rfl | rfl | rfl | rfl | rfl | rfl | rfl | rfl | rfl | rfl | rfl | rfl | rfl | rfl | rfl <;> rfl
def RowsC : C := .rows 7 17 (fun i j => (rowT.getD i []).getD j .any)
theorem Rows_spec : Pr Tryz.prog 88 [] (.one RowsC) := by
  refine pv T_ok mixed Tryz.func88 rfl (by decide) _ (by simp [Tryz.ntmps88]) ⟨[0], []⟩ (by kernel_rfl) _ ?_
  show vc T _ _ (Option.get! Tryz.f88.body) _ _
  simp only [Tryz.f88,Tryz.ntmps88,Option.get!,iS,iM,eO,J1]
  simp only [vx,T,K5,J0,K6,K7,↓reduceIte,J1,J2,J3,J4,J5,J6,J7,J8,J9,reduceCtorEq,K1,K2,K3,K4]
  refine Va ⟨rfl, rfl, fun i j hi hj => ?_⟩
  refine Eq.trans ?_ (flat_getD rowT_len (i := i) (j := j) hi hj)
  rfl
def rowF (s : ByteArray) (p c n v e : Int) (b : Bool) : List C := [.str s, .int .i64 p, .int .i64 c, .int .i64 n, .int .i64 v, .int .i64 e, .bool b]
theorem kOf_spec (k : Nat) (h1 : 1 ≤ k) (h2 : k ≤ 17) {s : ByteArray} {p c n v e : Int} {b : Bool} (h : rowT.getD (k - 1) [] = rowF s p c n v e b) : Pr Tryz.prog 49 [.one (.int .i64 k)] (.tup [.agg (rowF s p c n v e b), .one (.bool true)]) := by
  unfold rowF at h ⊢
  have w : IntKind.i64.wrap ((k : Int) - 1) = ((k - 1 : Nat) : Int) := by rw [IntWalk.i64_in _ (by omega)]; omega
  refine pv T_ok mixed Tryz.func49 rfl (by decide) _ (by simp [Tryz.ntmps49]) ⟨[0, 2, 3, 11], []⟩ (by kernel_rfl) _ ?_
  show vc T _ _ (Option.get! Tryz.f49.body) _ _
  simp only [Tryz.f49,Tryz.ntmps49,Option.get!,iS,iM,eO,J1]
  simp only [vx,T,K5,J0,K6,K7,↓reduceIte,J1,J2,J3,J4,J5,J6,J7,J8,J9,reduceCtorEq,K1,K2,K3,K4]
  refine ⟨fun h => absurd h (by omega), fun _ => Lg ?_⟩
  simp only [vx,T,K5,J0,K6,K7,↓reduceIte,J1,J2,J3,J4,J5,J6,J7,J8,J9,reduceCtorEq,K1,K2,K3,K4]
  refine Cg Rows_spec ?_
  simp only [vx,T,K5,J0,K6,K7,↓reduceIte,J1,J2,J3,J4,J5,J6,J7,J8,J9,reduceCtorEq,K1,K2,K3,K4,RowsC]
  refine ⟨fun h => absurd h (by omega), fun _ => Lg ?_⟩
  simp only [vx,T,K5,J0,K6,K7,↓reduceIte,J1,J2,J3,J4,J5,J6,J7,J8,J9,reduceCtorEq,K1,K2,K3,K4,RowsC]
  refine Cg Rows_spec ?_
  simp only [vx,T,K5,J0,K6,K7,↓reduceIte,J1,J2,J3,J4,J5,J6,J7,J8,J9,reduceCtorEq,K1,K2,K3,K4,RowsC,w,h,X0,X1]
  refine ⟨⟨by omega, by omega⟩, ?_⟩
  exact Ve rfl
theorem kOf_out (k : Int) (h : k < 1 ∨ 17 < k) : Pr Tryz.prog 49 [.one (.int .i64 k)] (.tup [.agg (rowF ⟨#[]⟩ 0 0 0 0 0 false), .one (.bool false)]) := by
  unfold rowF
  refine pv T_ok mixed Tryz.func49 rfl (by decide) _ (by simp [Tryz.ntmps49]) ⟨[0, 2, 3, 11], []⟩ (by kernel_rfl) _ ?_
  show vc T _ _ (Option.get! Tryz.f49.body) _ _
  simp only [Tryz.f49,Tryz.ntmps49,Option.get!,iS,iM,eO,J1]
  simp only [vx,T,K5,J0,K6,K7,↓reduceIte,J1,J2,J3,J4,J5,J6,J7,J8,J9,reduceCtorEq,K1,K2,K3,K4]
  refine ⟨fun h1 => Lg ?_, fun h1 => Lg ?_⟩
  · simp only [vx,T,K5,J0,K6,K7,↓reduceIte,J1,J2,J3,J4,J5,J6,J7,J8,J9,reduceCtorEq,K1,K2,K3,K4]
    exact Ve rfl
  have h2 : 17 < k := by omega
  simp only [vx,T,K5,J0,K6,K7,↓reduceIte,J1,J2,J3,J4,J5,J6,J7,J8,J9,reduceCtorEq,K1,K2,K3,K4]
  refine Cg Rows_spec ?_
  simp only [vx,T,K5,J0,K6,K7,↓reduceIte,J1,J2,J3,J4,J5,J6,J7,J8,J9,reduceCtorEq,K1,K2,K3,K4,RowsC]
  refine ⟨fun _ => Lg ?_, fun h => absurd h2 h⟩
  simp only [vx,T,K5,J0,K6,K7,↓reduceIte,J1,J2,J3,J4,J5,J6,J7,J8,J9,reduceCtorEq,K1,K2,K3,K4]
  exact Ve rfl
open Go Go.Eng
def sideB (b : Bool) (s : Int) : Bool := if b = true then (decide (s = 1) || decide (s = -1)) else decide (s = 0)
def finB (k : Nat) (pts cir : List Int) : Bool := if 5 ≤ k ∧ k ≤ 8 then
    (decide (pts.getD 0 0 ≠ pts.getD 1 0) && (decide (pts.getD 2 0 ≠ pts.getD 3 0) && !((decide (pts.getD 0 0 = pts.getD 2 0) && decide (pts.getD 1 0 = pts.getD 3 0)) || (decide (pts.getD 0 0 = pts.getD 3 0) && decide (pts.getD 1 0 = pts.getD 2 0)))))
  else diB pts && diB cir
def cvB (k : Nat) (p c n : Int) (b : Bool) (pts cir : List Int) (m : Nat) (np nc : Int) (e : Nat → Int) (side : Int) : Bool :=
  decide ((pts.length : Int) = p) && (decide ((cir.length : Int) = c) && (decide ((m : Int) = n) && (wiB pts np && (wiB cir nc && ((List.range m).all (fun i => decide (e i = 0)) && (sideB b side && finB k pts cir))))))
theorem cValid_spec (k : Nat) (h1 : 1 ≤ k) (h2 : k ≤ 17) {s : ByteArray} {p c n v e : Int} {b : Bool} (h : rowT.getD (k - 1) [] = rowF s p c n v e b) (hp4 : 5 ≤ k ∧ k ≤ 8 → p = 4 ∧ b = false) (pts cir : List Int) (hpl : pts.length < 2 ^ 40) (hcl : cir.length < 2 ^ 40) (m : Nat) (hm : m < 2 ^ 40) (f : Nat → Nat → C) (side np nc : Int)
    (hx : ∀ i, i < m → ExAt f i) (er : Nat → Int) (he : ∀ i, i < m → Pr Tryz.prog 51 [.agg [f i 0, f i 1, f i 2, f i 3, f i 4, f i 5, f i 6]] (.one (.int .i64 (er i)))) :
    Pr Tryz.prog 16 [.agg [.int .i64 k, .ints .i64 pts, .ints .i64 cir, .rows 7 m f, .int .i64 side], .one (.int .i64 np), .one (.int .i64 nc)] (.one (.bool (cvB k p c n b pts cir m np nc er side))) := by
  have ko := kOf_spec k h1 h2 h
  unfold rowF at ko
  have w1 := within_spec pts np hpl
  have w2 := within_spec cir nc hcl
  have d1 := different_spec pts hpl
  have d2 := different_spec cir hcl
  refine pv T_ok mixed Tryz.func16 rfl (by decide) _ (by simp [Tryz.ntmps16]) ⟨[0, 1, 2, 3, 6, 7, 8, 9, 10, 11, 57, 62, 71, 93, 97, 98], []⟩ (by kernel_rfl) _ ?_
  show vc T _ _ (Option.get! Tryz.f16.body) _ _
  simp only [Tryz.f16,Tryz.ntmps16,Option.get!,iS,iM,eO,J1]
  simp only [vx,T,K5,J0,K6,K7,↓reduceIte,J1,J2,J3,J4,J5,J6,J7,J8,J9,reduceCtorEq,K1,K2,K3,K4]
  refine Cg ko ?_
  simp only [vx,T,K5,J0,K6,K7,↓reduceIte,J1,J2,J3,J4,J5,J6,J7,J8,J9,reduceCtorEq,K1,K2,K3,K4]
  refine ⟨fun g1 => Lg ?_, fun g1 => Lg ?_⟩
  · simp only [vx,T,K5,J0,K6,K7,↓reduceIte,J1,J2,J3,J4,J5,J6,J7,J8,J9,reduceCtorEq,K1,K2,K3,K4]
    exact vb (by unfold cvB; rw [decide_eq_false g1]; rfl)
  simp only [vx,T,K5,J0,K6,K7,↓reduceIte,J1,J2,J3,J4,J5,J6,J7,J8,J9,reduceCtorEq,K1,K2,K3,K4]
  refine ⟨fun g2 => Lg ?_, fun g2 => Lg ?_⟩
  · simp only [vx,T,K5,J0,K6,K7,↓reduceIte,J1,J2,J3,J4,J5,J6,J7,J8,J9,reduceCtorEq,K1,K2,K3,K4]
    exact vb (by unfold cvB; rw [decide_eq_false g2, Bool.false_and, Bool.and_false])
  simp only [vx,T,K5,J0,K6,K7,↓reduceIte,J1,J2,J3,J4,J5,J6,J7,J8,J9,reduceCtorEq,K1,K2,K3,K4]
  refine ⟨fun g3 => Lg ?_, fun g3 => Lg ?_⟩
  · simp only [vx,T,K5,J0,K6,K7,↓reduceIte,J1,J2,J3,J4,J5,J6,J7,J8,J9,reduceCtorEq,K1,K2,K3,K4]
    exact vb (by unfold cvB; rw [decide_eq_false g3, Bool.false_and, Bool.and_false, Bool.and_false])
  simp only [vx,T,K5,J0,K6,K7,↓reduceIte,J1,J2,J3,J4,J5,J6,J7,J8,J9,reduceCtorEq,K1,K2,K3,K4]
  refine Cg w1 ?_
  simp only [vx,T,K5,J0,K6,K7,↓reduceIte,J1,J2,J3,J4,J5,J6,J7,J8,J9,reduceCtorEq,K1,K2,K3,K4]
  refine ⟨fun g4 => Lg ?_, fun g4 => Lg ?_⟩
  · have g4 : wiB pts np = false := by simpa using g4
    simp only [vx,T,K5,J0,K6,K7,↓reduceIte,J1,J2,J3,J4,J5,J6,J7,J8,J9,reduceCtorEq,K1,K2,K3,K4]
    exact vb (by unfold cvB; rw [g4, Bool.false_and, Bool.and_false, Bool.and_false, Bool.and_false])
  have g4 : wiB pts np = true := by simpa using g4
  simp only [vx,T,K5,J0,K6,K7,↓reduceIte,J1,J2,J3,J4,J5,J6,J7,J8,J9,reduceCtorEq,K1,K2,K3,K4]
  refine Cg w2 ?_
  simp only [vx,T,K5,J0,K6,K7,↓reduceIte,J1,J2,J3,J4,J5,J6,J7,J8,J9,reduceCtorEq,K1,K2,K3,K4]
  refine ⟨fun g5 => Lg ?_, fun g5 => Lg ?_⟩
  · have g5 : wiB cir nc = false := by simpa using g5
    simp only [vx,T,K5,J0,K6,K7,↓reduceIte,J1,J2,J3,J4,J5,J6,J7,J8,J9,reduceCtorEq,K1,K2,K3,K4]
    exact vb (by unfold cvB; rw [g5, Bool.false_and, Bool.and_false, Bool.and_false, Bool.and_false, Bool.and_false])
  have g5 : wiB cir nc = true := by simpa using g5
  have ecv : cvB k p c n b pts cir m np nc er side = ((List.range m).all (fun i => decide (er i = 0)) && (sideB b side && finB k pts cir)) := by
    unfold cvB
    rw [decide_eq_true g1, decide_eq_true g2, decide_eq_true g3, g4, g5, Bool.true_and, Bool.true_and, Bool.true_and, Bool.true_and, Bool.true_and]
  rw [ecv]
  simp only [vx,T,K5,J0,K6,K7,↓reduceIte,J1,J2,J3,J4,J5,J6,J7,J8,J9,reduceCtorEq,K1,K2,K3,K4]
  refine Lk (fun y : {i : Nat // i ≤ m ∧ ∀ j, j < i → er j = 0} => ⟨[(3, .one (.ptr 1 0)), (7, .one (.ptr 9 0)), (9, .one (.int .i64 y.1))], [(1, ⟨.var [.int .i64 k, .ints .i64 pts, .ints .i64 cir, .rows 7 m f, .int .i64 side], true⟩), (9, ⟨.var [.str s, .int .i64 p, .int .i64 c, .int .i64 n, .int .i64 v, .int .i64 e, .bool b], true⟩)], 52, 164⟩) (fun y => m - y.1) ⟨0, Nat.zero_le _, fun j h => absurd h (Nat.not_lt_zero _)⟩ ?_ (fun ⟨i, hi, hz⟩ => ?_)
  · refine Sa ?_; simp only [rx,Y0,Y1,Y2,Y3,Y4,Y5,Y6,Y7,ren,↓reduceIte,J1,J2,J3,J4,J5,J6,J7,J8,J9,reduceCtorEq,K1,K2,K3,K4,Y8,Y9,X2,X3,X4]
  have i1 := wI i (by omega)
  simp only [vx,T,K5,J0,K6,K7,↓reduceIte,J1,J2,J3,J4,J5,J6,J7,J8,J9,reduceCtorEq,K1,K2,K3,K4]
  refine ⟨fun l1 => Lg ?_, fun l1 => Lg ?_⟩
  · have him : i < m := by omega
    obtain ⟨op', s', xs', t', ys', nm', m', g', hxe⟩ := hx i him
    simp only [exL,List.cons.injEq,and_true] at hxe
    obtain ⟨e0, e1, e2, e3, e4, e5, e6⟩ := hxe
    have hgi := he i him
    rw [e0, e1, e2, e3, e4, e5, e6] at hgi
    simp only [vx,T,K5,J0,K6,K7,↓reduceIte,J1,J2,J3,J4,J5,J6,J7,J8,J9,reduceCtorEq,K1,K2,K3,K4,e0,e1,e2,e3,e4,e5,e6]
    refine ⟨⟨by omega, by omega⟩, Cg hgi ?_⟩
    simp only [vx,T,K5,J0,K6,K7,↓reduceIte,J1,J2,J3,J4,J5,J6,J7,J8,J9,reduceCtorEq,K1,K2,K3,K4]
    refine ⟨fun l2 => Lg ?_, fun l2 => Lg ?_⟩
    · simp only [vx,T,K5,J0,K6,K7,↓reduceIte,J1,J2,J3,J4,J5,J6,J7,J8,J9,reduceCtorEq,K1,K2,K3,K4]
      exact vb (by rw [all_range_f him (decide_eq_false l2), Bool.false_and])
    simp only [vx,T,K5,J0,K6,K7,↓reduceIte,J1,J2,J3,J4,J5,J6,J7,J8,J9,reduceCtorEq,K1,K2,K3,K4]
    simp only [i1]
    refine Lq ⟨i + 1, by omega, fun j hj => ?_⟩ ?_ ?_
    · by_cases hji : j < i
      · exact hz j hji
      rw [show j = i by omega]; exact l2
    · refine Sa ?_; simp only [rx,Y0,Y1,Y2,Y3,Y4,Y5,Y6,Y7,ren,↓reduceIte,J1,J2,J3,J4,J5,J6,J7,J8,J9,reduceCtorEq,K1,K2,K3,K4,Y8,Y9,X2,X3,X4]
    simp only; omega
  have eall : ((List.range m).all fun i => decide (er i = 0)) = true := all_range.2 fun j hj => decide_eq_true (hz j (by omega))
  rw [eall, Bool.true_and]
  simp only [vx,T,K5,J0,K6,K7,↓reduceIte,J1,J2,J3,J4,J5,J6,J7,J8,J9,reduceCtorEq,K1,K2,K3,K4]
  cases b with
  | true =>
    refine ⟨fun _ => Lg ?_, fun h => absurd h (by decide)⟩
    simp only [vx,T,K5,J0,K6,K7,↓reduceIte,J1,J2,J3,J4,J5,J6,J7,J8,J9,reduceCtorEq,K1,K2,K3,K4]
    refine ⟨fun sd => Lg ?_, fun sd => Lg ?_⟩
    · simp only [vx,T,K5,J0,K6,K7,↓reduceIte,J1,J2,J3,J4,J5,J6,J7,J8,J9,reduceCtorEq,K1,K2,K3,K4]
      refine ⟨fun se => Lg ?_, fun se => Lg ?_⟩
      · simp only [vx,T,K5,J0,K6,K7,↓reduceIte,J1,J2,J3,J4,J5,J6,J7,J8,J9,reduceCtorEq,K1,K2,K3,K4]
        exact vb (by unfold sideB; simp [sd, se])
      simp only [vx,T,K5,J0,K6,K7,↓reduceIte,J1,J2,J3,J4,J5,J6,J7,J8,J9,reduceCtorEq,K1,K2,K3,K4]
      have hsb : sideB true side = true := by unfold sideB; first | (simp [sd]; done) | (simp [sd, se]; done)
      rw [hsb, Bool.true_and]
      try simp only [vx,T,K5,J0,K6,K7,↓reduceIte,J1,J2,J3,J4,J5,J6,J7,J8,J9,reduceCtorEq,K1,K2,K3,K4]
      have h58 : ¬(5 ≤ k ∧ k ≤ 8) := fun h => absurd (hp4 h).2 (by decide)
      refine ⟨fun a5 => (h58 ⟨by omega, by omega⟩).elim, fun a5 => Lg ?_⟩
      simp only [vx,T,K5,J0,K6,K7,↓reduceIte,J1,J2,J3,J4,J5,J6,J7,J8,J9,reduceCtorEq,K1,K2,K3,K4]
      refine ⟨fun a6 => (h58 ⟨by omega, by omega⟩).elim, fun a6 => Lg ?_⟩
      simp only [vx,T,K5,J0,K6,K7,↓reduceIte,J1,J2,J3,J4,J5,J6,J7,J8,J9,reduceCtorEq,K1,K2,K3,K4]
      refine ⟨fun a7 => (h58 ⟨by omega, by omega⟩).elim, fun a7 => Lg ?_⟩
      simp only [vx,T,K5,J0,K6,K7,↓reduceIte,J1,J2,J3,J4,J5,J6,J7,J8,J9,reduceCtorEq,K1,K2,K3,K4]
      refine ⟨fun a8 => (h58 ⟨by omega, by omega⟩).elim, fun a8 => Lg ?_⟩
      simp only [vx,T,K5,J0,K6,K7,↓reduceIte,J1,J2,J3,J4,J5,J6,J7,J8,J9,reduceCtorEq,K1,K2,K3,K4]
      obtain ⟨x1, hx1⟩ : ∃ x, x = diB pts := ⟨_, rfl⟩
      obtain ⟨x2, hx2⟩ : ∃ x, x = diB cir := ⟨_, rfl⟩
      rw [← hx1] at d1
      rw [← hx2] at d2
      have ef : finB k pts cir = (x1 && x2) := by unfold finB; rw [if_neg h58, hx1, hx2]
      rw [ef]
      refine Cg d1 ?_
      cases x1 with
      | false =>
        simp only [vx,T,K5,J0,K6,K7,↓reduceIte,J1,J2,J3,J4,J5,J6,J7,J8,J9,reduceCtorEq,K1,K2,K3,K4]
        exact Ve rfl
      | true =>
        simp only [vx,T,K5,J0,K6,K7,↓reduceIte,J1,J2,J3,J4,J5,J6,J7,J8,J9,reduceCtorEq,K1,K2,K3,K4]
        refine Cg d2 ?_
        simp only [vx,T,K5,J0,K6,K7,↓reduceIte,J1,J2,J3,J4,J5,J6,J7,J8,J9,reduceCtorEq,K1,K2,K3,K4]
        exact Ve rfl
    simp only [vx,T,K5,J0,K6,K7,↓reduceIte,J1,J2,J3,J4,J5,J6,J7,J8,J9,reduceCtorEq,K1,K2,K3,K4]
    have hsb : sideB true side = true := by unfold sideB; first | (simp [sd]; done) | (simp [sd, se]; done)
    rw [hsb, Bool.true_and]
    try simp only [vx,T,K5,J0,K6,K7,↓reduceIte,J1,J2,J3,J4,J5,J6,J7,J8,J9,reduceCtorEq,K1,K2,K3,K4]
    have h58 : ¬(5 ≤ k ∧ k ≤ 8) := fun h => absurd (hp4 h).2 (by decide)
    refine ⟨fun a5 => (h58 ⟨by omega, by omega⟩).elim, fun a5 => Lg ?_⟩
    simp only [vx,T,K5,J0,K6,K7,↓reduceIte,J1,J2,J3,J4,J5,J6,J7,J8,J9,reduceCtorEq,K1,K2,K3,K4]
    refine ⟨fun a6 => (h58 ⟨by omega, by omega⟩).elim, fun a6 => Lg ?_⟩
    simp only [vx,T,K5,J0,K6,K7,↓reduceIte,J1,J2,J3,J4,J5,J6,J7,J8,J9,reduceCtorEq,K1,K2,K3,K4]
    refine ⟨fun a7 => (h58 ⟨by omega, by omega⟩).elim, fun a7 => Lg ?_⟩
    simp only [vx,T,K5,J0,K6,K7,↓reduceIte,J1,J2,J3,J4,J5,J6,J7,J8,J9,reduceCtorEq,K1,K2,K3,K4]
    refine ⟨fun a8 => (h58 ⟨by omega, by omega⟩).elim, fun a8 => Lg ?_⟩
    simp only [vx,T,K5,J0,K6,K7,↓reduceIte,J1,J2,J3,J4,J5,J6,J7,J8,J9,reduceCtorEq,K1,K2,K3,K4]
    obtain ⟨x1, hx1⟩ : ∃ x, x = diB pts := ⟨_, rfl⟩
    obtain ⟨x2, hx2⟩ : ∃ x, x = diB cir := ⟨_, rfl⟩
    rw [← hx1] at d1
    rw [← hx2] at d2
    have ef : finB k pts cir = (x1 && x2) := by unfold finB; rw [if_neg h58, hx1, hx2]
    rw [ef]
    refine Cg d1 ?_
    cases x1 with
    | false =>
      simp only [vx,T,K5,J0,K6,K7,↓reduceIte,J1,J2,J3,J4,J5,J6,J7,J8,J9,reduceCtorEq,K1,K2,K3,K4]
      exact Ve rfl
    | true =>
      simp only [vx,T,K5,J0,K6,K7,↓reduceIte,J1,J2,J3,J4,J5,J6,J7,J8,J9,reduceCtorEq,K1,K2,K3,K4]
      refine Cg d2 ?_
      simp only [vx,T,K5,J0,K6,K7,↓reduceIte,J1,J2,J3,J4,J5,J6,J7,J8,J9,reduceCtorEq,K1,K2,K3,K4]
      exact Ve rfl
  | false =>
    refine ⟨fun h => absurd h (by decide), fun _ => Lg ?_⟩
    simp only [vx,T,K5,J0,K6,K7,↓reduceIte,J1,J2,J3,J4,J5,J6,J7,J8,J9,reduceCtorEq,K1,K2,K3,K4]
    refine ⟨fun sd => Lg ?_, fun sd => Lg ?_⟩
    · simp only [vx,T,K5,J0,K6,K7,↓reduceIte,J1,J2,J3,J4,J5,J6,J7,J8,J9,reduceCtorEq,K1,K2,K3,K4]
      exact vb (by unfold sideB; simp [sd])
    have hsb : sideB false side = true := by unfold sideB; first | (simp [sd]; done) | (simp [sd, se]; done)
    rw [hsb, Bool.true_and]
    try simp only [vx,T,K5,J0,K6,K7,↓reduceIte,J1,J2,J3,J4,J5,J6,J7,J8,J9,reduceCtorEq,K1,K2,K3,K4]
    refine ⟨fun a5 => Lg ?_, fun a5 => Lg ?_⟩
    · simp only [vx,T,K5,J0,K6,K7,↓reduceIte,J1,J2,J3,J4,J5,J6,J7,J8,J9,reduceCtorEq,K1,K2,K3,K4]
      refine ⟨fun _ => Lg ?_, fun h => absurd a5 h⟩
      have h58 : 5 ≤ k ∧ k ≤ 8 := ⟨by omega, by omega⟩
      have hp := (hp4 h58).1
      have ef : finB k pts cir = (decide (pts.getD 0 0 ≠ pts.getD 1 0) && (decide (pts.getD 2 0 ≠ pts.getD 3 0) && !((decide (pts.getD 0 0 = pts.getD 2 0) && decide (pts.getD 1 0 = pts.getD 3 0)) || (decide (pts.getD 0 0 = pts.getD 3 0) && decide (pts.getD 1 0 = pts.getD 2 0))))) := by unfold finB; rw [if_pos h58]
      obtain ⟨q0, ha0⟩ : ∃ a, a = pts.getD 0 0 := ⟨_, rfl⟩
      obtain ⟨q1, ha1⟩ : ∃ a, a = pts.getD 1 0 := ⟨_, rfl⟩
      obtain ⟨q2, ha2⟩ : ∃ a, a = pts.getD 2 0 := ⟨_, rfl⟩
      obtain ⟨q3, ha3⟩ : ∃ a, a = pts.getD 3 0 := ⟨_, rfl⟩
      rw [ef, ← ha0, ← ha1, ← ha2, ← ha3]
      clear ef h ko w1 w2 d1 d2 hx he ecv eall hz
      repeat' (first | (exfalso; omega) | with_reducible exact Ve rfl | with_reducible refine And.intro (by omega) ?_ | with_reducible refine ⟨fun _ => Lg ?_, fun _ => Lg ?_⟩ | with_reducible refine Lg ?_ | (with_reducible refine fun _ => Lg ?_) | simp only [vx,T,K5,J0,K6,K7,↓reduceIte,J1,J2,J3,J4,J5,J6,J7,J8,J9,reduceCtorEq,K1,K2,K3,K4,← ha0,← ha1,← ha2,← ha3])
      all_goals refine vb ?_
      all_goals clear ha0 ha1 ha2 ha3 hpl hcl hm g1 g2 g3 i1
      all_goals grind
    simp only [vx,T,K5,J0,K6,K7,↓reduceIte,J1,J2,J3,J4,J5,J6,J7,J8,J9,reduceCtorEq,K1,K2,K3,K4]
    refine ⟨fun a6 => Lg ?_, fun a6 => Lg ?_⟩
    · simp only [vx,T,K5,J0,K6,K7,↓reduceIte,J1,J2,J3,J4,J5,J6,J7,J8,J9,reduceCtorEq,K1,K2,K3,K4]
      have h58 : 5 ≤ k ∧ k ≤ 8 := ⟨by omega, by omega⟩
      have hp := (hp4 h58).1
      have ef : finB k pts cir = (decide (pts.getD 0 0 ≠ pts.getD 1 0) && (decide (pts.getD 2 0 ≠ pts.getD 3 0) && !((decide (pts.getD 0 0 = pts.getD 2 0) && decide (pts.getD 1 0 = pts.getD 3 0)) || (decide (pts.getD 0 0 = pts.getD 3 0) && decide (pts.getD 1 0 = pts.getD 2 0))))) := by unfold finB; rw [if_pos h58]
      obtain ⟨q0, ha0⟩ : ∃ a, a = pts.getD 0 0 := ⟨_, rfl⟩
      obtain ⟨q1, ha1⟩ : ∃ a, a = pts.getD 1 0 := ⟨_, rfl⟩
      obtain ⟨q2, ha2⟩ : ∃ a, a = pts.getD 2 0 := ⟨_, rfl⟩
      obtain ⟨q3, ha3⟩ : ∃ a, a = pts.getD 3 0 := ⟨_, rfl⟩
      rw [ef, ← ha0, ← ha1, ← ha2, ← ha3]
      clear ef h ko w1 w2 d1 d2 hx he ecv eall hz
      repeat' (first | (exfalso; omega) | with_reducible exact Ve rfl | with_reducible refine And.intro (by omega) ?_ | with_reducible refine ⟨fun _ => Lg ?_, fun _ => Lg ?_⟩ | with_reducible refine Lg ?_ | (with_reducible refine fun _ => Lg ?_) | simp only [vx,T,K5,J0,K6,K7,↓reduceIte,J1,J2,J3,J4,J5,J6,J7,J8,J9,reduceCtorEq,K1,K2,K3,K4,← ha0,← ha1,← ha2,← ha3])
      all_goals refine vb ?_
      all_goals clear ha0 ha1 ha2 ha3 hpl hcl hm g1 g2 g3 i1
      all_goals grind
    simp only [vx,T,K5,J0,K6,K7,↓reduceIte,J1,J2,J3,J4,J5,J6,J7,J8,J9,reduceCtorEq,K1,K2,K3,K4]
    refine ⟨fun a7 => Lg ?_, fun a7 => Lg ?_⟩
    · simp only [vx,T,K5,J0,K6,K7,↓reduceIte,J1,J2,J3,J4,J5,J6,J7,J8,J9,reduceCtorEq,K1,K2,K3,K4]
      have h58 : 5 ≤ k ∧ k ≤ 8 := ⟨by omega, by omega⟩
      have hp := (hp4 h58).1
      have ef : finB k pts cir = (decide (pts.getD 0 0 ≠ pts.getD 1 0) && (decide (pts.getD 2 0 ≠ pts.getD 3 0) && !((decide (pts.getD 0 0 = pts.getD 2 0) && decide (pts.getD 1 0 = pts.getD 3 0)) || (decide (pts.getD 0 0 = pts.getD 3 0) && decide (pts.getD 1 0 = pts.getD 2 0))))) := by unfold finB; rw [if_pos h58]
      obtain ⟨q0, ha0⟩ : ∃ a, a = pts.getD 0 0 := ⟨_, rfl⟩
      obtain ⟨q1, ha1⟩ : ∃ a, a = pts.getD 1 0 := ⟨_, rfl⟩
      obtain ⟨q2, ha2⟩ : ∃ a, a = pts.getD 2 0 := ⟨_, rfl⟩
      obtain ⟨q3, ha3⟩ : ∃ a, a = pts.getD 3 0 := ⟨_, rfl⟩
      rw [ef, ← ha0, ← ha1, ← ha2, ← ha3]
      clear ef h ko w1 w2 d1 d2 hx he ecv eall hz
      repeat' (first | (exfalso; omega) | with_reducible exact Ve rfl | with_reducible refine And.intro (by omega) ?_ | with_reducible refine ⟨fun _ => Lg ?_, fun _ => Lg ?_⟩ | with_reducible refine Lg ?_ | (with_reducible refine fun _ => Lg ?_) | simp only [vx,T,K5,J0,K6,K7,↓reduceIte,J1,J2,J3,J4,J5,J6,J7,J8,J9,reduceCtorEq,K1,K2,K3,K4,← ha0,← ha1,← ha2,← ha3])
      all_goals refine vb ?_
      all_goals clear ha0 ha1 ha2 ha3 hpl hcl hm g1 g2 g3 i1
      all_goals grind
    simp only [vx,T,K5,J0,K6,K7,↓reduceIte,J1,J2,J3,J4,J5,J6,J7,J8,J9,reduceCtorEq,K1,K2,K3,K4]
    refine ⟨fun a8 => Lg ?_, fun a8 => Lg ?_⟩
    · simp only [vx,T,K5,J0,K6,K7,↓reduceIte,J1,J2,J3,J4,J5,J6,J7,J8,J9,reduceCtorEq,K1,K2,K3,K4]
      have h58 : 5 ≤ k ∧ k ≤ 8 := ⟨by omega, by omega⟩
      have hp := (hp4 h58).1
      have ef : finB k pts cir = (decide (pts.getD 0 0 ≠ pts.getD 1 0) && (decide (pts.getD 2 0 ≠ pts.getD 3 0) && !((decide (pts.getD 0 0 = pts.getD 2 0) && decide (pts.getD 1 0 = pts.getD 3 0)) || (decide (pts.getD 0 0 = pts.getD 3 0) && decide (pts.getD 1 0 = pts.getD 2 0))))) := by unfold finB; rw [if_pos h58]
      obtain ⟨q0, ha0⟩ : ∃ a, a = pts.getD 0 0 := ⟨_, rfl⟩
      obtain ⟨q1, ha1⟩ : ∃ a, a = pts.getD 1 0 := ⟨_, rfl⟩
      obtain ⟨q2, ha2⟩ : ∃ a, a = pts.getD 2 0 := ⟨_, rfl⟩
      obtain ⟨q3, ha3⟩ : ∃ a, a = pts.getD 3 0 := ⟨_, rfl⟩
      rw [ef, ← ha0, ← ha1, ← ha2, ← ha3]
      clear ef h ko w1 w2 d1 d2 hx he ecv eall hz
      repeat' (first | (exfalso; omega) | with_reducible exact Ve rfl | with_reducible refine And.intro (by omega) ?_ | with_reducible refine ⟨fun _ => Lg ?_, fun _ => Lg ?_⟩ | with_reducible refine Lg ?_ | (with_reducible refine fun _ => Lg ?_) | simp only [vx,T,K5,J0,K6,K7,↓reduceIte,J1,J2,J3,J4,J5,J6,J7,J8,J9,reduceCtorEq,K1,K2,K3,K4,← ha0,← ha1,← ha2,← ha3])
      all_goals refine vb ?_
      all_goals clear ha0 ha1 ha2 ha3 hpl hcl hm g1 g2 g3 i1
      all_goals grind
    simp only [vx,T,K5,J0,K6,K7,↓reduceIte,J1,J2,J3,J4,J5,J6,J7,J8,J9,reduceCtorEq,K1,K2,K3,K4]
    have h58 : ¬(5 ≤ k ∧ k ≤ 8) := by omega
    obtain ⟨x1, hx1⟩ : ∃ x, x = diB pts := ⟨_, rfl⟩
    obtain ⟨x2, hx2⟩ : ∃ x, x = diB cir := ⟨_, rfl⟩
    rw [← hx1] at d1
    rw [← hx2] at d2
    have ef : finB k pts cir = (x1 && x2) := by unfold finB; rw [if_neg h58, hx1, hx2]
    rw [ef]
    refine Cg d1 ?_
    cases x1 with
    | false =>
      simp only [vx,T,K5,J0,K6,K7,↓reduceIte,J1,J2,J3,J4,J5,J6,J7,J8,J9,reduceCtorEq,K1,K2,K3,K4]
      exact Ve rfl
    | true =>
      simp only [vx,T,K5,J0,K6,K7,↓reduceIte,J1,J2,J3,J4,J5,J6,J7,J8,J9,reduceCtorEq,K1,K2,K3,K4]
      refine Cg d2 ?_
      simp only [vx,T,K5,J0,K6,K7,↓reduceIte,J1,J2,J3,J4,J5,J6,J7,J8,J9,reduceCtorEq,K1,K2,K3,K4]
      exact Ve rfl
open Go Go.Eng
def kP (k : Nat) : Int := [1, 2, 3, 3, 4, 4, 4, 4, 3, 4, 2, 2, 1, 0, 0, 2, 0].getD (k - 1) 0
def kC (k : Nat) : Int := [0, 0, 0, 0, 0, 0, 0, 0, 0, 0, 0, 0, 1, 1, 2, 1, 2].getD (k - 1) 0
def kN (k : Nat) : Int := [2, 1, 0, 1, 1, 0, 0, 0, 0, 0, 0, 0, 0, 1, 0, 0, 0].getD (k - 1) 0
def kB (k : Nat) : Bool := [false, false, false, true, false, false, false, false, false, false, false, false, false, false, false, true, true].getD (k - 1) false
theorem k17 {k : Nat} (h1 : 1 ≤ k) (h2 : k ≤ 17) : k = 1 ∨ k = 2 ∨ k = 3 ∨ k = 4 ∨ k = 5 ∨ k = 6 ∨ k = 7 ∨ k = 8 ∨ k = 9 ∨ k = 10 ∨ k = 11 ∨ k = 12 ∨ k = 13 ∨ k = 14 ∨ k = 15 ∨ k = 16 ∨ k = 17 := by omega
theorem rowT_at {k : Nat} (h1 : 1 ≤ k) (h2 : k ≤ 17) : ∃ s v e, rowT.getD (k - 1) [] = rowF s (kP k) (kC k) (kN k) v e (kB k) := by
  rcases k17 h1 h2 with rfl | rfl | rfl | rfl | rfl | rfl | rfl | rfl | rfl | rfl | rfl | rfl | rfl | rfl | rfl | rfl | rfl <;> exact ⟨_, _, _, rfl⟩
theorem k58 {k : Nat} (h : 5 ≤ k ∧ k ≤ 8) : kP k = 4 ∧ kB k = false := by
  obtain ⟨h1, h2⟩ := h
  have : k = 5 ∨ k = 6 ∨ k = 7 ∨ k = 8 := by omega
  rcases this with rfl | rfl | rfl | rfl <;> exact ⟨rfl, rfl⟩
theorem cvB_facts {k : Nat} {p c n : Int} {b : Bool} {pts cir : List Int} {m : Nat} {np nc : Int} {e : Nat → Int} {side : Int} (h : cvB k p c n b pts cir m np nc e side = true) :
    (pts.length : Int) = p ∧ (cir.length : Int) = c ∧ (m : Int) = n ∧ wiB pts np = true ∧ wiB cir nc = true ∧ sideB b side = true := by
  unfold cvB at h
  simp only [Bool.and_eq_true,decide_eq_true_eq] at h
  exact ⟨h.1, h.2.1, h.2.2.1, h.2.2.2.1, h.2.2.2.2.1, h.2.2.2.2.2.2.1⟩
theorem wi_get {l : List Int} {n : Int} (h : wiB l n = true) {i : Nat} (hi : i < l.length) : 0 ≤ l.getD i 0 ∧ l.getD i 0 < n := by
  have := all_range.1 h i hi
  simpa using this
theorem cen {l : List Int} {n : Int} (h : wiB l n = true) {i : Nat} (hi : i < l.length) : ∃ x : Nat, l.getD i 0 = (x : Int) ∧ (x : Int) < n := by
  have := wi_get h hi
  exact ⟨(l.getD i 0).toNat, by omega, by omega⟩
theorem wi1 {l : List Int} {n : Int} (h : wiB l n = true) (hl : l.length = 1) : ∃ a : Nat, l = [(a : Int)] ∧ (a : Int) < n := by
  obtain ⟨a, h1, h2⟩ := cen h (i := 0) (by omega)
  match l, hl with
  | [x], _ => exact ⟨a, by rw [← h1]; rfl, h2⟩
theorem wi2 {l : List Int} {n : Int} (h : wiB l n = true) (hl : l.length = 2) : ∃ a b : Nat, l = [(a : Int), (b : Int)] ∧ (a : Int) < n ∧ (b : Int) < n := by
  obtain ⟨a, h1, h2⟩ := cen h (i := 0) (by omega)
  obtain ⟨b, h3, h4⟩ := cen h (i := 1) (by omega)
  match l, hl with
  | [x, y], _ => exact ⟨a, b, by rw [← h1, ← h3]; rfl, h2, h4⟩
theorem wi3 {l : List Int} {n : Int} (h : wiB l n = true) (hl : l.length = 3) : ∃ a b c : Nat, l = [(a : Int), (b : Int), (c : Int)] ∧ (a : Int) < n ∧ (b : Int) < n ∧ (c : Int) < n := by
  obtain ⟨a, h1, h2⟩ := cen h (i := 0) (by omega)
  obtain ⟨b, h3, h4⟩ := cen h (i := 1) (by omega)
  obtain ⟨c, h5, h6⟩ := cen h (i := 2) (by omega)
  match l, hl with
  | [x, y, z], _ => exact ⟨a, b, c, by rw [← h1, ← h3, ← h5]; rfl, h2, h4, h6⟩
theorem wi4 {l : List Int} {n : Int} (h : wiB l n = true) (hl : l.length = 4) : ∃ a b c d : Nat, l = [(a : Int), (b : Int), (c : Int), (d : Int)] ∧ (a : Int) < n ∧ (b : Int) < n ∧ (c : Int) < n ∧ (d : Int) < n := by
  obtain ⟨a, h1, h2⟩ := cen h (i := 0) (by omega)
  obtain ⟨b, h3, h4⟩ := cen h (i := 1) (by omega)
  obtain ⟨c, h5, h6⟩ := cen h (i := 2) (by omega)
  obtain ⟨d, h7, h8⟩ := cen h (i := 3) (by omega)
  match l, hl with
  | [x, y, z, w], _ => exact ⟨a, b, c, d, by rw [← h1, ← h3, ← h5, ← h7]; rfl, h2, h4, h6, h8⟩
theorem ql1 {qs : List Rat} (h : qs.length = 1) : ∃ a, qs = [a] := by
  match qs, h with
  | [x], _ => exact ⟨x, rfl⟩
open Go Go.Eng
structure NF (l : List Mono) (n d B : Nat) : Prop where
  pb : PB l n d B
  asc : VAsc l
theorem VAsc_mulM (p q : List Mono) : VAsc (mulM p q) := VAsc.sumM _
theorem NF.mul {p q : List Mono} {n d B n' d' B' : Nat} (hp : NF p n d B) (hq : NF q n' d' B') : NF (mulM p q) (n * n') (d + d') (n * n' * (B + B' + 1)) := ⟨hp.pb.mulM hq.pb, VAsc_mulM _ _⟩
theorem NF.add {p q : List Mono} {n d B n' d' B' : Nat} (hp : NF p n d B) (hq : NF q n' d' B') : NF (Go.Eng.norM (p ++ q)) (n + n') (max d d') ((n + n') * (max B B' + 1)) := ⟨(hp.pb.append hq.pb).norM, (hp.asc.append hq.asc).norM⟩
theorem NF.sub {p q : List Mono} {n d B n' d' B' : Nat} (hp : NF p n d B) (hq : NF q n' d' B') : NF (subM p q) (n + n') (max d d') ((n + n') * (max B (n' * (B' + 4)) + 1)) := ⟨pb_sub hp.pb hq.pb, (hp.asc.append (VAsc_mulM _ _)).norM⟩
theorem NF.mono {p : List Mono} {n d B n' d' B' : Nat} (h : NF p n d B) (hn : n ≤ n') (hd : d ≤ d') (hB : B ≤ B') : NF p n' d' B' := ⟨h.pb.mono hn hd hB, h.asc⟩
theorem NF.var {v : Int} (h0 : 0 ≤ v) (h1 : v < 9223372036854775808) : NF (varM v) 1 1 2 := ⟨pb_var h0 h1, fun m hm => by obtain rfl := List.mem_singleton.1 hm; exact List.pairwise_singleton _ _⟩
theorem asc_num (q : Rat) : VAsc [(q, ([] : List Int))] := fun m hm => by obtain rfl := List.mem_singleton.1 hm; exact List.Pairwise.nil
theorem NF.num {q : Rat} {B : Nat} (h : qm q ≤ B) : NF (Go.Eng.norM [(q, [])]) 1 0 (1 * (B + 1)) := ⟨(PB.one (d := 0) h (Nat.le_refl _) in63_nil).norM, (asc_num q).norM⟩
def Own (f : FuncId) (xs : List V) (r : V) : Prop := Pr Tryz.prog f xs r ∧ True
theorem own_mul {p q : List Mono} {n d B n' d' B' : Nat} (hp : NF p n d B) (hq : NF q n' d' B') (h : d + d' < 2 ^ 30 ∧ n * n' * (B + B' + 1) < 2 ^ 30 ∧ n < 2 ^ 30 ∧ n' < 2 ^ 30 ∧ B + B' < 2 ^ 30) :
    Own 34 [PV p, PV q] (PV (mulM p q)) := ⟨iMulP_spec hp.pb hq.pb h.1 h.2.1 h.2.2.1 h.2.2.2.1 h.2.2.2.2, trivial⟩
theorem own_add {p q : List Mono} {n d B n' d' B' : Nat} (hp : NF p n d B) (hq : NF q n' d' B') (h : max d d' < 2 ^ 30 ∧ (n + n') * (max B B' + 1) < 2 ^ 30 ∧ max B B' < 2 ^ 30) :
    Own 35 [PV p, PV q] (PV (norM (p ++ q))) := ⟨iAddP_spec hp.pb hq.pb h.1 h.2.1 h.2.2, trivial⟩
theorem own_sub {p q : List Mono} {n d B n' d' B' : Nat} (hp : NF p n d B) (hq : NF q n' d' B') (h : max d d' < 2 ^ 30 ∧ (n + n') * (max B (n' * (B' + 4)) + 1) < 2 ^ 30 ∧ max B (n' * (B' + 4)) < 2 ^ 30 ∧ B' < 2 ^ 28 ∧ n' * (B' + 4) < 2 ^ 30 ∧ n' < 2 ^ 30 ∧ d' < 2 ^ 30) :
    Own 29 [PV p, PV q] (PV (subM p q)) := ⟨minus_spec hp.pb hq.pb h.1 h.2.1 h.2.2.1 h.2.2.2.1 h.2.2.2.2.1 h.2.2.2.2.2.1, trivial⟩
theorem own_sq {p : List Mono} {n d B : Nat} (hp : NF p n d B) (h : d + d < 2 ^ 30 ∧ n * n * (B + B + 1) < 2 ^ 30 ∧ n < 2 ^ 30 ∧ B + B < 2 ^ 30) :
    Own 32 [PV p] (PV (mulM p p)) := ⟨square_spec hp.pb h.1 h.2.1 h.2.2.1 h.2.2.2, trivial⟩
theorem own_way (i k : Nat) (hi : i < 2 ^ 40) (hk : k < 2 ^ 40) :
    Own 30 [.one (.int .i64 i), .one (.int .i64 k)] (VV (wayM i k)) := ⟨way_spec i k hi hk, trivial⟩
def dotM (a b : List Mono × List Mono) : List Mono := norM (mulM a.1 b.1 ++ mulM a.2 b.2)
def crossM (a b : List Mono × List Mono) : List Mono := subM (mulM a.1 b.2) (mulM a.2 b.1)
def NW (a : List Mono × List Mono) (n d B : Nat) : Prop := NF a.1 n d B ∧ NF a.2 n d B
theorem NW.way (i k : Nat) (hi : i < 2 ^ 40) (hk : k < 2 ^ 40) : NW (wayM i k) 2 1 14 :=
  ⟨((NF.var (v := 2 * (k : Int)) (by omega) (by omega)).sub (NF.var (v := 2 * (i : Int)) (by omega) (by omega))).mono (by decide) (by decide) (by decide),
    ((NF.var (v := 2 * (k : Int) + 1) (by omega) (by omega)).sub (NF.var (v := 2 * (i : Int) + 1) (by omega) (by omega))).mono (by decide) (by decide) (by decide)⟩
theorem NW.dot {a b : List Mono × List Mono} {n d B n' d' B' : Nat} (ha : NW a n d B) (hb : NW b n' d' B') :
    NF (dotM a b) (n * n' + n * n') (max (d + d') (d + d')) ((n * n' + n * n') * (max (n * n' * (B + B' + 1)) (n * n' * (B + B' + 1)) + 1)) := (ha.1.mul hb.1).add (ha.2.mul hb.2)
theorem NW.cross {a b : List Mono × List Mono} {n d B n' d' B' : Nat} (ha : NW a n d B) (hb : NW b n' d' B') :
    NF (crossM a b) (n * n' + n * n') (max (d + d') (d + d')) ((n * n' + n * n') * (max (n * n' * (B + B' + 1)) (n * n' * (n * n' * (B + B' + 1) + 4)) + 1)) := (ha.1.mul hb.2).sub (ha.2.mul hb.1)
theorem NW.plus {a b : List Mono × List Mono} {n d B n' d' B' : Nat} (ha : NW a n d B) (hb : NW b n' d' B') :
    NW (norM (a.1 ++ b.1), norM (a.2 ++ b.2)) (n + n') (max d d') ((n + n') * (max B B' + 1)) := ⟨ha.1.add hb.1, ha.2.add hb.2⟩
theorem own_dot {a b : List Mono × List Mono} {n d B n' d' B' : Nat} (ha : NW a n d B) (hb : NW b n' d' B') (h : d + d' < 2 ^ 30 ∧ n * n' * (B + B' + 1) < 2 ^ 30 ∧ n < 2 ^ 30 ∧ n' < 2 ^ 30 ∧ B + B' < 2 ^ 30)
    (h2 : max (d + d') (d + d') < 2 ^ 30 ∧ (n * n' + n * n') * (max (n * n' * (B + B' + 1)) (n * n' * (B + B' + 1)) + 1) < 2 ^ 30 ∧ max (n * n' * (B + B' + 1)) (n * n' * (B + B' + 1)) < 2 ^ 30) :
    Own 31 [VV a, VV b] (PV (dotM a b)) := by
  have m1 := own_mul ha.1 hb.1 h
  have m2 := own_mul ha.2 hb.2 h
  have s := own_add (ha.1.mul hb.1) (ha.2.mul hb.2) h2
  exact ⟨dot_spec a b m1.1 m2.1 s.1, trivial⟩
theorem own_cross {a b : List Mono × List Mono} {n d B n' d' B' : Nat} (ha : NW a n d B) (hb : NW b n' d' B') (h : d + d' < 2 ^ 30 ∧ n * n' * (B + B' + 1) < 2 ^ 30 ∧ n < 2 ^ 30 ∧ n' < 2 ^ 30 ∧ B + B' < 2 ^ 30)
    (h2 : max (d + d') (d + d') < 2 ^ 30 ∧ (n * n' + n * n') * (max (n * n' * (B + B' + 1)) (n * n' * (n * n' * (B + B' + 1) + 4)) + 1) < 2 ^ 30 ∧ max (n * n' * (B + B' + 1)) (n * n' * (n * n' * (B + B' + 1) + 4)) < 2 ^ 30 ∧ n * n' * (B + B' + 1) < 2 ^ 28 ∧ n * n' * (n * n' * (B + B' + 1) + 4) < 2 ^ 30 ∧ n * n' < 2 ^ 30 ∧ d + d' < 2 ^ 30) :
    Own 33 [VV a, VV b] (PV (crossM a b)) := by
  have m1 := own_mul ha.1 hb.2 h
  have m2 := own_mul ha.2 hb.1 h
  have s := own_sub (ha.1.mul hb.2) (ha.2.mul hb.1) h2
  exact ⟨cross_spec a b m1.1 m2.1 s.1, trivial⟩
end Go.Proofs.YtpogdlmhmafjlaaGreat
