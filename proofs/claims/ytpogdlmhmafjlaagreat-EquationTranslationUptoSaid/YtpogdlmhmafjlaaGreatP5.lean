/-
  EquationTranslation, where what it reads is of bulk at most 1048576: the law returns true, and each argument reads afterwards as it read before. No condition beyond the given row's own cells.
  (Text 5 of 9; made by a program out of smaller texts.)
-/
import Derived.WalkKit
import Derived.Shelf.Sort.Plain
import Derived.Shelf.Slices.In.SortNone
import Derived.Test.YtpogdlmhmafjlaaGreatProg
import Derived.Test.YtpogdlmhmafjlaaGreatP4
set_option linter.unusedSimpArgs false
set_option linter.unusedVariables false
set_option maxHeartbeats 16000000
set_option maxRecDepth 10000
open Nat renaming reduceAdd → J1, reduceMul → J2, reduceSub → J3, reduceEqDiff → J4, reduceLT → J5, reduceLeDiff → J6, reduceBEq → J7, reduceDiv → J8, reduceMod → J9, reducePow → J0
open Int renaming reduceToNat → K1, reduceLE → K2, reduceLT → K3, reduceEq → K4, reducePow → K5, reduceSub → K6, reduceNeg → K7, natCast_add → X2, natCast_one → X3, natCast_zero → X4
open List renaming getD_cons_zero → X0, getD_cons_succ → X1, length_take → X5, length_append → X6, getD_eq_getElem?_getD → X7, getElem?_eq_getElem → X8
namespace Go.Proofs.YtpogdlmhmafjlaaGreat
open Go Go.Eng
def QC (q : Rat) : List C := [.bool (zs q.num), .ints .u32 (zm q.num), .bool (zs (q.den : Int)), .ints .u32 (zm (q.den : Int))]
def QV (q : Rat) : V := .agg (QC q)
theorem one_iff {z : Int} : z = 1 ↔ zs z = false ∧ zn z = 1 ∧ z.natAbs % BB = 1 := by
  constructor
  · rintro rfl
    refine ⟨rfl, ?_, by decide⟩
    have h1 : zn 1 ≤ 1 := nl_le_of_lt (by decide)
    have h2 : zn 1 ≠ 0 := fun e => by have := zn_eq_zero.1 e; omega
    omega
  rintro ⟨h1, h2, h3⟩
  have h4 := zs_false.1 h1
  have h5 : z.natAbs < BB := by have := nl_le_iff.1 (show nl z.natAbs ≤ 1 by unfold zn at h2; omega); simpa using this
  rw [Nat.mod_eq_of_lt h5] at h3
  omega
theorem vb {p q : Bool} (h : p = q) : VLe (.one (.bool p)) (.one (.bool q)) := Ve (by rw [h])
theorem zm_get0 (z : Int) : (zm z).getD 0 0 = ((z.natAbs % BB : Nat) : Int) := by
  unfold zm
  rw [lG, Nat.pow_zero, Nat.div_one]
def okQ (s : Bool) (xs : List Int) (t : Bool) (ys : List Int) : Bool :=
  okI s xs && (okI t ys && (decide (0 < zof t (val ys)) && decide (((Int.gcd (zof s (val xs)) (zof t (val ys)) : Nat) : Int) = 1)))
theorem okQ_of {s t : Bool} {xs ys : List Int} (h : okQ s xs t ys = true) : ∃ q : Rat, [.bool s, .ints .u32 xs, .bool t, .ints .u32 ys] = QC q := by
  unfold okQ at h
  simp only [Bool.and_eq_true,decide_eq_true_eq] at h
  obtain ⟨h1, h2, h3, h4⟩ := h
  obtain ⟨z, rfl, rfl⟩ := okI_of h1
  obtain ⟨d, rfl, rfl⟩ := okI_of h2
  rw [val_zm, zof_self] at h3 h4
  rw [val_zm, zof_self] at h4
  refine ⟨⟨z, d.natAbs, by omega, ?_⟩, ?_⟩
  · have h5 : Int.gcd z d = 1 := by omega
    exact h5
  unfold QC
  simp only [show ((d.natAbs : Nat) : Int) = d by omega]
theorem okQ_Q (q : Rat) : okQ (zs q.num) (zm q.num) (zs (q.den : Int)) (zm (q.den : Int)) = true := by
  unfold okQ
  rw [val_zm, zof_self, val_zm, zof_self, okI_Z, okI_Z]
  have h1 := q.den_pos
  have h2 : Int.gcd q.num (q.den : Int) = 1 := q.reduced
  rw [h2]
  simp; omega
theorem iOne_spec (z : Int) (hz : zn z < 2 ^ 60) : Pr Tryz.prog 75 [ZV z] (.one (.bool (decide (z = 1)))) := by
  have hiff := one_iff (z := z)
  refine pv T_ok mixed Tryz.func75 rfl (by decide) _ (by simp [Tryz.ntmps75]) ⟨[0, 1, 2], []⟩ (by kernel_rfl) _ ?_
  show vc T _ _ (Option.get! Tryz.f75.body) _ _
  simp only [Tryz.f75,Tryz.ntmps75,Option.get!,iS,iM,eO,J1]
  simp only [vx,T,K5,J0,K6,K7,↓reduceIte,J1,J2,J3,J4,J5,J6,J7,J8,J9,reduceCtorEq,K1,K2,K3,K4,ZV]
  refine ⟨fun h1 => Lg ?_, fun h1 => Lg ?_⟩
  · have h1 : zs z = false := by simpa using h1
    simp only [vx,T,K5,J0,K6,K7,↓reduceIte,J1,J2,J3,J4,J5,J6,J7,J8,J9,reduceCtorEq,K1,K2,K3,K4]
    refine ⟨fun h2 => Lg ?_, fun h2 => Lg ?_⟩
    · rw [zm_length] at h2
      simp only [vx,T,K5,J0,K6,K7,↓reduceIte,J1,J2,J3,J4,J5,J6,J7,J8,J9,reduceCtorEq,K1,K2,K3,K4,zm_length,zm_get0]
      refine ⟨by omega, vb (decide_eq_decide.2 ?_)⟩
      rw [hiff]
      refine ⟨fun h => ⟨h1, by omega, by omega⟩, fun h => by omega⟩
    rw [zm_length] at h2
    simp only [vx,T,K5,J0,K6,K7,↓reduceIte,J1,J2,J3,J4,J5,J6,J7,J8,J9,reduceCtorEq,K1,K2,K3,K4]
    refine vb (decide_eq_false ?_).symm
    rw [hiff]; omega
  simp only [vx,T,K5,J0,K6,K7,↓reduceIte,J1,J2,J3,J4,J5,J6,J7,J8,J9,reduceCtorEq,K1,K2,K3,K4]
  refine vb (decide_eq_false ?_).symm
  rw [hiff]
  rintro ⟨h2, _⟩
  rw [h2] at h1; cases h1
theorem rOne_spec (z : Int) (hz : zn z < 2 ^ 60) : Pr Tryz.prog 18 [ZV z] (.one (.bool (decide (z = 1)))) := by
  have hiff := one_iff (z := z)
  refine pv T_ok mixed Tryz.func18 rfl (by decide) _ (by simp [Tryz.ntmps18]) ⟨[0, 1, 2], []⟩ (by kernel_rfl) _ ?_
  show vc T _ _ (Option.get! Tryz.f18.body) _ _
  simp only [Tryz.f18,Tryz.ntmps18,Option.get!,iS,iM,eO,J1]
  simp only [vx,T,K5,J0,K6,K7,↓reduceIte,J1,J2,J3,J4,J5,J6,J7,J8,J9,reduceCtorEq,K1,K2,K3,K4,ZV]
  refine ⟨fun h1 => Lg ?_, fun h1 => Lg ?_⟩
  · rw [zm_length] at h1
    simp only [vx,T,K5,J0,K6,K7,↓reduceIte,J1,J2,J3,J4,J5,J6,J7,J8,J9,reduceCtorEq,K1,K2,K3,K4,zm_length,zm_get0]
    refine ⟨by omega, ?_⟩
    refine ⟨fun h2 => Lg ?_, fun h2 => Lg ?_⟩
    · simp only [vx,T,K5,J0,K6,K7,↓reduceIte,J1,J2,J3,J4,J5,J6,J7,J8,J9,reduceCtorEq,K1,K2,K3,K4]
      refine vb ?_
      cases hzs : zs z
      · refine (decide_eq_true ?_).symm
        rw [hiff]
        exact ⟨hzs, by omega, by omega⟩
      refine (decide_eq_false ?_).symm
      rw [hiff, hzs]
      rintro ⟨h, _⟩
      cases h
    simp only [vx,T,K5,J0,K6,K7,↓reduceIte,J1,J2,J3,J4,J5,J6,J7,J8,J9,reduceCtorEq,K1,K2,K3,K4]
    refine vb (decide_eq_false ?_).symm
    rw [hiff]; omega
  rw [zm_length] at h1
  simp only [vx,T,K5,J0,K6,K7,↓reduceIte,J1,J2,J3,J4,J5,J6,J7,J8,J9,reduceCtorEq,K1,K2,K3,K4]
  refine vb (decide_eq_false ?_).symm
  rw [hiff]; omega
theorem iQValid_spec (s t : Bool) (xs ys : List Int) (hx : InR xs) (hy : InR ys) (hxl : xs.length < 2 ^ 36) (hyl : ys.length < 2 ^ 36) : Pr Tryz.prog 176 [.agg [.bool s, .ints .u32 xs, .bool t, .ints .u32 ys]] (.one (.bool (okQ s xs t ys))) := by
  refine pv T_ok mixed Tryz.func176 rfl (by decide) _ (by simp [Tryz.ntmps176]) ⟨[0, 1, 2], []⟩ (by kernel_rfl) _ ?_
  show vc T _ _ (Option.get! Tryz.f176.body) _ _
  simp only [Tryz.f176,Tryz.ntmps176,Option.get!,iS,iM,eO,J1]
  simp only [vx,T,K5,J0,K6,K7,↓reduceIte,J1,J2,J3,J4,J5,J6,J7,J8,J9,reduceCtorEq,K1,K2,K3,K4]
  refine Cg (iValid_spec s xs hx (by omega)) ?_
  simp only [vx,T,K5,J0,K6,K7,↓reduceIte,J1,J2,J3,J4,J5,J6,J7,J8,J9,reduceCtorEq,K1,K2,K3,K4]
  refine ⟨fun h1 => Lg ?_, fun h1 => Lg ?_⟩
  · simp only [vx,T,K5,J0,K6,K7,↓reduceIte,J1,J2,J3,J4,J5,J6,J7,J8,J9,reduceCtorEq,K1,K2,K3,K4]
    refine Cg (iValid_spec t ys hy (by omega)) ?_
    simp only [vx,T,K5,J0,K6,K7,↓reduceIte,J1,J2,J3,J4,J5,J6,J7,J8,J9,reduceCtorEq,K1,K2,K3,K4]
    refine ⟨fun h2 => Lg ?_, fun h2 => Lg ?_⟩
    · obtain ⟨z, rfl, rfl⟩ := okI_of h1
      obtain ⟨d, rfl, rfl⟩ := okI_of h2
      rw [zm_length] at hxl hyl
      have hok : okQ (zs z) (zm z) (zs d) (zm d) = (decide (0 < d) && decide (((Int.gcd z d : Nat) : Int) = 1)) := by
        unfold okQ
        rw [h1, h2, val_zm, zof_self, val_zm, zof_self]; rfl
      rw [hok]
      simp only [vx,T,K5,J0,K6,K7,↓reduceIte,J1,J2,J3,J4,J5,J6,J7,J8,J9,reduceCtorEq,K1,K2,K3,K4]
      refine Cg (iSign_spec d (by omega)) ?_
      simp only [vx,T,K5,J0,K6,K7,↓reduceIte,J1,J2,J3,J4,J5,J6,J7,J8,J9,reduceCtorEq,K1,K2,K3,K4]
      have hs : (0 < sgn d) ↔ 0 < d := by unfold sgn; (repeat' split) <;> omega
      refine ⟨fun h3 => Lg ?_, fun h3 => Lg ?_⟩
      · rw [hs] at h3
        simp only [vx,T,K5,J0,K6,K7,↓reduceIte,J1,J2,J3,J4,J5,J6,J7,J8,J9,reduceCtorEq,K1,K2,K3,K4]
        refine Cg (iGCD_spec z d (by omega) (by omega)) ?_
        have hgn : zn (Int.gcd z d) ≤ zn d := zn_le (by
          have := Nat.gcd_le_right z.natAbs (show 0 < d.natAbs by omega)
          exact this)
        simp only [vx,T,K5,J0,K6,K7,↓reduceIte,J1,J2,J3,J4,J5,J6,J7,J8,J9,reduceCtorEq,K1,K2,K3,K4,ZV]
        refine Cg (iOne_spec (Int.gcd z d) (by omega)) ?_
        simp only [vx,T,K5,J0,K6,K7,↓reduceIte,J1,J2,J3,J4,J5,J6,J7,J8,J9,reduceCtorEq,K1,K2,K3,K4]
        refine vb ?_
        rw [decide_eq_true h3]; rfl
      rw [hs] at h3
      simp only [vx,T,K5,J0,K6,K7,↓reduceIte,J1,J2,J3,J4,J5,J6,J7,J8,J9,reduceCtorEq,K1,K2,K3,K4]
      refine vb ?_
      rw [decide_eq_false h3]; rfl
    simp only [vx,T,K5,J0,K6,K7,↓reduceIte,J1,J2,J3,J4,J5,J6,J7,J8,J9,reduceCtorEq,K1,K2,K3,K4]
    refine vb ?_
    unfold okQ
    rw [h1, h2]; rfl
  simp only [vx,T,K5,J0,K6,K7,↓reduceIte,J1,J2,J3,J4,J5,J6,J7,J8,J9,reduceCtorEq,K1,K2,K3,K4]
  refine vb ?_
  unfold okQ
  rw [h1]; rfl
theorem rQValid_spec (s t : Bool) (xs ys : List Int) (hx : InR xs) (hy : InR ys) (hxl : xs.length < 2 ^ 36) (hyl : ys.length < 2 ^ 36) : Pr Tryz.prog 17 [.agg [.bool s, .ints .u32 xs, .bool t, .ints .u32 ys]] (.one (.bool (okQ s xs t ys))) := by
  refine pv T_ok mixed Tryz.func17 rfl (by decide) _ (by simp [Tryz.ntmps17]) ⟨[0, 1, 2], []⟩ (by kernel_rfl) _ ?_
  show vc T _ _ (Option.get! Tryz.f17.body) _ _
  simp only [Tryz.f17,Tryz.ntmps17,Option.get!,iS,iM,eO,J1]
  simp only [vx,T,K5,J0,K6,K7,↓reduceIte,J1,J2,J3,J4,J5,J6,J7,J8,J9,reduceCtorEq,K1,K2,K3,K4]
  refine Cg (rValid_spec s xs hx (by omega)) ?_
  simp only [vx,T,K5,J0,K6,K7,↓reduceIte,J1,J2,J3,J4,J5,J6,J7,J8,J9,reduceCtorEq,K1,K2,K3,K4]
  refine ⟨fun h1 => Lg ?_, fun h1 => Lg ?_⟩
  · simp only [vx,T,K5,J0,K6,K7,↓reduceIte,J1,J2,J3,J4,J5,J6,J7,J8,J9,reduceCtorEq,K1,K2,K3,K4]
    refine Cg (rValid_spec t ys hy (by omega)) ?_
    simp only [vx,T,K5,J0,K6,K7,↓reduceIte,J1,J2,J3,J4,J5,J6,J7,J8,J9,reduceCtorEq,K1,K2,K3,K4]
    refine ⟨fun h2 => Lg ?_, fun h2 => Lg ?_⟩
    · obtain ⟨z, rfl, rfl⟩ := okI_of h1
      obtain ⟨d, rfl, rfl⟩ := okI_of h2
      rw [zm_length] at hxl hyl
      have hok : okQ (zs z) (zm z) (zs d) (zm d) = (decide (0 < d) && decide (((Int.gcd z d : Nat) : Int) = 1)) := by
        unfold okQ
        rw [h1, h2, val_zm, zof_self, val_zm, zof_self]; rfl
      rw [hok]
      simp only [vx,T,K5,J0,K6,K7,↓reduceIte,J1,J2,J3,J4,J5,J6,J7,J8,J9,reduceCtorEq,K1,K2,K3,K4]
      refine Cg (rSign_spec d (by omega)) ?_
      simp only [vx,T,K5,J0,K6,K7,↓reduceIte,J1,J2,J3,J4,J5,J6,J7,J8,J9,reduceCtorEq,K1,K2,K3,K4]
      have hs : (0 < sgn d) ↔ 0 < d := by unfold sgn; (repeat' split) <;> omega
      refine ⟨fun h3 => Lg ?_, fun h3 => Lg ?_⟩
      · rw [hs] at h3
        simp only [vx,T,K5,J0,K6,K7,↓reduceIte,J1,J2,J3,J4,J5,J6,J7,J8,J9,reduceCtorEq,K1,K2,K3,K4]
        refine Cg (rGCD_spec z d (by omega) (by omega)) ?_
        have hgn : zn (Int.gcd z d) ≤ zn d := zn_le (by
          have := Nat.gcd_le_right z.natAbs (show 0 < d.natAbs by omega)
          exact this)
        simp only [vx,T,K5,J0,K6,K7,↓reduceIte,J1,J2,J3,J4,J5,J6,J7,J8,J9,reduceCtorEq,K1,K2,K3,K4,ZV]
        refine Cg (rOne_spec (Int.gcd z d) (by omega)) ?_
        simp only [vx,T,K5,J0,K6,K7,↓reduceIte,J1,J2,J3,J4,J5,J6,J7,J8,J9,reduceCtorEq,K1,K2,K3,K4]
        refine vb ?_
        rw [decide_eq_true h3]; rfl
      rw [hs] at h3
      simp only [vx,T,K5,J0,K6,K7,↓reduceIte,J1,J2,J3,J4,J5,J6,J7,J8,J9,reduceCtorEq,K1,K2,K3,K4]
      refine vb ?_
      rw [decide_eq_false h3]; rfl
    simp only [vx,T,K5,J0,K6,K7,↓reduceIte,J1,J2,J3,J4,J5,J6,J7,J8,J9,reduceCtorEq,K1,K2,K3,K4]
    refine vb ?_
    unfold okQ
    rw [h1, h2]; rfl
  simp only [vx,T,K5,J0,K6,K7,↓reduceIte,J1,J2,J3,J4,J5,J6,J7,J8,J9,reduceCtorEq,K1,K2,K3,K4]
  refine vb ?_
  unfold okQ
  rw [h1]; rfl
theorem iOne0_spec : Pr Tryz.prog 77 [] (ZV 1) := by
  refine pv T_ok mixed Tryz.func77 rfl (by decide) _ (by simp [Tryz.ntmps77]) ⟨[0], []⟩ (by kernel_rfl) _ ?_
  show vc T _ _ (Option.get! Tryz.f77.body) _ _
  simp only [Tryz.f77,Tryz.ntmps77,Option.get!,iS,iM,eO,J1]
  simp only [vx,T,K5,J0,K6,K7,↓reduceIte,J1,J2,J3,J4,J5,J6,J7,J8,J9,reduceCtorEq,K1,K2,K3,K4,ZV]
  refine Cg (iFromInt_spec 1 (by omega) (by omega)) ?_
  simp only [vx,T,K5,J0,K6,K7,↓reduceIte,J1,J2,J3,J4,J5,J6,J7,J8,J9,reduceCtorEq,K1,K2,K3,K4,ZV]
  refine Va ?_; simp only [vLe,vLeL,rx,Y0,Y1,Y2,Y3,Y4,Y5,Y6,Y7,ren,↓reduceIte,J1,J2,J3,J4,J5,J6,J7,J8,J9,reduceCtorEq,K1,K2,K3,K4,ZV]
theorem iQuo_spec (a b : Int) (ha : zn a < 2 ^ 36) (hb : zn b < 2 ^ 36) (h0 : b ≠ 0) : Pr Tryz.prog 114 [ZV a, ZV b] (ZV (a.fdiv b)) := by
  refine pv T_ok mixed Tryz.func114 rfl (by decide) _ (by simp [Tryz.ntmps114]) ⟨[0, 1, 2, 3, 4, 5, 9], []⟩ (by kernel_rfl) _ ?_
  show vc T _ _ (Option.get! Tryz.f114.body) _ _
  simp only [Tryz.f114,Tryz.ntmps114,Option.get!,iS,iM,eO,J1]
  simp only [vx,T,K5,J0,K6,K7,↓reduceIte,J1,J2,J3,J4,J5,J6,J7,J8,J9,reduceCtorEq,K1,K2,K3,K4,ZV]
  refine Cg (iOne_spec b (by omega)) ?_
  simp only [vx,T,K5,J0,K6,K7,↓reduceIte,J1,J2,J3,J4,J5,J6,J7,J8,J9,reduceCtorEq,K1,K2,K3,K4,ZV]
  refine ⟨fun h1 => Lg ?_, fun h1 => Lg ?_⟩
  · subst h1
    simp only [vx,T,K5,J0,K6,K7,↓reduceIte,J1,J2,J3,J4,J5,J6,J7,J8,J9,reduceCtorEq,K1,K2,K3,K4,ZV]
    rw [fdiv_one]
    refine Va ?_; simp only [vLe,vLeL,rx,Y0,Y1,Y2,Y3,Y4,Y5,Y6,Y7,ren,↓reduceIte,J1,J2,J3,J4,J5,J6,J7,J8,J9,reduceCtorEq,K1,K2,K3,K4,ZV]
  simp only [vx,T,K5,J0,K6,K7,↓reduceIte,J1,J2,J3,J4,J5,J6,J7,J8,J9,reduceCtorEq,K1,K2,K3,K4,ZV]
  refine Cg (iDivMod_spec a b (by omega) (by omega) h0) ?_
  simp only [vx,T,K5,J0,K6,K7,↓reduceIte,J1,J2,J3,J4,J5,J6,J7,J8,J9,reduceCtorEq,K1,K2,K3,K4,ZV]
  refine Va ?_; simp only [vLe,vLeL,rx,Y0,Y1,Y2,Y3,Y4,Y5,Y6,Y7,ren,↓reduceIte,J1,J2,J3,J4,J5,J6,J7,J8,J9,reduceCtorEq,K1,K2,K3,K4,ZV]
theorem rQuo_spec (a b : Int) (ha : zn a < 2 ^ 36) (hb : zn b < 2 ^ 36) (h0 : b ≠ 0) : Pr Tryz.prog 22 [ZV a, ZV b] (ZV (a.fdiv b)) := by
  refine pv T_ok mixed Tryz.func22 rfl (by decide) _ (by simp [Tryz.ntmps22]) ⟨[0, 1, 2, 3, 4, 5], []⟩ (by kernel_rfl) _ ?_
  show vc T _ _ (Option.get! Tryz.f22.body) _ _
  simp only [Tryz.f22,Tryz.ntmps22,Option.get!,iS,iM,eO,J1]
  simp only [vx,T,K5,J0,K6,K7,↓reduceIte,J1,J2,J3,J4,J5,J6,J7,J8,J9,reduceCtorEq,K1,K2,K3,K4,ZV]
  refine Cg (rDivMod_spec a b (by omega) (by omega) h0) ?_
  simp only [vx,T,K5,J0,K6,K7,↓reduceIte,J1,J2,J3,J4,J5,J6,J7,J8,J9,reduceCtorEq,K1,K2,K3,K4,ZV]
  refine Va ?_; simp only [vLe,vLeL,rx,Y0,Y1,Y2,Y3,Y4,Y5,Y6,Y7,ren,↓reduceIte,J1,J2,J3,J4,J5,J6,J7,J8,J9,reduceCtorEq,K1,K2,K3,K4,ZV]
theorem iLowest_spec (n : Int) (d : Nat) (hn : zn n < 2 ^ 36) (hd : nl d < 2 ^ 36) (h0 : 0 < d) : Pr Tryz.prog 78 [ZV n, ZV (d : Int)] (QV (mkRat n d)) := by
  have hg : (0 : Int) < (Int.gcd n d : Nat) := by have := gcd_pos (n := n) h0; omega
  have hgn : zn (Int.gcd n d) ≤ nl d := zn_le (b := (d : Int)) (by
    have := Nat.gcd_le_right n.natAbs (show 0 < (d : Int).natAbs by omega)
    exact this)
  have hzd : zs (d : Int) = false := zs_false.2 (by omega)
  refine pv T_ok mixed Tryz.func78 rfl (by decide) _ (by simp [Tryz.ntmps78]) ⟨[0, 1, 2, 3, 4, 5, 10], []⟩ (by kernel_rfl) _ ?_
  show vc T _ _ (Option.get! Tryz.f78.body) _ _
  simp only [Tryz.f78,Tryz.ntmps78,Option.get!,iS,iM,eO,J1]
  simp only [vx,T,K5,J0,K6,K7,↓reduceIte,J1,J2,J3,J4,J5,J6,J7,J8,J9,reduceCtorEq,K1,K2,K3,K4,ZV]
  refine Cg (iGCD_spec n d (by omega) (by rw [zn_nat]; omega)) ?_
  simp only [vx,T,K5,J0,K6,K7,↓reduceIte,J1,J2,J3,J4,J5,J6,J7,J8,J9,reduceCtorEq,K1,K2,K3,K4,ZV]
  refine ⟨fun h => (by rw [hzd] at h; cases h), fun _ => Lg ?_⟩
  simp only [vx,T,K5,J0,K6,K7,↓reduceIte,J1,J2,J3,J4,J5,J6,J7,J8,J9,reduceCtorEq,K1,K2,K3,K4,ZV]
  refine Cg (iQuo_spec n (Int.gcd n d) (by omega) (by omega) (by omega)) ?_
  rw [mk_num h0]
  simp only [vx,T,K5,J0,K6,K7,↓reduceIte,J1,J2,J3,J4,J5,J6,J7,J8,J9,reduceCtorEq,K1,K2,K3,K4,ZV]
  refine Cg (iQuo_spec d (Int.gcd n d) (by rw [zn_nat]; omega) (by omega) (by omega)) ?_
  rw [mk_den h0]
  simp only [vx,T,K5,J0,K6,K7,↓reduceIte,J1,J2,J3,J4,J5,J6,J7,J8,J9,reduceCtorEq,K1,K2,K3,K4,ZV]
  refine Va ?_; simp only [vLe,vLeL,rx,Y0,Y1,Y2,Y3,Y4,Y5,Y6,Y7,ren,↓reduceIte,J1,J2,J3,J4,J5,J6,J7,J8,J9,reduceCtorEq,K1,K2,K3,K4,QV,QC]
theorem iQFromInt_spec (z : Int) (h1 : -9223372036854775808 ≤ z) (h2 : z ≤ 9223372036854775807) : Pr Tryz.prog 47 [.one (.int .i64 z)] (QV (Rat.ofInt z)) := by
  refine pv T_ok mixed Tryz.func47 rfl (by decide) _ (by simp [Tryz.ntmps47]) ⟨[0, 2], []⟩ (by kernel_rfl) _ ?_
  show vc T _ _ (Option.get! Tryz.f47.body) _ _
  simp only [Tryz.f47,Tryz.ntmps47,Option.get!,iS,iM,eO,J1]
  simp only [vx,T,K5,J0,K6,K7,↓reduceIte,J1,J2,J3,J4,J5,J6,J7,J8,J9,reduceCtorEq,K1,K2,K3,K4,QV,QC]
  refine Cg (iFromInt_spec z h1 h2) ?_
  simp only [vx,T,K5,J0,K6,K7,↓reduceIte,J1,J2,J3,J4,J5,J6,J7,J8,J9,reduceCtorEq,K1,K2,K3,K4,ZV]
  refine Cg iOne0_spec ?_
  simp only [vx,T,K5,J0,K6,K7,↓reduceIte,J1,J2,J3,J4,J5,J6,J7,J8,J9,reduceCtorEq,K1,K2,K3,K4,ZV]
  refine Va ?_; simp only [vLe,vLeL,rx,Y0,Y1,Y2,Y3,Y4,Y5,Y6,Y7,ren,↓reduceIte,J1,J2,J3,J4,J5,J6,J7,J8,J9,reduceCtorEq,K1,K2,K3,K4,Rat.ofInt_num,Rat.ofInt_den,X3]
theorem rQFromInt_spec (z : Int) (h1 : -9223372036854775808 ≤ z) (h2 : z ≤ 9223372036854775807) : Pr Tryz.prog 12 [.one (.int .i64 z)] (QV (Rat.ofInt z)) := by
  refine pv T_ok mixed Tryz.func12 rfl (by decide) _ (by simp [Tryz.ntmps12]) ⟨[0, 2], []⟩ (by kernel_rfl) _ ?_
  show vc T _ _ (Option.get! Tryz.f12.body) _ _
  simp only [Tryz.f12,Tryz.ntmps12,Option.get!,iS,iM,eO,J1]
  simp only [vx,T,K5,J0,K6,K7,↓reduceIte,J1,J2,J3,J4,J5,J6,J7,J8,J9,reduceCtorEq,K1,K2,K3,K4,QV,QC]
  refine Cg (rFromInt_spec z h1 h2) ?_
  simp only [vx,T,K5,J0,K6,K7,↓reduceIte,J1,J2,J3,J4,J5,J6,J7,J8,J9,reduceCtorEq,K1,K2,K3,K4,ZV]
  refine Cg (rFromInt_spec 1 (by omega) (by omega)) ?_
  simp only [vx,T,K5,J0,K6,K7,↓reduceIte,J1,J2,J3,J4,J5,J6,J7,J8,J9,reduceCtorEq,K1,K2,K3,K4,ZV]
  refine Va ?_; simp only [vLe,vLeL,rx,Y0,Y1,Y2,Y3,Y4,Y5,Y6,Y7,ren,↓reduceIte,J1,J2,J3,J4,J5,J6,J7,J8,J9,reduceCtorEq,K1,K2,K3,K4,Rat.ofInt_num,Rat.ofInt_den,X3]
theorem iQSign_spec (q : Rat) (hq : qm q < 2 ^ 36) : Pr Tryz.prog 87 [QV q] (.one (.int .i64 (sgn q.num))) := by
  unfold qm at hq
  refine pv T_ok mixed Tryz.func87 rfl (by decide) _ (by simp [Tryz.ntmps87]) ⟨[0, 1, 2], []⟩ (by kernel_rfl) _ ?_
  show vc T _ _ (Option.get! Tryz.f87.body) _ _
  simp only [Tryz.f87,Tryz.ntmps87,Option.get!,iS,iM,eO,J1]
  simp only [vx,T,K5,J0,K6,K7,↓reduceIte,J1,J2,J3,J4,J5,J6,J7,J8,J9,reduceCtorEq,K1,K2,K3,K4,QV,QC]
  refine Cg (iSign_spec q.num (by omega)) ?_
  simp only [vx,T,K5,J0,K6,K7,↓reduceIte,J1,J2,J3,J4,J5,J6,J7,J8,J9,reduceCtorEq,K1,K2,K3,K4,ZV]
  exact Ve rfl
theorem rQSign_spec (q : Rat) (hq : qm q < 2 ^ 36) : Pr Tryz.prog 180 [QV q] (.one (.int .i64 (sgn q.num))) := by
  unfold qm at hq
  refine pv T_ok mixed Tryz.func180 rfl (by decide) _ (by simp [Tryz.ntmps180]) ⟨[0, 1, 2], []⟩ (by kernel_rfl) _ ?_
  show vc T _ _ (Option.get! Tryz.f180.body) _ _
  simp only [Tryz.f180,Tryz.ntmps180,Option.get!,iS,iM,eO,J1]
  simp only [vx,T,K5,J0,K6,K7,↓reduceIte,J1,J2,J3,J4,J5,J6,J7,J8,J9,reduceCtorEq,K1,K2,K3,K4,QV,QC]
  refine Cg (rSign_spec q.num (by omega)) ?_
  simp only [vx,T,K5,J0,K6,K7,↓reduceIte,J1,J2,J3,J4,J5,J6,J7,J8,J9,reduceCtorEq,K1,K2,K3,K4,ZV]
  exact Ve rfl
open Go Go.Eng
def letB (c : Int) : Bool := (decide (97 ≤ c) && decide (c ≤ 122)) || (decide (65 ≤ c) && decide (c ≤ 90))
def digB (c : Int) : Bool := decide (48 ≤ c) && decide (c ≤ 57)
theorem letter_spec (c : Int) : Pr Tryz.prog 215 [.one (.int .u8 c)] (.one (.bool (letB c))) := by
  refine pv T_ok mixed Tryz.func215 rfl (by decide) _ (by simp [Tryz.ntmps215]) ⟨[0, 2], []⟩ (by kernel_rfl) _ ?_
  show vc T _ _ (Option.get! Tryz.f215.body) _ _
  simp only [Tryz.f215,Tryz.ntmps215,Option.get!,iS,iM,eO,J1]
  simp only [vx,T,K5,J0,K6,K7,↓reduceIte,J1,J2,J3,J4,J5,J6,J7,J8,J9,reduceCtorEq,K1,K2,K3,K4]
  refine ⟨fun h1 => Lg ?_, fun h1 => Lg ?_⟩
  · simp only [vx,T,K5,J0,K6,K7,↓reduceIte,J1,J2,J3,J4,J5,J6,J7,J8,J9,reduceCtorEq,K1,K2,K3,K4]
    refine ⟨fun h2 => Lg ?_, fun h2 => Lg ?_⟩
    · simp only [vx,T,K5,J0,K6,K7,↓reduceIte,J1,J2,J3,J4,J5,J6,J7,J8,J9,reduceCtorEq,K1,K2,K3,K4]
      exact vb (by simp [letB, h1, h2])
    simp only [vx,T,K5,J0,K6,K7,↓reduceIte,J1,J2,J3,J4,J5,J6,J7,J8,J9,reduceCtorEq,K1,K2,K3,K4]
    refine ⟨fun h3 => Lg ?_, fun h3 => Lg ?_⟩
    · simp only [vx,T,K5,J0,K6,K7,↓reduceIte,J1,J2,J3,J4,J5,J6,J7,J8,J9,reduceCtorEq,K1,K2,K3,K4]
      exact vb (by simp [letB, h1, h2, h3])
    simp only [vx,T,K5,J0,K6,K7,↓reduceIte,J1,J2,J3,J4,J5,J6,J7,J8,J9,reduceCtorEq,K1,K2,K3,K4]
    exact vb (by simp [letB, h1, h2, h3])
  simp only [vx,T,K5,J0,K6,K7,↓reduceIte,J1,J2,J3,J4,J5,J6,J7,J8,J9,reduceCtorEq,K1,K2,K3,K4]
  refine ⟨fun h3 => Lg ?_, fun h3 => Lg ?_⟩
  · simp only [vx,T,K5,J0,K6,K7,↓reduceIte,J1,J2,J3,J4,J5,J6,J7,J8,J9,reduceCtorEq,K1,K2,K3,K4]
    exact vb (by simp [letB, h1, h3])
  simp only [vx,T,K5,J0,K6,K7,↓reduceIte,J1,J2,J3,J4,J5,J6,J7,J8,J9,reduceCtorEq,K1,K2,K3,K4]
  exact vb (by simp [letB, h1, h3])
theorem digit_spec (c : Int) : Pr Tryz.prog 216 [.one (.int .u8 c)] (.one (.bool (digB c))) := by
  refine pv T_ok mixed Tryz.func216 rfl (by decide) _ (by simp [Tryz.ntmps216]) ⟨[0, 2], []⟩ (by kernel_rfl) _ ?_
  show vc T _ _ (Option.get! Tryz.f216.body) _ _
  simp only [Tryz.f216,Tryz.ntmps216,Option.get!,iS,iM,eO,J1]
  simp only [vx,T,K5,J0,K6,K7,↓reduceIte,J1,J2,J3,J4,J5,J6,J7,J8,J9,reduceCtorEq,K1,K2,K3,K4]
  refine ⟨fun h1 => Lg ?_, fun h1 => Lg ?_⟩
  · simp only [vx,T,K5,J0,K6,K7,↓reduceIte,J1,J2,J3,J4,J5,J6,J7,J8,J9,reduceCtorEq,K1,K2,K3,K4]
    exact vb (by simp [digB, h1])
  simp only [vx,T,K5,J0,K6,K7,↓reduceIte,J1,J2,J3,J4,J5,J6,J7,J8,J9,reduceCtorEq,K1,K2,K3,K4]
  exact vb (by simp [digB, h1])
def okC (c : Int) : Bool := letB c || digB c || decide (c = 95)
def wordN (s : ByteArray) (i : Nat) : Nat := if i < s.size then (if okC (strAt s i) = true then wordN s (i + 1) else i) else i
  termination_by s.size - i
theorem wordN_step {s : ByteArray} {i : Nat} (h : i < s.size) (h2 : okC (strAt s i) = true) : wordN s i = wordN s (i + 1) := by rw [wordN, if_pos h, if_pos h2]
theorem wordN_stop {s : ByteArray} {i : Nat} (h : ¬ (i < s.size ∧ okC (strAt s i) = true)) : wordN s i = i := by
  rw [wordN]
  by_cases h1 : i < s.size
  · rw [if_pos h1, if_neg (fun h2 => h ⟨h1, h2⟩)]
  rw [if_neg h1]
def wordR (s : ByteArray) (i : Nat) : Nat := if i = s.size then i else if letB (strAt s i) = true then wordN s i else i
theorem word_spec (s : ByteArray) (a : Nat) (ha : a ≤ s.size) (hl : s.size < 2 ^ 62) : Pr Tryz.prog 194 [.one (.str s), .one (.int .i64 a)] (.one (.int .i64 (wordR s a))) := by
  refine pv T_ok mixed Tryz.func194 rfl (by decide) _ (by simp [Tryz.ntmps194]) ⟨[0, 1, 4, 15, 38], []⟩ (by kernel_rfl) _ ?_
  show vc T _ _ (Option.get! Tryz.f194.body) _ _
  simp only [Tryz.f194,Tryz.ntmps194,Option.get!,iS,iM,eO,J1]
  simp only [vx,T,K5,J0,K6,K7,↓reduceIte,J1,J2,J3,J4,J5,J6,J7,J8,J9,reduceCtorEq,K1,K2,K3,K4]
  have hl63 : (s.size : Int) < 2 ^ 62 := by omega
  refine ⟨fun h1 => Lg ?_, fun h1 => Lg ?_⟩
  · have h1 : a = s.size := by omega
    simp only [vx,T,K5,J0,K6,K7,↓reduceIte,J1,J2,J3,J4,J5,J6,J7,J8,J9,reduceCtorEq,K1,K2,K3,K4]
    have e : wordR s a = a := by unfold wordR; rw [if_pos h1]
    rw [e]
    exact Ve rfl
  have h1 : a < s.size := by omega
  simp only [vx,T,K5,J0,K6,K7,↓reduceIte,J1,J2,J3,J4,J5,J6,J7,J8,J9,reduceCtorEq,K1,K2,K3,K4]
  refine ⟨⟨by omega, by omega⟩, Cg (letter_spec _) ?_⟩
  simp only [vx,T,K5,J0,K6,K7,↓reduceIte,J1,J2,J3,J4,J5,J6,J7,J8,J9,reduceCtorEq,K1,K2,K3,K4]
  refine ⟨fun h2 => Lg ?_, fun h2 => Lg ?_⟩
  · have h2 : letB (strAt s a) = false := by simpa using h2
    simp only [vx,T,K5,J0,K6,K7,↓reduceIte,J1,J2,J3,J4,J5,J6,J7,J8,J9,reduceCtorEq,K1,K2,K3,K4]
    have e : wordR s a = a := by unfold wordR; rw [if_neg (by omega), if_neg (by rw [h2]; simp)]
    rw [e]
    exact Ve rfl
  have h2 : letB (strAt s a) = true := by simpa using h2
  have e : wordR s a = wordN s a := by unfold wordR; rw [if_neg (by omega), if_pos h2]
  rw [e]
  simp only [vx,T,K5,J0,K6,K7,↓reduceIte,J1,J2,J3,J4,J5,J6,J7,J8,J9,reduceCtorEq,K1,K2,K3,K4]
  refine Lk (fun y : {i : Nat // i ≤ s.size ∧ wordN s i = wordN s a} => ⟨[(0, .one (.str s)), (1, .one (.int .i64 y.1))], [], 1, 42⟩) (fun y => s.size - y.1) ⟨a, ha, rfl⟩ ?_ (fun ⟨i, hi, he⟩ => ?_)
  · refine Sa ?_; simp only [rx,Y0,Y1,Y2,Y3,Y4,Y5,Y6,Y7,ren,↓reduceIte,J1,J2,J3,J4,J5,J6,J7,J8,J9,reduceCtorEq,K1,K2,K3,K4,Y8,Y9,X2,X3,X4]
  have i1 : i < s.size → IntKind.i64.wrap ((i : Int) + 1) = ((i + 1 : Nat) : Int) := fun _ => by rw [IntWalk.i64_in _ (by omega)]; omega
  simp only [vx,T,K5,J0,K6,K7,↓reduceIte,J1,J2,J3,J4,J5,J6,J7,J8,J9,reduceCtorEq,K1,K2,K3,K4]
  refine ⟨fun h3 => Lg ?_, fun h3 => Lg ?_⟩
  · simp only [vx,T,K5,J0,K6,K7,↓reduceIte,J1,J2,J3,J4,J5,J6,J7,J8,J9,reduceCtorEq,K1,K2,K3,K4]
    refine ⟨⟨by omega, by omega⟩, Cg (letter_spec _) ?_⟩
    simp only [vx,T,K5,J0,K6,K7,↓reduceIte,J1,J2,J3,J4,J5,J6,J7,J8,J9,reduceCtorEq,K1,K2,K3,K4]
    refine ⟨fun h4 => Lg ?_, fun h4 => Lg ?_⟩
    · have h4 : letB (strAt s i) = true := by simpa using h4
      simp only [vx,T,K5,J0,K6,K7,↓reduceIte,J1,J2,J3,J4,J5,J6,J7,J8,J9,reduceCtorEq,K1,K2,K3,K4]
      simp only [i1 (by omega)]
      refine Lq ⟨i + 1, by omega, by rw [← wordN_step (by omega) (by simp [okC, h4]), he]⟩ ?_ ?_
      · refine Sa ?_; simp only [rx,Y0,Y1,Y2,Y3,Y4,Y5,Y6,Y7,ren,↓reduceIte,J1,J2,J3,J4,J5,J6,J7,J8,J9,reduceCtorEq,K1,K2,K3,K4,Y8,Y9,X2,X3,X4]
      simp only; omega
    have h4 : letB (strAt s i) = false := by simpa using h4
    simp only [vx,T,K5,J0,K6,K7,↓reduceIte,J1,J2,J3,J4,J5,J6,J7,J8,J9,reduceCtorEq,K1,K2,K3,K4]
    refine ⟨⟨by omega, by omega⟩, Cg (digit_spec _) ?_⟩
    simp only [vx,T,K5,J0,K6,K7,↓reduceIte,J1,J2,J3,J4,J5,J6,J7,J8,J9,reduceCtorEq,K1,K2,K3,K4]
    refine ⟨fun h5 => Lg ?_, fun h5 => Lg ?_⟩
    · have h5 : digB (strAt s i) = true := by simpa using h5
      simp only [vx,T,K5,J0,K6,K7,↓reduceIte,J1,J2,J3,J4,J5,J6,J7,J8,J9,reduceCtorEq,K1,K2,K3,K4]
      simp only [i1 (by omega)]
      refine Lq ⟨i + 1, by omega, by rw [← wordN_step (by omega) (by simp [okC, h5]), he]⟩ ?_ ?_
      · refine Sa ?_; simp only [rx,Y0,Y1,Y2,Y3,Y4,Y5,Y6,Y7,ren,↓reduceIte,J1,J2,J3,J4,J5,J6,J7,J8,J9,reduceCtorEq,K1,K2,K3,K4,Y8,Y9,X2,X3,X4]
      simp only; omega
    have h5 : digB (strAt s i) = false := by simpa using h5
    simp only [vx,T,K5,J0,K6,K7,↓reduceIte,J1,J2,J3,J4,J5,J6,J7,J8,J9,reduceCtorEq,K1,K2,K3,K4]
    refine ⟨⟨by omega, by omega⟩, ?_⟩
    refine ⟨fun h6 => Lg ?_, fun h6 => Lg ?_⟩
    · skip
      simp only [vx,T,K5,J0,K6,K7,↓reduceIte,J1,J2,J3,J4,J5,J6,J7,J8,J9,reduceCtorEq,K1,K2,K3,K4]
      simp only [i1 (by omega)]
      refine Lq ⟨i + 1, by omega, by rw [← wordN_step (by omega) (by simp [okC, h6]), he]⟩ ?_ ?_
      · refine Sa ?_; simp only [rx,Y0,Y1,Y2,Y3,Y4,Y5,Y6,Y7,ren,↓reduceIte,J1,J2,J3,J4,J5,J6,J7,J8,J9,reduceCtorEq,K1,K2,K3,K4,Y8,Y9,X2,X3,X4]
      simp only; omega
    simp only [vx,T,K5,J0,K6,K7,↓reduceIte,J1,J2,J3,J4,J5,J6,J7,J8,J9,reduceCtorEq,K1,K2,K3,K4]
    have e2 := wordN_stop (s := s) (i := i) (fun h => by
      have := h.2
      simp [okC, h4, h5, h6] at this)
    rw [← he, e2]
    exact Ve rfl
  simp only [vx,T,K5,J0,K6,K7,↓reduceIte,J1,J2,J3,J4,J5,J6,J7,J8,J9,reduceCtorEq,K1,K2,K3,K4]
  have e2 := wordN_stop (s := s) (i := i) (fun h => by omega)
  rw [← he, e2]
  exact Ve rfl
def nameB (s : ByteArray) : Bool := !strEq s ⟨#[]⟩ && decide (s.size ≤ 24) && decide (wordR s 0 = s.size)
theorem IsName_spec (s : ByteArray) (hl : s.size < 2 ^ 62) : Pr Tryz.prog 161 [.one (.str s)] (.one (.bool (nameB s))) := by
  have hw := word_spec s 0 (Nat.zero_le _) hl
  have hw : Pr Tryz.prog 194 [.one (.str s), .one (.int .i64 0)] (.one (.int .i64 (wordR s 0))) := hw
  refine pv T_ok mixed Tryz.func161 rfl (by decide) _ (by simp [Tryz.ntmps161]) ⟨[0, 2], []⟩ (by kernel_rfl) _ ?_
  show vc T _ _ (Option.get! Tryz.f161.body) _ _
  simp only [Tryz.f161,Tryz.ntmps161,Option.get!,iS,iM,eO,J1]
  simp only [vx,T,K5,J0,K6,K7,↓reduceIte,J1,J2,J3,J4,J5,J6,J7,J8,J9,reduceCtorEq,K1,K2,K3,K4]
  refine ⟨fun h1 => Lg ?_, fun h1 => Lg ?_⟩
  · simp only [vx,T,K5,J0,K6,K7,↓reduceIte,J1,J2,J3,J4,J5,J6,J7,J8,J9,reduceCtorEq,K1,K2,K3,K4]
    refine ⟨fun h2 => Lg ?_, fun h2 => Lg ?_⟩
    · have h2 : s.size ≤ 24 := by omega
      simp only [vx,T,K5,J0,K6,K7,↓reduceIte,J1,J2,J3,J4,J5,J6,J7,J8,J9,reduceCtorEq,K1,K2,K3,K4]
      refine Cg hw ?_
      simp only [vx,T,K5,J0,K6,K7,↓reduceIte,J1,J2,J3,J4,J5,J6,J7,J8,J9,reduceCtorEq,K1,K2,K3,K4]
      exact vb (by simp [nameB, h1, h2]; omega)
    have h2 : ¬ s.size ≤ 24 := by omega
    simp only [vx,T,K5,J0,K6,K7,↓reduceIte,J1,J2,J3,J4,J5,J6,J7,J8,J9,reduceCtorEq,K1,K2,K3,K4]
    exact vb (by simp [nameB, h2])
  simp only [vx,T,K5,J0,K6,K7,↓reduceIte,J1,J2,J3,J4,J5,J6,J7,J8,J9,reduceCtorEq,K1,K2,K3,K4]
  exact vb (by simp [nameB, h1])
open Go Go.Eng
theorem fdiv_nat (a g : Nat) : (a : Int).fdiv (g : Int) = ((a / g : Nat) : Int) := by
  rw [Int.fdiv_eq_ediv_of_nonneg _ (by omega)]; rfl
theorem zn_fdiv (n : Int) (g : Nat) : zn (n.fdiv g) ≤ zn n := by
  rw [Int.fdiv_eq_ediv_of_nonneg _ (by omega)]
  exact zn_le (Int.natAbs_ediv_le_natAbs _ _)
theorem zm_len0 {z : Int} (h : ((zm z).length : Int) = 0) : z = 0 := zn_eq_zero.1 (by rw [zm_length] at h; omega)
theorem ofInt0 : Rat.ofInt 0 = 0 := rfl
theorem iQMul_spec (a b : Rat) (ha : qm a < 2 ^ 34) (hb : qm b < 2 ^ 34) : Pr Tryz.prog 46 [QV a, QV b] (QV (a * b)) := by
  have m1 := zn_mul a.num b.num
  have m2 := nl_mul a.den b.den
  have m3 := zn_mul a.num b.den
  have m4 := zn_mul b.num a.den
  have m5 := zn_add (a.num * b.den) (b.num * a.den)
  have n1 := zn_nat a.den
  have n2 := zn_nat b.den
  have p1 := a.den_pos
  have p2 := b.den_pos
  have p3 := Nat.mul_pos p1 p2
  unfold qm at ha hb
  refine pv T_ok mixed Tryz.func46 rfl (by decide) _ (by simp [Tryz.ntmps46]) ⟨[0, 1, 2, 3, 4, 12], []⟩ (by kernel_rfl) _ ?_
  show vc T _ _ (Option.get! Tryz.f46.body) _ _
  simp only [Tryz.f46,Tryz.ntmps46,Option.get!,iS,iM,eO,J1]
  simp only [vx,T,K5,J0,K6,K7,↓reduceIte,J1,J2,J3,J4,J5,J6,J7,J8,J9,reduceCtorEq,K1,K2,K3,K4,QV,QC]
  refine Cg (iOne_spec a.den (by omega)) ?_
  simp only [vx,T,K5,J0,K6,K7,↓reduceIte,J1,J2,J3,J4,J5,J6,J7,J8,J9,reduceCtorEq,K1,K2,K3,K4,ZV]
  refine ⟨fun h1 => Lg ?_, fun h1 => Lg ?_⟩
  · simp only [vx,T,K5,J0,K6,K7,↓reduceIte,J1,J2,J3,J4,J5,J6,J7,J8,J9,reduceCtorEq,K1,K2,K3,K4,ZV]
    refine Cg (iOne_spec b.den (by omega)) ?_
    simp only [vx,T,K5,J0,K6,K7,↓reduceIte,J1,J2,J3,J4,J5,J6,J7,J8,J9,reduceCtorEq,K1,K2,K3,K4,ZV]
    refine ⟨fun h2 => Lg ?_, fun h2 => Lg ?_⟩
    · obtain ⟨k1, k2⟩ := mul_one' (a := a) (b := b) (by omega) (by omega)
      simp only [vx,T,K5,J0,K6,K7,↓reduceIte,J1,J2,J3,J4,J5,J6,J7,J8,J9,reduceCtorEq,K1,K2,K3,K4,ZV]
      refine Cg (iMul_spec a.num b.num (by omega) (by omega)) ?_
      simp only [vx,T,K5,J0,K6,K7,↓reduceIte,J1,J2,J3,J4,J5,J6,J7,J8,J9,reduceCtorEq,K1,K2,K3,K4,ZV]
      refine Cg iOne0_spec ?_
      simp only [vx,T,K5,J0,K6,K7,↓reduceIte,J1,J2,J3,J4,J5,J6,J7,J8,J9,reduceCtorEq,K1,K2,K3,K4,ZV]
      rw [k1, k2]
      refine Va ?_; simp only [vLe,vLeL,rx,Y0,Y1,Y2,Y3,Y4,Y5,Y6,Y7,ren,↓reduceIte,J1,J2,J3,J4,J5,J6,J7,J8,J9,reduceCtorEq,K1,K2,K3,K4,X3]
    simp only [vx,T,K5,J0,K6,K7,↓reduceIte,J1,J2,J3,J4,J5,J6,J7,J8,J9,reduceCtorEq,K1,K2,K3,K4,ZV]
    refine Cg (iMul_spec a.num b.num (by omega) (by omega)) ?_
    simp only [vx,T,K5,J0,K6,K7,↓reduceIte,J1,J2,J3,J4,J5,J6,J7,J8,J9,reduceCtorEq,K1,K2,K3,K4,ZV]
    refine Cg (iMul_spec a.den b.den (by omega) (by omega)) ?_
    rw [← Int.natCast_mul]
    simp only [vx,T,K5,J0,K6,K7,↓reduceIte,J1,J2,J3,J4,J5,J6,J7,J8,J9,reduceCtorEq,K1,K2,K3,K4,ZV]
    refine Cg (iLowest_spec (a.num * b.num) (a.den * b.den) (by omega) (by omega) p3) ?_
    rw [← Rat.mul_def']
    simp only [vx,T,K5,J0,K6,K7,↓reduceIte,J1,J2,J3,J4,J5,J6,J7,J8,J9,reduceCtorEq,K1,K2,K3,K4,QV,QC]
    refine Va ?_; simp only [vLe,vLeL,rx,Y0,Y1,Y2,Y3,Y4,Y5,Y6,Y7,ren,↓reduceIte,J1,J2,J3,J4,J5,J6,J7,J8,J9,reduceCtorEq,K1,K2,K3,K4]
  simp only [vx,T,K5,J0,K6,K7,↓reduceIte,J1,J2,J3,J4,J5,J6,J7,J8,J9,reduceCtorEq,K1,K2,K3,K4,ZV]
  refine Cg (iMul_spec a.num b.num (by omega) (by omega)) ?_
  simp only [vx,T,K5,J0,K6,K7,↓reduceIte,J1,J2,J3,J4,J5,J6,J7,J8,J9,reduceCtorEq,K1,K2,K3,K4,ZV]
  refine Cg (iMul_spec a.den b.den (by omega) (by omega)) ?_
  rw [← Int.natCast_mul]
  simp only [vx,T,K5,J0,K6,K7,↓reduceIte,J1,J2,J3,J4,J5,J6,J7,J8,J9,reduceCtorEq,K1,K2,K3,K4,ZV]
  refine Cg (iLowest_spec (a.num * b.num) (a.den * b.den) (by omega) (by omega) p3) ?_
  rw [← Rat.mul_def']
  simp only [vx,T,K5,J0,K6,K7,↓reduceIte,J1,J2,J3,J4,J5,J6,J7,J8,J9,reduceCtorEq,K1,K2,K3,K4,QV,QC]
  refine Va ?_; simp only [vLe,vLeL,rx,Y0,Y1,Y2,Y3,Y4,Y5,Y6,Y7,ren,↓reduceIte,J1,J2,J3,J4,J5,J6,J7,J8,J9,reduceCtorEq,K1,K2,K3,K4]
theorem iQAdd_spec (a b : Rat) (ha : qm a < 2 ^ 34) (hb : qm b < 2 ^ 34) : Pr Tryz.prog 83 [QV a, QV b] (QV (a + b)) := by
  have m1 := zn_mul a.num b.num
  have m2 := nl_mul a.den b.den
  have m3 := zn_mul a.num b.den
  have m4 := zn_mul b.num a.den
  have m5 := zn_add (a.num * b.den) (b.num * a.den)
  have n1 := zn_nat a.den
  have n2 := zn_nat b.den
  have p1 := a.den_pos
  have p2 := b.den_pos
  have p3 := Nat.mul_pos p1 p2
  unfold qm at ha hb
  refine pv T_ok mixed Tryz.func83 rfl (by decide) _ (by simp [Tryz.ntmps83]) ⟨[0, 1, 2, 3, 4, 5, 13], []⟩ (by kernel_rfl) _ ?_
  show vc T _ _ (Option.get! Tryz.f83.body) _ _
  simp only [Tryz.f83,Tryz.ntmps83,Option.get!,iS,iM,eO,J1]
  simp only [vx,T,K5,J0,K6,K7,↓reduceIte,J1,J2,J3,J4,J5,J6,J7,J8,J9,reduceCtorEq,K1,K2,K3,K4,QV,QC]
  refine Cg (iOne_spec a.den (by omega)) ?_
  simp only [vx,T,K5,J0,K6,K7,↓reduceIte,J1,J2,J3,J4,J5,J6,J7,J8,J9,reduceCtorEq,K1,K2,K3,K4,ZV]
  refine ⟨fun h1 => Lg ?_, fun h1 => Lg ?_⟩
  · simp only [vx,T,K5,J0,K6,K7,↓reduceIte,J1,J2,J3,J4,J5,J6,J7,J8,J9,reduceCtorEq,K1,K2,K3,K4,ZV]
    refine Cg (iOne_spec b.den (by omega)) ?_
    simp only [vx,T,K5,J0,K6,K7,↓reduceIte,J1,J2,J3,J4,J5,J6,J7,J8,J9,reduceCtorEq,K1,K2,K3,K4,ZV]
    refine ⟨fun h2 => Lg ?_, fun h2 => Lg ?_⟩
    · obtain ⟨k1, k2⟩ := add_one (a := a) (b := b) (by omega) (by omega)
      simp only [vx,T,K5,J0,K6,K7,↓reduceIte,J1,J2,J3,J4,J5,J6,J7,J8,J9,reduceCtorEq,K1,K2,K3,K4,ZV]
      refine Cg (iAdd_spec a.num b.num (by omega) (by omega)) ?_
      simp only [vx,T,K5,J0,K6,K7,↓reduceIte,J1,J2,J3,J4,J5,J6,J7,J8,J9,reduceCtorEq,K1,K2,K3,K4,ZV]
      refine Cg iOne0_spec ?_
      simp only [vx,T,K5,J0,K6,K7,↓reduceIte,J1,J2,J3,J4,J5,J6,J7,J8,J9,reduceCtorEq,K1,K2,K3,K4,ZV]
      rw [k1, k2]
      refine Va ?_; simp only [vLe,vLeL,rx,Y0,Y1,Y2,Y3,Y4,Y5,Y6,Y7,ren,↓reduceIte,J1,J2,J3,J4,J5,J6,J7,J8,J9,reduceCtorEq,K1,K2,K3,K4,X3]
    simp only [vx,T,K5,J0,K6,K7,↓reduceIte,J1,J2,J3,J4,J5,J6,J7,J8,J9,reduceCtorEq,K1,K2,K3,K4,ZV]
    refine Cg (iMul_spec a.num b.den (by omega) (by omega)) ?_
    simp only [vx,T,K5,J0,K6,K7,↓reduceIte,J1,J2,J3,J4,J5,J6,J7,J8,J9,reduceCtorEq,K1,K2,K3,K4,ZV]
    refine Cg (iMul_spec b.num a.den (by omega) (by omega)) ?_
    simp only [vx,T,K5,J0,K6,K7,↓reduceIte,J1,J2,J3,J4,J5,J6,J7,J8,J9,reduceCtorEq,K1,K2,K3,K4,ZV]
    refine Cg (iAdd_spec (a.num * b.den) (b.num * a.den) (by omega) (by omega)) ?_
    simp only [vx,T,K5,J0,K6,K7,↓reduceIte,J1,J2,J3,J4,J5,J6,J7,J8,J9,reduceCtorEq,K1,K2,K3,K4,ZV]
    refine Cg (iMul_spec a.den b.den (by omega) (by omega)) ?_
    rw [← Int.natCast_mul]
    simp only [vx,T,K5,J0,K6,K7,↓reduceIte,J1,J2,J3,J4,J5,J6,J7,J8,J9,reduceCtorEq,K1,K2,K3,K4,ZV]
    refine Cg (iLowest_spec (a.num * b.den + b.num * a.den) (a.den * b.den) (by omega) (by omega) p3) ?_
    rw [← Rat.add_def']
    simp only [vx,T,K5,J0,K6,K7,↓reduceIte,J1,J2,J3,J4,J5,J6,J7,J8,J9,reduceCtorEq,K1,K2,K3,K4,QV,QC]
    refine Va ?_; simp only [vLe,vLeL,rx,Y0,Y1,Y2,Y3,Y4,Y5,Y6,Y7,ren,↓reduceIte,J1,J2,J3,J4,J5,J6,J7,J8,J9,reduceCtorEq,K1,K2,K3,K4]
  simp only [vx,T,K5,J0,K6,K7,↓reduceIte,J1,J2,J3,J4,J5,J6,J7,J8,J9,reduceCtorEq,K1,K2,K3,K4,ZV]
  refine Cg (iMul_spec a.num b.den (by omega) (by omega)) ?_
  simp only [vx,T,K5,J0,K6,K7,↓reduceIte,J1,J2,J3,J4,J5,J6,J7,J8,J9,reduceCtorEq,K1,K2,K3,K4,ZV]
  refine Cg (iMul_spec b.num a.den (by omega) (by omega)) ?_
  simp only [vx,T,K5,J0,K6,K7,↓reduceIte,J1,J2,J3,J4,J5,J6,J7,J8,J9,reduceCtorEq,K1,K2,K3,K4,ZV]
  refine Cg (iAdd_spec (a.num * b.den) (b.num * a.den) (by omega) (by omega)) ?_
  simp only [vx,T,K5,J0,K6,K7,↓reduceIte,J1,J2,J3,J4,J5,J6,J7,J8,J9,reduceCtorEq,K1,K2,K3,K4,ZV]
  refine Cg (iMul_spec a.den b.den (by omega) (by omega)) ?_
  rw [← Int.natCast_mul]
  simp only [vx,T,K5,J0,K6,K7,↓reduceIte,J1,J2,J3,J4,J5,J6,J7,J8,J9,reduceCtorEq,K1,K2,K3,K4,ZV]
  refine Cg (iLowest_spec (a.num * b.den + b.num * a.den) (a.den * b.den) (by omega) (by omega) p3) ?_
  rw [← Rat.add_def']
  simp only [vx,T,K5,J0,K6,K7,↓reduceIte,J1,J2,J3,J4,J5,J6,J7,J8,J9,reduceCtorEq,K1,K2,K3,K4,QV,QC]
  refine Va ?_; simp only [vLe,vLeL,rx,Y0,Y1,Y2,Y3,Y4,Y5,Y6,Y7,ren,↓reduceIte,J1,J2,J3,J4,J5,J6,J7,J8,J9,reduceCtorEq,K1,K2,K3,K4]
theorem rQMul_spec (a b : Rat) (ha : qm a < 2 ^ 34) (hb : qm b < 2 ^ 34) : Pr Tryz.prog 193 [QV a, QV b] (QV (a * b)) := by
  have m1 := zn_mul a.num b.num
  have m2 := nl_mul a.den b.den
  have m3 := zn_mul a.num b.den
  have m4 := zn_mul b.num a.den
  have m5 := zn_add (a.num * b.den) (b.num * a.den)
  have n1 := zn_nat a.den
  have n2 := zn_nat b.den
  have p1 := a.den_pos
  have p2 := b.den_pos
  have p3 := Nat.mul_pos p1 p2
  unfold qm at ha hb
  obtain ⟨g, hg⟩ : ∃ g, g = a.num.natAbs.gcd b.den := ⟨_, rfl⟩
  obtain ⟨h, hh⟩ : ∃ h, h = b.num.natAbs.gcd a.den := ⟨_, rfl⟩
  have eg : Int.gcd a.num b.den = g := by rw [hg]; rfl
  have eh : Int.gcd b.num a.den = h := by rw [hh]; rfl
  have g0 : 0 < g := by rw [hg]; exact Nat.gcd_pos_of_pos_right _ p2
  have h0 : 0 < h := by rw [hh]; exact Nat.gcd_pos_of_pos_right _ p1
  have gl : nl g ≤ nl b.den := by rw [hg]; exact nl_mono (Nat.gcd_le_right _ p2)
  have hl : nl h ≤ nl a.den := by rw [hh]; exact nl_mono (Nat.gcd_le_right _ p1)
  have dl : nl (a.den / h) ≤ nl a.den := nl_mono (Nat.div_le_self _ _)
  have dl2 : nl (b.den / g) ≤ nl b.den := nl_mono (Nat.div_le_self _ _)
  obtain ⟨k1, k2⟩ := mul_gen a b hg hh
  refine pv T_ok mixed Tryz.func193 rfl (by decide) _ (by simp [Tryz.ntmps193]) ⟨[0, 1, 2, 3, 4, 5, 6, 18, 27], []⟩ (by kernel_rfl) _ ?_
  show vc T _ _ (Option.get! Tryz.f193.body) _ _
  simp only [Tryz.f193,Tryz.ntmps193,Option.get!,iS,iM,eO,J1]
  simp only [vx,T,K5,J0,K6,K7,↓reduceIte,J1,J2,J3,J4,J5,J6,J7,J8,J9,reduceCtorEq,K1,K2,K3,K4,QV,QC]
  refine ⟨fun h1 => Lg ?_, fun h1 => Lg ?_⟩
  · have ez : a * b = 0 := by rw [Rat.num_eq_zero.1 (zm_len0 h1), Rat.zero_mul]
    simp only [vx,T,K5,J0,K6,K7,↓reduceIte,J1,J2,J3,J4,J5,J6,J7,J8,J9,reduceCtorEq,K1,K2,K3,K4,ZV]
    refine Cg (rQFromInt_spec 0 (by omega) (by omega)) ?_
    rw [ez, ← ofInt0]
    simp only [vx,T,K5,J0,K6,K7,↓reduceIte,J1,J2,J3,J4,J5,J6,J7,J8,J9,reduceCtorEq,K1,K2,K3,K4,QV,QC]
    refine Va ?_; simp only [vLe,vLeL,rx,Y0,Y1,Y2,Y3,Y4,Y5,Y6,Y7,ren,↓reduceIte,J1,J2,J3,J4,J5,J6,J7,J8,J9,reduceCtorEq,K1,K2,K3,K4]
  simp only [vx,T,K5,J0,K6,K7,↓reduceIte,J1,J2,J3,J4,J5,J6,J7,J8,J9,reduceCtorEq,K1,K2,K3,K4,ZV]
  refine ⟨fun h2 => Lg ?_, fun h2 => Lg ?_⟩
  · have ez : a * b = 0 := by rw [Rat.num_eq_zero.1 (zm_len0 h2), Rat.mul_zero]
    simp only [vx,T,K5,J0,K6,K7,↓reduceIte,J1,J2,J3,J4,J5,J6,J7,J8,J9,reduceCtorEq,K1,K2,K3,K4,ZV]
    refine Cg (rQFromInt_spec 0 (by omega) (by omega)) ?_
    rw [ez, ← ofInt0]
    simp only [vx,T,K5,J0,K6,K7,↓reduceIte,J1,J2,J3,J4,J5,J6,J7,J8,J9,reduceCtorEq,K1,K2,K3,K4,QV,QC]
    refine Va ?_; simp only [vLe,vLeL,rx,Y0,Y1,Y2,Y3,Y4,Y5,Y6,Y7,ren,↓reduceIte,J1,J2,J3,J4,J5,J6,J7,J8,J9,reduceCtorEq,K1,K2,K3,K4]
  simp only [vx,T,K5,J0,K6,K7,↓reduceIte,J1,J2,J3,J4,J5,J6,J7,J8,J9,reduceCtorEq,K1,K2,K3,K4,ZV]
  refine Cg (rOne_spec a.den (by omega)) ?_
  simp only [vx,T,K5,J0,K6,K7,↓reduceIte,J1,J2,J3,J4,J5,J6,J7,J8,J9,reduceCtorEq,K1,K2,K3,K4,ZV]
  refine ⟨fun h3 => Lg ?_, fun h3 => Lg ?_⟩
  · simp only [vx,T,K5,J0,K6,K7,↓reduceIte,J1,J2,J3,J4,J5,J6,J7,J8,J9,reduceCtorEq,K1,K2,K3,K4,ZV]
    refine Cg (rOne_spec b.den (by omega)) ?_
    simp only [vx,T,K5,J0,K6,K7,↓reduceIte,J1,J2,J3,J4,J5,J6,J7,J8,J9,reduceCtorEq,K1,K2,K3,K4,ZV]
    refine ⟨fun h4 => Lg ?_, fun h4 => Lg ?_⟩
    · obtain ⟨k1, k2⟩ := mul_one' (a := a) (b := b) (by omega) (by omega)
      simp only [vx,T,K5,J0,K6,K7,↓reduceIte,J1,J2,J3,J4,J5,J6,J7,J8,J9,reduceCtorEq,K1,K2,K3,K4,ZV]
      refine Cg (rMul_spec a.num b.num (by omega) (by omega)) ?_
      simp only [vx,T,K5,J0,K6,K7,↓reduceIte,J1,J2,J3,J4,J5,J6,J7,J8,J9,reduceCtorEq,K1,K2,K3,K4,ZV]
      rw [k1, k2, h3]
      refine Va ?_; simp only [vLe,vLeL,rx,Y0,Y1,Y2,Y3,Y4,Y5,Y6,Y7,ren,↓reduceIte,J1,J2,J3,J4,J5,J6,J7,J8,J9,reduceCtorEq,K1,K2,K3,K4,X3]
    simp only [vx,T,K5,J0,K6,K7,↓reduceIte,J1,J2,J3,J4,J5,J6,J7,J8,J9,reduceCtorEq,K1,K2,K3,K4,ZV]
    have hw1 : zn (a.num.fdiv g) ≤ zn a.num := zn_fdiv _ _
    have hw2 : zn (b.num.fdiv h) ≤ zn b.num := zn_fdiv _ _
    refine Cg (rGCD_spec a.num b.den (by omega) (by omega)) ?_
    rw [eg]
    simp only [vx,T,K5,J0,K6,K7,↓reduceIte,J1,J2,J3,J4,J5,J6,J7,J8,J9,reduceCtorEq,K1,K2,K3,K4,ZV]
    refine Cg (rGCD_spec b.num a.den (by omega) (by omega)) ?_
    rw [eh]
    simp only [vx,T,K5,J0,K6,K7,↓reduceIte,J1,J2,J3,J4,J5,J6,J7,J8,J9,reduceCtorEq,K1,K2,K3,K4,ZV]
    refine Cg (rQuo_spec a.num g (by omega) (by rw [zn_nat]; omega) (by omega)) ?_
    simp only [vx,T,K5,J0,K6,K7,↓reduceIte,J1,J2,J3,J4,J5,J6,J7,J8,J9,reduceCtorEq,K1,K2,K3,K4,ZV]
    refine Cg (rQuo_spec b.num h (by omega) (by rw [zn_nat]; omega) (by omega)) ?_
    simp only [vx,T,K5,J0,K6,K7,↓reduceIte,J1,J2,J3,J4,J5,J6,J7,J8,J9,reduceCtorEq,K1,K2,K3,K4,ZV]
    refine Cg (rMul_spec (a.num.fdiv g) (b.num.fdiv h) (by omega) (by omega)) ?_
    rw [k1]
    simp only [vx,T,K5,J0,K6,K7,↓reduceIte,J1,J2,J3,J4,J5,J6,J7,J8,J9,reduceCtorEq,K1,K2,K3,K4,ZV]
    refine Cg (rQuo_spec a.den h (by omega) (by rw [zn_nat]; omega) (by omega)) ?_
    rw [fdiv_nat]
    simp only [vx,T,K5,J0,K6,K7,↓reduceIte,J1,J2,J3,J4,J5,J6,J7,J8,J9,reduceCtorEq,K1,K2,K3,K4,ZV]
    refine Cg (rQuo_spec b.den g (by omega) (by rw [zn_nat]; omega) (by omega)) ?_
    rw [fdiv_nat]
    simp only [vx,T,K5,J0,K6,K7,↓reduceIte,J1,J2,J3,J4,J5,J6,J7,J8,J9,reduceCtorEq,K1,K2,K3,K4,ZV]
    refine Cg (rMul_spec ((a.den / h : Nat) : Int) ((b.den / g : Nat) : Int) (by rw [zn_nat]; omega) (by rw [zn_nat]; omega)) ?_
    rw [← Int.natCast_mul, k2]
    simp only [vx,T,K5,J0,K6,K7,↓reduceIte,J1,J2,J3,J4,J5,J6,J7,J8,J9,reduceCtorEq,K1,K2,K3,K4,ZV]
    refine Va ?_; simp only [vLe,vLeL,rx,Y0,Y1,Y2,Y3,Y4,Y5,Y6,Y7,ren,↓reduceIte,J1,J2,J3,J4,J5,J6,J7,J8,J9,reduceCtorEq,K1,K2,K3,K4]
  simp only [vx,T,K5,J0,K6,K7,↓reduceIte,J1,J2,J3,J4,J5,J6,J7,J8,J9,reduceCtorEq,K1,K2,K3,K4,ZV]
  have hw1 : zn (a.num.fdiv g) ≤ zn a.num := zn_fdiv _ _
  have hw2 : zn (b.num.fdiv h) ≤ zn b.num := zn_fdiv _ _
  refine Cg (rGCD_spec a.num b.den (by omega) (by omega)) ?_
  rw [eg]
  simp only [vx,T,K5,J0,K6,K7,↓reduceIte,J1,J2,J3,J4,J5,J6,J7,J8,J9,reduceCtorEq,K1,K2,K3,K4,ZV]
  refine Cg (rGCD_spec b.num a.den (by omega) (by omega)) ?_
  rw [eh]
  simp only [vx,T,K5,J0,K6,K7,↓reduceIte,J1,J2,J3,J4,J5,J6,J7,J8,J9,reduceCtorEq,K1,K2,K3,K4,ZV]
  refine Cg (rQuo_spec a.num g (by omega) (by rw [zn_nat]; omega) (by omega)) ?_
  simp only [vx,T,K5,J0,K6,K7,↓reduceIte,J1,J2,J3,J4,J5,J6,J7,J8,J9,reduceCtorEq,K1,K2,K3,K4,ZV]
  refine Cg (rQuo_spec b.num h (by omega) (by rw [zn_nat]; omega) (by omega)) ?_
  simp only [vx,T,K5,J0,K6,K7,↓reduceIte,J1,J2,J3,J4,J5,J6,J7,J8,J9,reduceCtorEq,K1,K2,K3,K4,ZV]
  refine Cg (rMul_spec (a.num.fdiv g) (b.num.fdiv h) (by omega) (by omega)) ?_
  rw [k1]
  simp only [vx,T,K5,J0,K6,K7,↓reduceIte,J1,J2,J3,J4,J5,J6,J7,J8,J9,reduceCtorEq,K1,K2,K3,K4,ZV]
  refine Cg (rQuo_spec a.den h (by omega) (by rw [zn_nat]; omega) (by omega)) ?_
  rw [fdiv_nat]
  simp only [vx,T,K5,J0,K6,K7,↓reduceIte,J1,J2,J3,J4,J5,J6,J7,J8,J9,reduceCtorEq,K1,K2,K3,K4,ZV]
  refine Cg (rQuo_spec b.den g (by omega) (by rw [zn_nat]; omega) (by omega)) ?_
  rw [fdiv_nat]
  simp only [vx,T,K5,J0,K6,K7,↓reduceIte,J1,J2,J3,J4,J5,J6,J7,J8,J9,reduceCtorEq,K1,K2,K3,K4,ZV]
  refine Cg (rMul_spec ((a.den / h : Nat) : Int) ((b.den / g : Nat) : Int) (by rw [zn_nat]; omega) (by rw [zn_nat]; omega)) ?_
  rw [← Int.natCast_mul, k2]
  simp only [vx,T,K5,J0,K6,K7,↓reduceIte,J1,J2,J3,J4,J5,J6,J7,J8,J9,reduceCtorEq,K1,K2,K3,K4,ZV]
  refine Va ?_; simp only [vLe,vLeL,rx,Y0,Y1,Y2,Y3,Y4,Y5,Y6,Y7,ren,↓reduceIte,J1,J2,J3,J4,J5,J6,J7,J8,J9,reduceCtorEq,K1,K2,K3,K4]
theorem rQAdd_spec (a b : Rat) (ha : qm a < 2 ^ 34) (hb : qm b < 2 ^ 34) : Pr Tryz.prog 8 [QV a, QV b] (QV (a + b)) := by
  have m1 := zn_mul a.num b.num
  have m2 := nl_mul a.den b.den
  have m3 := zn_mul a.num b.den
  have m4 := zn_mul b.num a.den
  have m5 := zn_add (a.num * b.den) (b.num * a.den)
  have n1 := zn_nat a.den
  have n2 := zn_nat b.den
  have p1 := a.den_pos
  have p2 := b.den_pos
  have p3 := Nat.mul_pos p1 p2
  unfold qm at ha hb
  obtain ⟨g, hg⟩ : ∃ g, g = a.den.gcd b.den := ⟨_, rfl⟩
  have eg : Int.gcd (a.den : Int) b.den = g := by rw [hg]; rfl
  have g0 : 0 < g := by rw [hg]; exact Nat.gcd_pos_of_pos_right _ p2
  have gl : nl g ≤ nl b.den := by rw [hg]; exact nl_mono (Nat.gcd_le_right _ p2)
  obtain ⟨num, hn⟩ : ∃ num, num = a.num * ((b.den / g : Nat) : Int) + b.num * ((a.den / g : Nat) : Int) := ⟨_, rfl⟩
  obtain ⟨h, hh⟩ : ∃ h, h = num.natAbs.gcd g := ⟨_, rfl⟩
  have eh : Int.gcd num g = h := by rw [hh]; rfl
  have h0 : 0 < h := by rw [hh]; exact Nat.gcd_pos_of_pos_right _ g0
  have hl : nl h ≤ nl g := by rw [hh]; exact nl_mono (Nat.gcd_le_right _ g0)
  have dl : nl (a.den / g) ≤ nl a.den := nl_mono (Nat.div_le_self _ _)
  have dl2 : nl (b.den / g) ≤ nl b.den := nl_mono (Nat.div_le_self _ _)
  have dl3 : nl (b.den / h) ≤ nl b.den := nl_mono (Nat.div_le_self _ _)
  have w1 := zn_mul a.num ((b.den / g : Nat) : Int)
  have w2 := zn_mul b.num ((a.den / g : Nat) : Int)
  have w3 := zn_add (a.num * ((b.den / g : Nat) : Int)) (b.num * ((a.den / g : Nat) : Int))
  rw [zn_nat] at w1 w2
  rw [← hn] at w3
  have w4 : zn (num.fdiv h) ≤ zn num := zn_fdiv _ _
  obtain ⟨k1, k2⟩ := add_gen hg hn hh
  refine pv T_ok mixed Tryz.func8 rfl (by decide) _ (by simp [Tryz.ntmps8]) ⟨[0, 1, 2, 3, 4, 5, 6, 7, 8, 9, 10, 15, 21, 30, 45], []⟩ (by kernel_rfl) _ ?_
  show vc T _ _ (Option.get! Tryz.f8.body) _ _
  simp only [Tryz.f8,Tryz.ntmps8,Option.get!,iS,iM,eO,J1]
  simp only [vx,T,K5,J0,K6,K7,↓reduceIte,J1,J2,J3,J4,J5,J6,J7,J8,J9,reduceCtorEq,K1,K2,K3,K4,QV,QC]
  refine ⟨fun h1 => Lg ?_, fun h1 => Lg ?_⟩
  · have ez : a + b = b := by rw [Rat.num_eq_zero.1 (zm_len0 h1), Rat.zero_add]
    simp only [vx,T,K5,J0,K6,K7,↓reduceIte,J1,J2,J3,J4,J5,J6,J7,J8,J9,reduceCtorEq,K1,K2,K3,K4,ZV]
    rw [ez]
    refine Va ?_; simp only [vLe,vLeL,rx,Y0,Y1,Y2,Y3,Y4,Y5,Y6,Y7,ren,↓reduceIte,J1,J2,J3,J4,J5,J6,J7,J8,J9,reduceCtorEq,K1,K2,K3,K4]
  simp only [vx,T,K5,J0,K6,K7,↓reduceIte,J1,J2,J3,J4,J5,J6,J7,J8,J9,reduceCtorEq,K1,K2,K3,K4,ZV]
  refine ⟨fun h2 => Lg ?_, fun h2 => Lg ?_⟩
  · have ez : a + b = a := by rw [Rat.num_eq_zero.1 (zm_len0 h2), Rat.add_zero]
    simp only [vx,T,K5,J0,K6,K7,↓reduceIte,J1,J2,J3,J4,J5,J6,J7,J8,J9,reduceCtorEq,K1,K2,K3,K4,ZV]
    rw [ez]
    refine Va ?_; simp only [vLe,vLeL,rx,Y0,Y1,Y2,Y3,Y4,Y5,Y6,Y7,ren,↓reduceIte,J1,J2,J3,J4,J5,J6,J7,J8,J9,reduceCtorEq,K1,K2,K3,K4]
  simp only [vx,T,K5,J0,K6,K7,↓reduceIte,J1,J2,J3,J4,J5,J6,J7,J8,J9,reduceCtorEq,K1,K2,K3,K4,ZV]
  refine Cg (rOne_spec a.den (by omega)) ?_
  simp only [vx,T,K5,J0,K6,K7,↓reduceIte,J1,J2,J3,J4,J5,J6,J7,J8,J9,reduceCtorEq,K1,K2,K3,K4,ZV]
  refine ⟨fun h3 => Lg ?_, fun h3 => Lg ?_⟩
  · simp only [vx,T,K5,J0,K6,K7,↓reduceIte,J1,J2,J3,J4,J5,J6,J7,J8,J9,reduceCtorEq,K1,K2,K3,K4,ZV]
    refine Cg (rOne_spec b.den (by omega)) ?_
    simp only [vx,T,K5,J0,K6,K7,↓reduceIte,J1,J2,J3,J4,J5,J6,J7,J8,J9,reduceCtorEq,K1,K2,K3,K4,ZV]
    refine ⟨fun h4 => Lg ?_, fun h4 => Lg ?_⟩
    · obtain ⟨k1, k2⟩ := add_one (a := a) (b := b) (by omega) (by omega)
      simp only [vx,T,K5,J0,K6,K7,↓reduceIte,J1,J2,J3,J4,J5,J6,J7,J8,J9,reduceCtorEq,K1,K2,K3,K4,ZV]
      refine Cg (rAdd_spec a.num b.num (by omega) (by omega)) ?_
      simp only [vx,T,K5,J0,K6,K7,↓reduceIte,J1,J2,J3,J4,J5,J6,J7,J8,J9,reduceCtorEq,K1,K2,K3,K4,ZV]
      rw [k1, k2, h3]
      refine Va ?_; simp only [vLe,vLeL,rx,Y0,Y1,Y2,Y3,Y4,Y5,Y6,Y7,ren,↓reduceIte,J1,J2,J3,J4,J5,J6,J7,J8,J9,reduceCtorEq,K1,K2,K3,K4,X3]
    simp only [vx,T,K5,J0,K6,K7,↓reduceIte,J1,J2,J3,J4,J5,J6,J7,J8,J9,reduceCtorEq,K1,K2,K3,K4,ZV]
    refine Cg (rGCD_spec a.den b.den (by omega) (by omega)) ?_
    rw [eg]
    simp only [vx,T,K5,J0,K6,K7,↓reduceIte,J1,J2,J3,J4,J5,J6,J7,J8,J9,reduceCtorEq,K1,K2,K3,K4,ZV]
    refine Cg (rOne_spec g (by rw [zn_nat]; omega)) ?_
    simp only [vx,T,K5,J0,K6,K7,↓reduceIte,J1,J2,J3,J4,J5,J6,J7,J8,J9,reduceCtorEq,K1,K2,K3,K4,ZV]
    refine ⟨fun h5 => Lg ?_, fun h5 => Lg ?_⟩
    · obtain ⟨k3, k4⟩ := add_cop (a := a) (b := b) (by rw [← hg]; omega)
      simp only [vx,T,K5,J0,K6,K7,↓reduceIte,J1,J2,J3,J4,J5,J6,J7,J8,J9,reduceCtorEq,K1,K2,K3,K4,ZV]
      refine Cg (rMul_spec a.num b.den (by omega) (by omega)) ?_
      simp only [vx,T,K5,J0,K6,K7,↓reduceIte,J1,J2,J3,J4,J5,J6,J7,J8,J9,reduceCtorEq,K1,K2,K3,K4,ZV]
      refine Cg (rMul_spec b.num a.den (by omega) (by omega)) ?_
      simp only [vx,T,K5,J0,K6,K7,↓reduceIte,J1,J2,J3,J4,J5,J6,J7,J8,J9,reduceCtorEq,K1,K2,K3,K4,ZV]
      refine Cg (rAdd_spec (a.num * b.den) (b.num * a.den) (by omega) (by omega)) ?_
      simp only [vx,T,K5,J0,K6,K7,↓reduceIte,J1,J2,J3,J4,J5,J6,J7,J8,J9,reduceCtorEq,K1,K2,K3,K4,ZV]
      refine Cg (rMul_spec a.den b.den (by omega) (by omega)) ?_
      simp only [vx,T,K5,J0,K6,K7,↓reduceIte,J1,J2,J3,J4,J5,J6,J7,J8,J9,reduceCtorEq,K1,K2,K3,K4,ZV]
      rw [k3, k4, Int.natCast_mul]
      refine Va ?_; simp only [vLe,vLeL,rx,Y0,Y1,Y2,Y3,Y4,Y5,Y6,Y7,ren,↓reduceIte,J1,J2,J3,J4,J5,J6,J7,J8,J9,reduceCtorEq,K1,K2,K3,K4]
    simp only [vx,T,K5,J0,K6,K7,↓reduceIte,J1,J2,J3,J4,J5,J6,J7,J8,J9,reduceCtorEq,K1,K2,K3,K4,ZV]
    refine Cg (rQuo_spec a.den g (by omega) (by rw [zn_nat]; omega) (by omega)) ?_
    rw [fdiv_nat]
    simp only [vx,T,K5,J0,K6,K7,↓reduceIte,J1,J2,J3,J4,J5,J6,J7,J8,J9,reduceCtorEq,K1,K2,K3,K4,ZV]
    refine Cg (rQuo_spec b.den g (by omega) (by rw [zn_nat]; omega) (by omega)) ?_
    rw [fdiv_nat]
    simp only [vx,T,K5,J0,K6,K7,↓reduceIte,J1,J2,J3,J4,J5,J6,J7,J8,J9,reduceCtorEq,K1,K2,K3,K4,ZV]
    refine Cg (rMul_spec a.num ((b.den / g : Nat) : Int) (by omega) (by rw [zn_nat]; omega)) ?_
    simp only [vx,T,K5,J0,K6,K7,↓reduceIte,J1,J2,J3,J4,J5,J6,J7,J8,J9,reduceCtorEq,K1,K2,K3,K4,ZV]
    refine Cg (rMul_spec b.num ((a.den / g : Nat) : Int) (by omega) (by rw [zn_nat]; omega)) ?_
    simp only [vx,T,K5,J0,K6,K7,↓reduceIte,J1,J2,J3,J4,J5,J6,J7,J8,J9,reduceCtorEq,K1,K2,K3,K4,ZV]
    refine Cg (rAdd_spec _ _ (Nat.lt_of_le_of_lt w1 (by omega)) (Nat.lt_of_le_of_lt w2 (by omega))) ?_
    rw [← hn]
    simp only [vx,T,K5,J0,K6,K7,↓reduceIte,J1,J2,J3,J4,J5,J6,J7,J8,J9,reduceCtorEq,K1,K2,K3,K4,ZV]
    refine Cg (rGCD_spec num g (by omega) (by rw [zn_nat]; omega)) ?_
    rw [eh]
    simp only [vx,T,K5,J0,K6,K7,↓reduceIte,J1,J2,J3,J4,J5,J6,J7,J8,J9,reduceCtorEq,K1,K2,K3,K4,ZV]
    refine Cg (rQuo_spec num h (by omega) (by rw [zn_nat]; omega) (by omega)) ?_
    rw [k1]
    simp only [vx,T,K5,J0,K6,K7,↓reduceIte,J1,J2,J3,J4,J5,J6,J7,J8,J9,reduceCtorEq,K1,K2,K3,K4,ZV]
    refine Cg (rQuo_spec b.den h (by omega) (by rw [zn_nat]; omega) (by omega)) ?_
    rw [fdiv_nat]
    simp only [vx,T,K5,J0,K6,K7,↓reduceIte,J1,J2,J3,J4,J5,J6,J7,J8,J9,reduceCtorEq,K1,K2,K3,K4,ZV]
    refine Cg (rMul_spec ((a.den / g : Nat) : Int) ((b.den / h : Nat) : Int) (by rw [zn_nat]; omega) (by rw [zn_nat]; omega)) ?_
    rw [← Int.natCast_mul, k2]
    simp only [vx,T,K5,J0,K6,K7,↓reduceIte,J1,J2,J3,J4,J5,J6,J7,J8,J9,reduceCtorEq,K1,K2,K3,K4,ZV]
    refine Va ?_; simp only [vLe,vLeL,rx,Y0,Y1,Y2,Y3,Y4,Y5,Y6,Y7,ren,↓reduceIte,J1,J2,J3,J4,J5,J6,J7,J8,J9,reduceCtorEq,K1,K2,K3,K4]
  simp only [vx,T,K5,J0,K6,K7,↓reduceIte,J1,J2,J3,J4,J5,J6,J7,J8,J9,reduceCtorEq,K1,K2,K3,K4,ZV]
  refine Cg (rGCD_spec a.den b.den (by omega) (by omega)) ?_
  rw [eg]
  simp only [vx,T,K5,J0,K6,K7,↓reduceIte,J1,J2,J3,J4,J5,J6,J7,J8,J9,reduceCtorEq,K1,K2,K3,K4,ZV]
  refine Cg (rOne_spec g (by rw [zn_nat]; omega)) ?_
  simp only [vx,T,K5,J0,K6,K7,↓reduceIte,J1,J2,J3,J4,J5,J6,J7,J8,J9,reduceCtorEq,K1,K2,K3,K4,ZV]
  refine ⟨fun h5 => Lg ?_, fun h5 => Lg ?_⟩
  · obtain ⟨k3, k4⟩ := add_cop (a := a) (b := b) (by rw [← hg]; omega)
    simp only [vx,T,K5,J0,K6,K7,↓reduceIte,J1,J2,J3,J4,J5,J6,J7,J8,J9,reduceCtorEq,K1,K2,K3,K4,ZV]
    refine Cg (rMul_spec a.num b.den (by omega) (by omega)) ?_
    simp only [vx,T,K5,J0,K6,K7,↓reduceIte,J1,J2,J3,J4,J5,J6,J7,J8,J9,reduceCtorEq,K1,K2,K3,K4,ZV]
    refine Cg (rMul_spec b.num a.den (by omega) (by omega)) ?_
    simp only [vx,T,K5,J0,K6,K7,↓reduceIte,J1,J2,J3,J4,J5,J6,J7,J8,J9,reduceCtorEq,K1,K2,K3,K4,ZV]
    refine Cg (rAdd_spec (a.num * b.den) (b.num * a.den) (by omega) (by omega)) ?_
    simp only [vx,T,K5,J0,K6,K7,↓reduceIte,J1,J2,J3,J4,J5,J6,J7,J8,J9,reduceCtorEq,K1,K2,K3,K4,ZV]
    refine Cg (rMul_spec a.den b.den (by omega) (by omega)) ?_
    simp only [vx,T,K5,J0,K6,K7,↓reduceIte,J1,J2,J3,J4,J5,J6,J7,J8,J9,reduceCtorEq,K1,K2,K3,K4,ZV]
    rw [k3, k4, Int.natCast_mul]
    refine Va ?_; simp only [vLe,vLeL,rx,Y0,Y1,Y2,Y3,Y4,Y5,Y6,Y7,ren,↓reduceIte,J1,J2,J3,J4,J5,J6,J7,J8,J9,reduceCtorEq,K1,K2,K3,K4]
  simp only [vx,T,K5,J0,K6,K7,↓reduceIte,J1,J2,J3,J4,J5,J6,J7,J8,J9,reduceCtorEq,K1,K2,K3,K4,ZV]
  refine Cg (rQuo_spec a.den g (by omega) (by rw [zn_nat]; omega) (by omega)) ?_
  rw [fdiv_nat]
  simp only [vx,T,K5,J0,K6,K7,↓reduceIte,J1,J2,J3,J4,J5,J6,J7,J8,J9,reduceCtorEq,K1,K2,K3,K4,ZV]
  refine Cg (rQuo_spec b.den g (by omega) (by rw [zn_nat]; omega) (by omega)) ?_
  rw [fdiv_nat]
  simp only [vx,T,K5,J0,K6,K7,↓reduceIte,J1,J2,J3,J4,J5,J6,J7,J8,J9,reduceCtorEq,K1,K2,K3,K4,ZV]
  refine Cg (rMul_spec a.num ((b.den / g : Nat) : Int) (by omega) (by rw [zn_nat]; omega)) ?_
  simp only [vx,T,K5,J0,K6,K7,↓reduceIte,J1,J2,J3,J4,J5,J6,J7,J8,J9,reduceCtorEq,K1,K2,K3,K4,ZV]
  refine Cg (rMul_spec b.num ((a.den / g : Nat) : Int) (by omega) (by rw [zn_nat]; omega)) ?_
  simp only [vx,T,K5,J0,K6,K7,↓reduceIte,J1,J2,J3,J4,J5,J6,J7,J8,J9,reduceCtorEq,K1,K2,K3,K4,ZV]
  refine Cg (rAdd_spec _ _ (Nat.lt_of_le_of_lt w1 (by omega)) (Nat.lt_of_le_of_lt w2 (by omega))) ?_
  rw [← hn]
  simp only [vx,T,K5,J0,K6,K7,↓reduceIte,J1,J2,J3,J4,J5,J6,J7,J8,J9,reduceCtorEq,K1,K2,K3,K4,ZV]
  refine Cg (rGCD_spec num g (by omega) (by rw [zn_nat]; omega)) ?_
  rw [eh]
  simp only [vx,T,K5,J0,K6,K7,↓reduceIte,J1,J2,J3,J4,J5,J6,J7,J8,J9,reduceCtorEq,K1,K2,K3,K4,ZV]
  refine Cg (rQuo_spec num h (by omega) (by rw [zn_nat]; omega) (by omega)) ?_
  rw [k1]
  simp only [vx,T,K5,J0,K6,K7,↓reduceIte,J1,J2,J3,J4,J5,J6,J7,J8,J9,reduceCtorEq,K1,K2,K3,K4,ZV]
  refine Cg (rQuo_spec b.den h (by omega) (by rw [zn_nat]; omega) (by omega)) ?_
  rw [fdiv_nat]
  simp only [vx,T,K5,J0,K6,K7,↓reduceIte,J1,J2,J3,J4,J5,J6,J7,J8,J9,reduceCtorEq,K1,K2,K3,K4,ZV]
  refine Cg (rMul_spec ((a.den / g : Nat) : Int) ((b.den / h : Nat) : Int) (by rw [zn_nat]; omega) (by rw [zn_nat]; omega)) ?_
  rw [← Int.natCast_mul, k2]
  simp only [vx,T,K5,J0,K6,K7,↓reduceIte,J1,J2,J3,J4,J5,J6,J7,J8,J9,reduceCtorEq,K1,K2,K3,K4,ZV]
  refine Va ?_; simp only [vLe,vLeL,rx,Y0,Y1,Y2,Y3,Y4,Y5,Y6,Y7,ren,↓reduceIte,J1,J2,J3,J4,J5,J6,J7,J8,J9,reduceCtorEq,K1,K2,K3,K4]
open Go Go.Eng
theorem ne_false_iff {z w : Int} (h : zs z ≠ zs w ∨ zn z ≠ zn w) : decide (z = w) = false := by
  refine decide_eq_false ?_
  rintro rfl
  rcases h with h | h <;> exact h rfl
theorem rSameInt_spec (z w : Int) (hz : zn z < 2 ^ 40) (hw : zn w < 2 ^ 40) : Pr Tryz.prog 73 [ZV z, ZV w] (.one (.bool (decide (z = w)))) := by
  refine pv T_ok mixed Tryz.func73 rfl (by decide) _ (by simp [Tryz.ntmps73]) ⟨[0, 1, 2, 3, 4, 5, 19, 24, 37], []⟩ (by kernel_rfl) _ ?_
  show vc T _ _ (Option.get! Tryz.f73.body) _ _
  simp only [Tryz.f73,Tryz.ntmps73,Option.get!,iS,iM,eO,J1]
  simp only [vx,T,K5,J0,K6,K7,↓reduceIte,J1,J2,J3,J4,J5,J6,J7,J8,J9,reduceCtorEq,K1,K2,K3,K4,ZV]
  refine ⟨fun h1 => Lg ?_, fun h1 => Lg ?_⟩
  · have hb := ne_false_iff (z := z) (w := w) (.inl (by simpa using h1))
    simp only [vx,T,K5,J0,K6,K7,↓reduceIte,J1,J2,J3,J4,J5,J6,J7,J8,J9,reduceCtorEq,K1,K2,K3,K4,ZV]
    exact vb hb.symm
  have h1 : zs z = zs w := by simpa using h1
  simp only [vx,T,K5,J0,K6,K7,↓reduceIte,J1,J2,J3,J4,J5,J6,J7,J8,J9,reduceCtorEq,K1,K2,K3,K4,ZV]
  refine ⟨fun h2 => Lg ?_, fun h2 => Lg ?_⟩
  · rw [zm_length, zm_length] at h2
    have hb := ne_false_iff (z := z) (w := w) (.inr (by omega))
    simp only [vx,T,K5,J0,K6,K7,↓reduceIte,J1,J2,J3,J4,J5,J6,J7,J8,J9,reduceCtorEq,K1,K2,K3,K4,ZV]
    exact vb hb.symm
  rw [zm_length, zm_length] at h2
  have h2' : zn z = zn w := by omega
  simp only [vx,T,K5,J0,K6,K7,↓reduceIte,J1,J2,J3,J4,J5,J6,J7,J8,J9,reduceCtorEq,K1,K2,K3,K4,ZV]
  refine Lk (fun y : {i : Nat // i ≤ zn z ∧ z.natAbs % BB ^ i = w.natAbs % BB ^ i} => ⟨[(2, .one (.ptr 1 0)), (3, .one (.ptr 2 0)), (4, .one (.bool false)), (5, .one (.int .i64 y.1))], [(1, ⟨.var [.bool (zs z), .ints .u32 (zm z)], true⟩), (2, ⟨.var [.bool (zs w), .ints .u32 (zm w)], true⟩)], 3, 38⟩) (fun y => zn z - y.1) ⟨0, by omega, by rw [Nat.pow_zero, Nat.mod_one, Nat.mod_one]⟩ ?_ (fun ⟨i, hi, he⟩ => ?_)
  · refine Sa ?_; simp only [rx,Y0,Y1,Y2,Y3,Y4,Y5,Y6,Y7,ren,↓reduceIte,J1,J2,J3,J4,J5,J6,J7,J8,J9,reduceCtorEq,K1,K2,K3,K4,Y8,Y9,X2,X3,X4]
  simp only [vx,T,K5,J0,K6,K7,↓reduceIte,J1,J2,J3,J4,J5,J6,J7,J8,J9,reduceCtorEq,K1,K2,K3,K4,zm_length]
  refine ⟨fun h3 => Lg ?_, fun h3 => Lg ?_⟩
  · have g1 : (zm z).getD i 0 = ((z.natAbs / BB ^ i % BB : Nat) : Int) := lG _ _
    have g2 : (zm w).getD i 0 = ((w.natAbs / BB ^ i % BB : Nat) : Int) := lG _ _
    have i1 := wI i (by omega)
    simp only [vx,T,K5,J0,K6,K7,↓reduceIte,J1,J2,J3,J4,J5,J6,J7,J8,J9,reduceCtorEq,K1,K2,K3,K4,zm_length]
    simp only [Int.toNat_natCast,g1,g2]
    refine ⟨by omega, by omega, ?_⟩
    refine ⟨fun h4 => Lg ?_, fun h4 => Lg ?_⟩
    · have hb : decide (z = w) = false := decide_eq_false (by rintro rfl; exact h4 rfl)
      simp only [vx,T,K5,J0,K6,K7,↓reduceIte,J1,J2,J3,J4,J5,J6,J7,J8,J9,reduceCtorEq,K1,K2,K3,K4,ZV]
      exact vb hb.symm
    simp only [vx,T,K5,J0,K6,K7,↓reduceIte,J1,J2,J3,J4,J5,J6,J7,J8,J9,reduceCtorEq,K1,K2,K3,K4,ZV]
    simp only [i1]
    refine Lq ⟨i + 1, by omega, ?_⟩ ?_ ?_
    · rw [mod_next', mod_next', he, show z.natAbs / BB ^ i % BB = w.natAbs / BB ^ i % BB by omega]
    · refine Sa ?_; simp only [rx,Y0,Y1,Y2,Y3,Y4,Y5,Y6,Y7,ren,↓reduceIte,J1,J2,J3,J4,J5,J6,J7,J8,J9,reduceCtorEq,K1,K2,K3,K4,Y8,Y9,X2,X3,X4,ZV]
    simp only; omega
  simp only [vx,T,K5,J0,K6,K7,↓reduceIte,J1,J2,J3,J4,J5,J6,J7,J8,J9,reduceCtorEq,K1,K2,K3,K4,ZV]
  have hi' : i = zn z := by omega
  refine vb (decide_eq_true ?_).symm
  have e1 : z.natAbs % BB ^ i = z.natAbs := Nat.mod_eq_of_lt (by rw [hi']; exact lt_of_nl _)
  have e2 : w.natAbs % BB ^ i = w.natAbs := Nat.mod_eq_of_lt (by rw [hi', h2']; exact lt_of_nl _)
  rw [e1, e2] at he
  rw [← zof_self z, ← zof_self w, h1, he]
theorem rQSame_spec (a b : Rat) (ha : qm a < 2 ^ 38) (hb : qm b < 2 ^ 38) : Pr Tryz.prog 43 [QV a, QV b] (.one (.bool (decide (a = b)))) := by
  have n1 := zn_nat a.den
  have n2 := zn_nat b.den
  unfold qm at ha hb
  refine pv T_ok mixed Tryz.func43 rfl (by decide) _ (by simp [Tryz.ntmps43]) ⟨[0, 1, 2, 3, 4], []⟩ (by kernel_rfl) _ ?_
  show vc T _ _ (Option.get! Tryz.f43.body) _ _
  simp only [Tryz.f43,Tryz.ntmps43,Option.get!,iS,iM,eO,J1]
  simp only [vx,T,K5,J0,K6,K7,↓reduceIte,J1,J2,J3,J4,J5,J6,J7,J8,J9,reduceCtorEq,K1,K2,K3,K4,QV,QC]
  refine Cg (rSameInt_spec a.num b.num (by omega) (by omega)) ?_
  simp only [vx,T,K5,J0,K6,K7,↓reduceIte,J1,J2,J3,J4,J5,J6,J7,J8,J9,reduceCtorEq,K1,K2,K3,K4,ZV]
  refine ⟨fun h1 => Lg ?_, fun h1 => Lg ?_⟩
  · simp only [vx,T,K5,J0,K6,K7,↓reduceIte,J1,J2,J3,J4,J5,J6,J7,J8,J9,reduceCtorEq,K1,K2,K3,K4,ZV]
    refine Cg (rSameInt_spec a.den b.den (by omega) (by omega)) ?_
    simp only [vx,T,K5,J0,K6,K7,↓reduceIte,J1,J2,J3,J4,J5,J6,J7,J8,J9,reduceCtorEq,K1,K2,K3,K4,ZV]
    refine vb (decide_eq_decide.2 ?_)
    exact ⟨fun h => Rat.ext h1 (by omega), fun h => by rw [h]⟩
  simp only [vx,T,K5,J0,K6,K7,↓reduceIte,J1,J2,J3,J4,J5,J6,J7,J8,J9,reduceCtorEq,K1,K2,K3,K4,ZV]
  refine vb (decide_eq_false ?_).symm
  rintro rfl
  exact h1 rfl
end Go.Proofs.YtpogdlmhmafjlaaGreat
/-
  The order of lists of variables.
-/
namespace Go.Eng
open Go
theorem drop_getD {xs : List Int} {i : Nat} (h : i < xs.length) : xs.drop i = xs.getD i 0 :: xs.drop (i + 1) := by
  rw [List.drop_eq_getElem_cons h, X7, X8 h]; rfl
def cmpZ (x y : Int) : Int := if x < y then -1 else if y < x then 1 else 0
def cmpL : List Int → List Int → Int
  | [], [] => 0
  | [], _ :: _ => -1
  | _ :: _, [] => 1
  | x :: xs, y :: ys => if cmpZ x y = 0 then cmpL xs ys else cmpZ x y
def cmpV (a b : List Int) : Int := if cmpZ a.length b.length = 0 then cmpL a b else cmpZ a.length b.length
def befL : List Int → List Int → Int
  | x :: xs, y :: ys => if x = y then befL xs ys else IntKind.i64.wrap (x - y)
  | _, _ => 0
def bef (a b : List Int) : Int := if a.length = b.length then befL a b else (a.length : Int) - b.length
theorem cmpZ_zero {x y : Int} : cmpZ x y = 0 ↔ x = y := by unfold cmpZ; (repeat' split) <;> omega
theorem cmpZ_neg {x y : Int} : cmpZ x y < 0 ↔ x < y := by unfold cmpZ; (repeat' split) <;> omega
theorem cmpZ_swap (x y : Int) : cmpZ y x = - cmpZ x y := by unfold cmpZ; (repeat' split) <;> omega
theorem cmpL_zero : ∀ {a b : List Int}, cmpL a b = 0 ↔ a = b
  | [], [] => by simp [cmpL]
  | [], _ :: _ => by simp [cmpL]
  | _ :: _, [] => by simp [cmpL]
  | x :: xs, y :: ys => by
    have ih := cmpL_zero (a := xs) (b := ys)
    have hz := cmpZ_zero (x := x) (y := y)
    simp only [cmpL,List.cons.injEq]
    split
    · rename_i h; rw [ih]; simp [hz.1 h]
    rename_i h
    refine ⟨fun h2 => absurd h2 h, fun h2 => absurd (hz.2 h2.1) h⟩
theorem cmpL_swap : ∀ (a b : List Int), cmpL b a = - cmpL a b
  | [], [] => by simp [cmpL]
  | [], _ :: _ => by simp [cmpL]
  | _ :: _, [] => by simp [cmpL]
  | x :: xs, y :: ys => by
    have ih := cmpL_swap xs ys
    have hz := cmpZ_swap x y
    simp only [cmpL]
    split <;> split <;> omega
theorem cmpL_trans : ∀ {a b c : List Int}, cmpL a b ≤ 0 → cmpL b c ≤ 0 → cmpL a c ≤ 0
  | [], _, [], _, _ => by simp [cmpL]
  | [], _, _ :: _, _, _ => by simp [cmpL]
  | _ :: _, [], _, h, _ => by simp [cmpL] at h
  | _ :: _, _ :: _, [], _, h => by simp [cmpL] at h
  | x :: xs, y :: ys, z :: zs, h1, h2 => by
    have ih := cmpL_trans (a := xs) (b := ys) (c := zs)
    simp only [cmpL] at *
    unfold cmpZ at *
    (repeat' split at h1) <;> (repeat' split at h2) <;> (repeat' split) <;> first | omega | (exact ih h1 h2) | (subst_vars; omega)
theorem cmpV_zero {a b : List Int} : cmpV a b = 0 ↔ a = b := by
  unfold cmpV
  split
  · exact cmpL_zero
  rename_i h
  refine ⟨fun h2 => absurd h2 h, fun h2 => ?_⟩
  subst h2
  exact absurd (cmpZ_zero.2 rfl) h
theorem cmpV_swap (a b : List Int) : cmpV b a = - cmpV a b := by
  unfold cmpV
  rw [cmpZ_swap (a.length : Int) b.length, cmpL_swap a b]
  split <;> split <;> omega
theorem cmpV_trans {a b c : List Int} (h1 : cmpV a b ≤ 0) (h2 : cmpV b c ≤ 0) : cmpV a c ≤ 0 := by
  have := cmpL_trans (a := a) (b := b) (c := c)
  unfold cmpV cmpZ at *
  (repeat' split at h1) <;> (repeat' split at h2) <;> (repeat' split) <;> first | omega | (exact this h1 h2)
def In63 (a : List Int) : Prop := ∀ x ∈ a, 0 ≤ x ∧ x < 9223372036854775808
theorem befL_sgn : ∀ {a b : List Int}, In63 a → In63 b → a.length = b.length → (befL a b < 0 ↔ cmpL a b < 0) ∧ (befL a b = 0 ↔ a = b)
  | [], [], _, _, _ => by simp [befL, cmpL]
  | x :: xs, y :: ys, ha, hb, hl => by
    have ih := befL_sgn (a := xs) (b := ys) (fun z hz => ha z (by simp [hz])) (fun z hz => hb z (by simp [hz])) (by simpa using hl)
    have h1 := ha x (by simp)
    have h2 := hb y (by simp)
    simp only [befL,cmpL,List.cons.injEq]
    by_cases h : x = y
    · rw [if_pos h, if_pos (cmpZ_zero.2 h), ih.2]
      exact ⟨ih.1, by simp [h]⟩
    have hw : IntKind.i64.wrap (x - y) = x - y := IntWalk.i64_in _ (by omega)
    rw [if_neg h, if_neg (fun e => h (cmpZ_zero.1 e)), hw, cmpZ_neg]
    refine ⟨by omega, by omega⟩
theorem bef_sgn {a b : List Int} (ha : In63 a) (hb : In63 b) : (bef a b < 0 ↔ cmpV a b < 0) ∧ (bef a b = 0 ↔ a = b) := by
  unfold bef cmpV
  split
  · rename_i h
    rw [if_pos (cmpZ_zero.2 (by omega))]
    exact befL_sgn ha hb h
  rename_i h
  rw [if_neg (fun e => h (by have := cmpZ_zero.1 e; omega)), cmpZ_neg]
  refine ⟨by omega, ⟨fun e => absurd e (by omega), fun e => absurd (by rw [e]) h⟩⟩
end Go.Eng
namespace Go.Proofs.YtpogdlmhmafjlaaGreat
open Go Go.Eng
theorem cmpI_Z (x y : Int) : cmpI x y = cmpZ x y := rfl
theorem befL_nil (a b : List Int) (h : a = []) : befL a b = 0 := by subst h; rfl
theorem before_spec (a b : List Int) (ha : a.length < 2 ^ 40) (hb : b.length < 2 ^ 40) : Pr Tryz.prog 42 [.one (.ints .i64 a), .one (.ints .i64 b)] (.one (.int .i64 (bef a b))) := by
  refine pv T_ok mixed Tryz.func42 rfl (by decide) _ (by simp [Tryz.ntmps42]) ⟨[0, 1, 4, 5, 10, 19, 30], []⟩ (by kernel_rfl) _ ?_
  show vc T _ _ (Option.get! Tryz.f42.body) _ _
  simp only [Tryz.f42,Tryz.ntmps42,Option.get!,iS,iM,eO,J1]
  simp only [vx,T,K5,J0,K6,K7,↓reduceIte,J1,J2,J3,J4,J5,J6,J7,J8,J9,reduceCtorEq,K1,K2,K3,K4]
  refine ⟨fun h1 => Lg ?_, fun h1 => Lg ?_⟩
  · have e1 : bef a b = (a.length : Int) - b.length := by unfold bef; rw [if_neg (by omega)]
    have e2 : IntKind.i64.wrap ((a.length : Int) - b.length) = (a.length : Int) - b.length := IntWalk.i64_in _ (by omega)
    simp only [vx,T,K5,J0,K6,K7,↓reduceIte,J1,J2,J3,J4,J5,J6,J7,J8,J9,reduceCtorEq,K1,K2,K3,K4]
    rw [e1, e2]
    exact Ve rfl
  have hl : a.length = b.length := by omega
  have e1 : bef a b = befL a b := by unfold bef; rw [if_pos hl]
  rw [e1]
  simp only [vx,T,K5,J0,K6,K7,↓reduceIte,J1,J2,J3,J4,J5,J6,J7,J8,J9,reduceCtorEq,K1,K2,K3,K4]
  refine Lk (fun y : {i : Nat // i ≤ a.length ∧ befL a b = befL (a.drop i) (b.drop i)} => ⟨[(0, .one (.ints .i64 a)), (1, .one (.ints .i64 b)), (4, .one (.int .i64 0)), (5, .one (.int .i64 y.1))], [], 1, 40⟩) (fun y => a.length - y.1) ⟨0, by omega, rfl⟩ ?_ (fun ⟨i, hi, he⟩ => ?_)
  · refine Sa ?_; simp only [rx,Y0,Y1,Y2,Y3,Y4,Y5,Y6,Y7,ren,↓reduceIte,J1,J2,J3,J4,J5,J6,J7,J8,J9,reduceCtorEq,K1,K2,K3,K4,Y8,Y9,X2,X3,X4]
  simp only [vx,T,K5,J0,K6,K7,↓reduceIte,J1,J2,J3,J4,J5,J6,J7,J8,J9,reduceCtorEq,K1,K2,K3,K4]
  refine ⟨fun h2 => Lg ?_, fun h2 => Lg ?_⟩
  · have hia : i < a.length := by omega
    have hib : i < b.length := by omega
    have i1 := wI i (by omega)
    rw [drop_getD hia, drop_getD hib] at he
    simp only [befL] at he
    simp only [vx,T,K5,J0,K6,K7,↓reduceIte,J1,J2,J3,J4,J5,J6,J7,J8,J9,reduceCtorEq,K1,K2,K3,K4]
    refine ⟨by omega, by omega, ?_⟩
    refine ⟨fun h3 => Lg ?_, fun h3 => Lg ?_⟩
    · rw [if_neg h3] at he
      simp only [vx,T,K5,J0,K6,K7,↓reduceIte,J1,J2,J3,J4,J5,J6,J7,J8,J9,reduceCtorEq,K1,K2,K3,K4]
      refine ⟨by omega, by omega, ?_⟩
      rw [he]
      exact Ve rfl
    rw [if_pos (by omega)] at he
    simp only [vx,T,K5,J0,K6,K7,↓reduceIte,J1,J2,J3,J4,J5,J6,J7,J8,J9,reduceCtorEq,K1,K2,K3,K4]
    simp only [i1]
    refine Lq ⟨i + 1, by omega, he⟩ ?_ ?_
    · refine Sa ?_; simp only [rx,Y0,Y1,Y2,Y3,Y4,Y5,Y6,Y7,ren,↓reduceIte,J1,J2,J3,J4,J5,J6,J7,J8,J9,reduceCtorEq,K1,K2,K3,K4,Y8,Y9,X2,X3,X4]
    simp only; omega
  simp only [vx,T,K5,J0,K6,K7,↓reduceIte,J1,J2,J3,J4,J5,J6,J7,J8,J9,reduceCtorEq,K1,K2,K3,K4]
  rw [he, befL_nil _ _ (List.drop_eq_nil_of_le (by omega))]
  exact Ve rfl
theorem CompareL_spec (a b : List Int) (ha : a.length < 2 ^ 40) (hb : b.length < 2 ^ 40) : Pr Tryz.prog 118 [.one (.ints .i64 a), .one (.ints .i64 b)] (.one (.int .i64 (cmpL a b))) := by
  refine pv T_ok mixed Tryz.func118 rfl (by decide) _ (by simp [Tryz.ntmps118]) ⟨[0, 1, 4, 5, 6, 7, 8, 9, 10, 11, 12, 19, 28, 35], []⟩ (by kernel_rfl) _ ?_
  show vc T _ _ (Option.get! Tryz.f118.body) _ _
  simp only [Tryz.f118,Tryz.ntmps118,Option.get!,iS,iM,eO,J1]
  simp only [vx,T,K5,J0,K6,K7,↓reduceIte,J1,J2,J3,J4,J5,J6,J7,J8,J9,reduceCtorEq,K1,K2,K3,K4]
  refine Lk (fun y : {i : Nat // i ≤ a.length ∧ i ≤ b.length ∧ cmpL a b = cmpL (a.drop i) (b.drop i)} => ⟨[(0, .one (.ints .i64 a)), (1, .one (.ints .i64 b)), (4, .one (.int .i64 0)), (9, .one (.ints .i64 a)), (10, .one (.int .i64 a.length)), (11, .one (.int .i64 y.1))], [], 1, 36⟩) (fun y => a.length - y.1) ⟨0, by omega, by omega, rfl⟩ ?_ (fun ⟨i, hi, hi2, he⟩ => ?_)
  · refine Sa ?_; simp only [rx,Y0,Y1,Y2,Y3,Y4,Y5,Y6,Y7,ren,↓reduceIte,J1,J2,J3,J4,J5,J6,J7,J8,J9,reduceCtorEq,K1,K2,K3,K4,Y8,Y9,X2,X3,X4]
  simp only [vx,T,K5,J0,K6,K7,↓reduceIte,J1,J2,J3,J4,J5,J6,J7,J8,J9,reduceCtorEq,K1,K2,K3,K4]
  refine ⟨fun h2 => Lg ?_, fun h2 => Lg ?_⟩
  · have hia : i < a.length := by omega
    rw [drop_getD hia] at he
    simp only [vx,T,K5,J0,K6,K7,↓reduceIte,J1,J2,J3,J4,J5,J6,J7,J8,J9,reduceCtorEq,K1,K2,K3,K4]
    refine ⟨by omega, ?_⟩
    refine ⟨fun h3 => Lg ?_, fun h3 => Lg ?_⟩
    · rw [List.drop_eq_nil_of_le (show b.length ≤ i by omega)] at he
      simp only [vx,T,K5,J0,K6,K7,↓reduceIte,J1,J2,J3,J4,J5,J6,J7,J8,J9,reduceCtorEq,K1,K2,K3,K4]
      rw [he]
      exact Ve rfl
    have hib : i < b.length := by omega
    have i1 := wI i (by omega)
    rw [drop_getD hib] at he
    simp only [cmpL] at he
    simp only [vx,T,K5,J0,K6,K7,↓reduceIte,J1,J2,J3,J4,J5,J6,J7,J8,J9,reduceCtorEq,K1,K2,K3,K4]
    refine ⟨by omega, Cg (Compare_i64_spec _ _) ?_⟩
    rw [cmpI_Z]
    simp only [vx,T,K5,J0,K6,K7,↓reduceIte,J1,J2,J3,J4,J5,J6,J7,J8,J9,reduceCtorEq,K1,K2,K3,K4]
    refine ⟨fun h4 => Lg ?_, fun h4 => Lg ?_⟩
    · rw [if_neg h4] at he
      simp only [vx,T,K5,J0,K6,K7,↓reduceIte,J1,J2,J3,J4,J5,J6,J7,J8,J9,reduceCtorEq,K1,K2,K3,K4]
      rw [he]
      exact Ve rfl
    rw [if_pos (by omega)] at he
    simp only [vx,T,K5,J0,K6,K7,↓reduceIte,J1,J2,J3,J4,J5,J6,J7,J8,J9,reduceCtorEq,K1,K2,K3,K4]
    simp only [i1]
    refine Lq ⟨i + 1, by omega, by omega, he⟩ ?_ ?_
    · refine Sa ?_; simp only [rx,Y0,Y1,Y2,Y3,Y4,Y5,Y6,Y7,ren,↓reduceIte,J1,J2,J3,J4,J5,J6,J7,J8,J9,reduceCtorEq,K1,K2,K3,K4,Y8,Y9,X2,X3,X4]
    simp only; omega
  rw [List.drop_eq_nil_of_le (show a.length ≤ i by omega)] at he
  simp only [vx,T,K5,J0,K6,K7,↓reduceIte,J1,J2,J3,J4,J5,J6,J7,J8,J9,reduceCtorEq,K1,K2,K3,K4]
  refine ⟨fun h3 => Lg ?_, fun h3 => Lg ?_⟩
  · simp only [vx,T,K5,J0,K6,K7,↓reduceIte,J1,J2,J3,J4,J5,J6,J7,J8,J9,reduceCtorEq,K1,K2,K3,K4]
    rw [he]
    cases hd : b.drop i with
    | nil => have := List.drop_eq_nil_iff.1 hd; omega
    | cons y ys => exact Ve rfl
  simp only [vx,T,K5,J0,K6,K7,↓reduceIte,J1,J2,J3,J4,J5,J6,J7,J8,J9,reduceCtorEq,K1,K2,K3,K4]
  rw [he, List.drop_eq_nil_of_le (by omega)]
  exact Ve rfl
theorem compareV_spec (a b : List Int) (ha : a.length < 2 ^ 40) (hb : b.length < 2 ^ 40) : Pr Tryz.prog 82 [.one (.ints .i64 a), .one (.ints .i64 b)] (.one (.int .i64 (cmpV a b))) := by
  refine pv T_ok mixed Tryz.func82 rfl (by decide) _ (by simp [Tryz.ntmps82]) ⟨[0, 1, 4, 5, 12], []⟩ (by kernel_rfl) _ ?_
  show vc T _ _ (Option.get! Tryz.f82.body) _ _
  simp only [Tryz.f82,Tryz.ntmps82,Option.get!,iS,iM,eO,J1]
  simp only [vx,T,K5,J0,K6,K7,↓reduceIte,J1,J2,J3,J4,J5,J6,J7,J8,J9,reduceCtorEq,K1,K2,K3,K4]
  refine Cg (Compare_i64_spec _ _) ?_
  rw [cmpI_Z]
  simp only [vx,T,K5,J0,K6,K7,↓reduceIte,J1,J2,J3,J4,J5,J6,J7,J8,J9,reduceCtorEq,K1,K2,K3,K4]
  refine ⟨fun h1 => Lg ?_, fun h1 => Lg ?_⟩
  · have e1 : cmpV a b = cmpZ a.length b.length := by unfold cmpV; rw [if_neg h1]
    simp only [vx,T,K5,J0,K6,K7,↓reduceIte,J1,J2,J3,J4,J5,J6,J7,J8,J9,reduceCtorEq,K1,K2,K3,K4]
    rw [e1]
    exact Ve rfl
  have e1 : cmpV a b = cmpL a b := by unfold cmpV; rw [if_pos (by omega)]
  simp only [vx,T,K5,J0,K6,K7,↓reduceIte,J1,J2,J3,J4,J5,J6,J7,J8,J9,reduceCtorEq,K1,K2,K3,K4]
  refine Cg (CompareL_spec a b ha hb) ?_
  simp only [vx,T,K5,J0,K6,K7,↓reduceIte,J1,J2,J3,J4,J5,J6,J7,J8,J9,reduceCtorEq,K1,K2,K3,K4]
  rw [e1]
  exact Ve rfl
end Go.Proofs.YtpogdlmhmafjlaaGreat
/-
  Polynomials as lists of monomials.
-/
namespace Go.Eng
open Go
abbrev Mono := Rat × List Int
structure MOk (m : Mono) : Prop where
  q : qm m.1 < 2 ^ 30
  len : m.2.length < 2 ^ 30
  inr : In63 m.2
def POk (p : List Mono) : Prop := p.length < 2 ^ 30 ∧ ∀ m ∈ p, MOk m
theorem qm_ofInt {z : Int} (h : z.natAbs < 18446744073709551616) : qm (Rat.ofInt z) ≤ 2 := by
  have h1 : zn z ≤ 2 := nl_le_of_lt (by unfold BB; omega)
  have h2 : nl 1 ≤ 1 := nl_le_of_lt (by decide)
  unfold qm
  rw [Rat.ofInt_num, Rat.ofInt_den]
  omega
theorem MOk.zero : MOk default := ⟨Nat.lt_of_le_of_lt (qm_ofInt (z := 0) (by decide)) (by decide), by decide, fun x hx => by cases hx⟩
theorem POk.get {p : List Mono} (h : POk p) (i : Nat) : MOk (p.getD i default) := by
  rw [X7]
  cases hg : p[i]? with
  | none => exact MOk.zero
  | some m => exact h.2 m (List.mem_of_getElem? hg)
theorem drop_getD' {α : Type} [Inhabited α] {xs : List α} {i : Nat} (h : i < xs.length) : xs.drop i = xs.getD i default :: xs.drop (i + 1) := by
  rw [List.drop_eq_getElem_cons h, X7, X8 h]; rfl
end Go.Eng
namespace Go.Proofs.YtpogdlmhmafjlaaGreat
open Go Go.Eng
def mC (m : Mono) : Nat → C
  | 0 => .bool (zs m.1.num)
  | 1 => .ints .u32 (zm m.1.num)
  | 2 => .bool (zs (m.1.den : Int))
  | 3 => .ints .u32 (zm (m.1.den : Int))
  | 4 => .ints .i64 m.2
  | _ => .any
def MV (m : Mono) : V := .agg [mC m 0, mC m 1, mC m 2, mC m 3, mC m 4]
def PC (p : List Mono) : C := .rows 5 p.length (fun i => mC (p.getD i default))
def PV (p : List Mono) : V := .one (PC p)
theorem Same_spec (p q : List Mono) (hp : POk p) (hq : POk q) : Pr Tryz.prog 13 [PV p, PV q] (.one (.bool (decide (p = q)))) := by
  obtain ⟨hpl, hpm⟩ := id hp
  obtain ⟨hql, hqm⟩ := id hq
  refine pv T_ok mixed Tryz.func13 rfl (by decide) _ (by simp [Tryz.ntmps13]) ⟨[0, 1, 4, 5, 10, 14, 42], []⟩ (by kernel_rfl) _ ?_
  show vc T _ _ (Option.get! Tryz.f13.body) _ _
  simp only [Tryz.f13,Tryz.ntmps13,Option.get!,iS,iM,eO,J1]
  simp only [vx,T,K5,J0,K6,K7,↓reduceIte,J1,J2,J3,J4,J5,J6,J7,J8,J9,reduceCtorEq,K1,K2,K3,K4,PV,PC]
  refine ⟨fun h1 => Lg ?_, fun h1 => Lg ?_⟩
  · simp only [vx,T,K5,J0,K6,K7,↓reduceIte,J1,J2,J3,J4,J5,J6,J7,J8,J9,reduceCtorEq,K1,K2,K3,K4]
    refine vb (decide_eq_false ?_).symm
    rintro rfl
    exact h1 rfl
  have hl : p.length = q.length := by omega
  simp only [vx,T,K5,J0,K6,K7,↓reduceIte,J1,J2,J3,J4,J5,J6,J7,J8,J9,reduceCtorEq,K1,K2,K3,K4,PV,PC]
  refine Lk (fun y : {i : Nat // i ≤ p.length ∧ (p = q ↔ p.drop i = q.drop i)} => ⟨[(0, PV p), (1, PV q), (4, .one (.bool false)), (5, .one (.int .i64 y.1))], [], 1, 43⟩) (fun y => p.length - y.1) ⟨0, by omega, Iff.rfl⟩ ?_ (fun ⟨i, hi, he⟩ => ?_)
  · refine Sa ?_; simp only [rx,Y0,Y1,Y2,Y3,Y4,Y5,Y6,Y7,ren,↓reduceIte,J1,J2,J3,J4,J5,J6,J7,J8,J9,reduceCtorEq,K1,K2,K3,K4,Y8,Y9,X2,X3,X4,PV,PC]
  simp only [vx,T,K5,J0,K6,K7,↓reduceIte,J1,J2,J3,J4,J5,J6,J7,J8,J9,reduceCtorEq,K1,K2,K3,K4,PV,PC]
  refine ⟨fun h2 => Lg ?_, fun h2 => Lg ?_⟩
  · have hip : i < p.length := by omega
    have hiq : i < q.length := by omega
    have i1 := wI i (by omega)
    rw [drop_getD' hip, drop_getD' hiq, List.cons.injEq] at he
    have m1 := hp.get i
    have m2 := hq.get i
    obtain ⟨a, ha⟩ : ∃ a, a = p.getD i default := ⟨_, rfl⟩
    obtain ⟨b, hb⟩ : ∃ b, b = q.getD i default := ⟨_, rfl⟩
    rw [← ha] at m1 he
    rw [← hb] at m2 he
    obtain ⟨e1, e2⟩ := bef_sgn m1.inr m2.inr
    simp only [vx,T,K5,J0,K6,K7,↓reduceIte,J1,J2,J3,J4,J5,J6,J7,J8,J9,reduceCtorEq,K1,K2,K3,K4,PV,PC,← ha,← hb,mC]
    refine ⟨by omega, by omega, Cg (before_spec a.2 b.2 (Nat.lt_trans m1.len (by decide)) (Nat.lt_trans m2.len (by decide))) ?_⟩
    simp only [vx,T,K5,J0,K6,K7,↓reduceIte,J1,J2,J3,J4,J5,J6,J7,J8,J9,reduceCtorEq,K1,K2,K3,K4]
    refine ⟨fun h3 => Lg ?_, fun h3 => Lg ?_⟩
    · rw [e2] at h3
      simp only [vx,T,K5,J0,K6,K7,↓reduceIte,J1,J2,J3,J4,J5,J6,J7,J8,J9,reduceCtorEq,K1,K2,K3,K4]
      refine vb (decide_eq_false ?_).symm
      rw [he]
      rintro ⟨rfl, _⟩
      exact h3 rfl
    have h3 : a.2 = b.2 := e2.1 (by omega)
    simp only [vx,T,K5,J0,K6,K7,↓reduceIte,J1,J2,J3,J4,J5,J6,J7,J8,J9,reduceCtorEq,K1,K2,K3,K4,← ha,← hb,mC]
    refine ⟨by omega, by omega, Cg (rQSame_spec a.1 b.1 (Nat.lt_trans m1.q (by decide)) (Nat.lt_trans m2.q (by decide))) ?_⟩
    simp only [vx,T,K5,J0,K6,K7,↓reduceIte,J1,J2,J3,J4,J5,J6,J7,J8,J9,reduceCtorEq,K1,K2,K3,K4]
    refine ⟨fun h4 => Lg ?_, fun h4 => Lg ?_⟩
    · simp only [vx,T,K5,J0,K6,K7,↓reduceIte,J1,J2,J3,J4,J5,J6,J7,J8,J9,reduceCtorEq,K1,K2,K3,K4]
      refine vb (decide_eq_false ?_).symm
      rw [he]
      rintro ⟨rfl, _⟩
      simp at h4
    have h4 : a = b := Prod.ext (by simpa using h4) h3
    simp only [vx,T,K5,J0,K6,K7,↓reduceIte,J1,J2,J3,J4,J5,J6,J7,J8,J9,reduceCtorEq,K1,K2,K3,K4]
    simp only [i1]
    refine Lq ⟨i + 1, by omega, by rw [he]; exact ⟨fun h => h.2, fun h => ⟨h4, h⟩⟩⟩ ?_ ?_
    · refine Sa ?_; simp only [rx,Y0,Y1,Y2,Y3,Y4,Y5,Y6,Y7,ren,↓reduceIte,J1,J2,J3,J4,J5,J6,J7,J8,J9,reduceCtorEq,K1,K2,K3,K4,Y8,Y9,X2,X3,X4,PV,PC]
    simp only; omega
  simp only [vx,T,K5,J0,K6,K7,↓reduceIte,J1,J2,J3,J4,J5,J6,J7,J8,J9,reduceCtorEq,K1,K2,K3,K4]
  refine vb (decide_eq_true ?_).symm
  rw [he, List.drop_eq_nil_of_le (show p.length ≤ i by omega), List.drop_eq_nil_of_le (show q.length ≤ i by omega)]
end Go.Proofs.YtpogdlmhmafjlaaGreat
/-
  Monomials of any words: what the two Valid accept.
-/
namespace Go.Eng
open Go
theorem all_range {n : Nat} {f : Nat → Bool} : (List.range n).all f = true ↔ ∀ i, i < n → f i = true := by
  simp [List.all_eq_true]
theorem all_range_f {n : Nat} {f : Nat → Bool} {i : Nat} (h : i < n) (hf : f i = false) : (List.range n).all f = false := by
  cases hr : (List.range n).all f with
  | false => rfl
  | true => have := all_range.1 hr i h; rw [hf] at this; cases this
end Go.Eng
namespace Go.Proofs.YtpogdlmhmafjlaaGreat
open Go Go.Eng
theorem okQ_ex {s t : Bool} {xs ys : List Int} (h : okQ s xs t ys = true) : ∃ q : Rat, s = zs q.num ∧ xs = zm q.num ∧ t = zs (q.den : Int) ∧ ys = zm (q.den : Int) := by
  obtain ⟨q, hq⟩ := okQ_of h
  unfold QC at hq
  simp only [List.cons.injEq,C.bool.injEq,C.ints.injEq,and_true,true_and] at hq
  exact ⟨q, hq⟩
open Go Go.Eng
theorem cmpI_zero (x y : Int) : cmpI x y = 0 ↔ x = y := by
  unfold cmpI
  split
  · constructor <;> intro h <;> omega
  split
  · constructor <;> intro h <;> omega
  constructor <;> intro h <;> omega
theorem r1Same_spec (z w : Int) (hz : zn z < 2 ^ 40) (hw : zn w < 2 ^ 40) : Pr Tryz.prog 191 [ZV z, ZV w] (.one (.bool (decide (z = w)))) := by
  have c := rcompare_spec z.natAbs w.natAbs (Nat.lt_trans hz (by decide)) (Nat.lt_trans hw (by decide))
  rw [← zm_eq, ← zm_eq] at c
  refine pv T_ok mixed Tryz.func191 rfl (by decide) _ (by simp [Tryz.ntmps191]) ⟨[0, 1, 2, 3, 4], []⟩ (by kernel_rfl) _ ?_
  show vc T _ _ (Option.get! Tryz.f191.body) _ _
  simp only [Tryz.f191,Tryz.ntmps191,Option.get!,iS,iM,eO,J1]
  simp only [vx,T,K5,J0,K6,K7,↓reduceIte,J1,J2,J3,J4,J5,J6,J7,J8,J9,reduceCtorEq,K1,K2,K3,K4,ZV]
  refine ⟨fun h1 => Lg ?_, fun h1 => Lg ?_⟩
  · have h1 : zs z = zs w := by simpa using h1
    simp only [vx,T,K5,J0,K6,K7,↓reduceIte,J1,J2,J3,J4,J5,J6,J7,J8,J9,reduceCtorEq,K1,K2,K3,K4,ZV]
    refine Cg c ?_
    simp only [vx,T,K5,J0,K6,K7,↓reduceIte,J1,J2,J3,J4,J5,J6,J7,J8,J9,reduceCtorEq,K1,K2,K3,K4]
    refine vb ?_
    rw [decide_eq_decide, cmpI_zero]
    constructor
    · intro h
      have h : z.natAbs = w.natAbs := by omega
      rw [← zof_self z, ← zof_self w, h1, h]
    intro h; rw [h]
  have h1 : zs z ≠ zs w := by simpa using h1
  simp only [vx,T,K5,J0,K6,K7,↓reduceIte,J1,J2,J3,J4,J5,J6,J7,J8,J9,reduceCtorEq,K1,K2,K3,K4]
  exact vb (by rw [decide_eq_false (fun e => h1 (by rw [e]))])
def fmtL (n : Nat) (s : ByteArray) : ByteArray := if n = 0 then s else fmtL (n / 10) (strOfNums [IntKind.u8.wrap (IntKind.u32.wrap (48 + ((n % 10 : Nat) : Int)))] ++ s)
  termination_by n
  decreasing_by omega
theorem fmtL_zero (s : ByteArray) : fmtL 0 s = s := by rw [fmtL, if_pos rfl]
theorem fmtL_pos {n : Nat} (h : n ≠ 0) (s : ByteArray) : fmtL n s = fmtL (n / 10) (strOfNums [IntKind.u8.wrap (IntKind.u32.wrap (48 + ((n % 10 : Nat) : Int)))] ++ s) := by rw [fmtL, if_neg h]
def fmtZ (z : Int) : ByteArray := if strEq (fmtL z.natAbs ⟨#[]⟩) ⟨#[]⟩ = true then ⟨#[48]⟩ else if zs z = true then ⟨#[45]⟩ ++ fmtL z.natAbs ⟨#[]⟩ else fmtL z.natAbs ⟨#[]⟩
theorem bb_pow (k : Nat) : BB ^ k = 2 ^ (32 * k) := by rw [Nat.pow_mul]; rfl
def FmtOk (N n : Nat) (s : ByteArray) : Prop := (0 < n → 2 ^ s.size * n ≤ N) ∧ s.size ≤ 32 * nl N
theorem FmtOk.start (N : Nat) : FmtOk N N ⟨#[]⟩ := ⟨fun _ => by show 2 ^ 0 * N ≤ N; omega, Nat.zero_le _⟩
theorem FmtOk.lt {N n : Nat} {s : ByteArray} (h : FmtOk N n s) (h0 : 0 < n) : s.size < 32 * nl N := by
  have h1 := h.1 h0
  have h2 := lt_of_nl N
  rw [bb_pow] at h2
  have h3 : 2 ^ s.size ≤ 2 ^ s.size * n := Nat.le_mul_of_pos_right _ h0
  exact (Nat.pow_lt_pow_iff_right (by decide)).1 (Nat.lt_of_le_of_lt (Nat.le_trans h3 h1) h2)
theorem FmtOk.step {N n : Nat} {s : ByteArray} (h : FmtOk N n s) (h0 : 0 < n) (c : Int) : FmtOk N (n / 10) (strOfNums [c] ++ s) := by
  have hs : (strOfNums [c] ++ s).size = s.size + 1 := by rw [ByteArray.size_append, strOfNums_size]; simp; omega
  refine ⟨fun h1 => ?_, ?_⟩
  · rw [hs, Nat.pow_succ]
    have h2 := h.1 h0
    have h3 : 2 * (n / 10) ≤ n := by omega
    calc 2 ^ s.size * 2 * (n / 10) = 2 ^ s.size * (2 * (n / 10)) := by rw [Nat.mul_assoc]
      _ ≤ 2 ^ s.size * n := Nat.mul_le_mul_left _ h3
      _ ≤ N := h2
  have := h.lt h0
  rw [hs]; omega
theorem rFormat_spec (z : Int) (hz : zn z < 2 ^ 40) : Pr Tryz.prog 192 [ZV z] (.one (.str (fmtZ z))) := by
  have hz2 : nl z.natAbs < 2 ^ 40 := hz
  refine pv T_ok mixed Tryz.func192 rfl (by decide) _ (by simp [Tryz.ntmps192]) ⟨[0, 1, 2, 3, 4, 5, 6, 13, 28, 30], []⟩ (by kernel_rfl) _ ?_
  show vc T _ _ (Option.get! Tryz.f192.body) _ _
  simp only [Tryz.f192,Tryz.ntmps192,Option.get!,iS,iM,eO,J1]
  simp only [vx,T,K5,J0,K6,K7,↓reduceIte,J1,J2,J3,J4,J5,J6,J7,J8,J9,reduceCtorEq,K1,K2,K3,K4,ZV]
  refine Cg (rNorm_spec z (Nat.lt_trans hz (by decide))) ?_
  simp only [vx,T,K5,J0,K6,K7,↓reduceIte,J1,J2,J3,J4,J5,J6,J7,J8,J9,reduceCtorEq,K1,K2,K3,K4,ZV]
  refine Lk (fun y : {y : Nat × ByteArray // fmtL y.1 y.2 = fmtL z.natAbs ⟨#[]⟩ ∧ FmtOk z.natAbs y.1 y.2 ∧ y.1 ≤ z.natAbs} => ⟨[(1, .one (.ptr 1 0)), (3, .one (.str y.1.2)), (4, .one (.ints .u32 (limbs y.1.1)))], [(1, ⟨.var [.bool (zs z), .ints .u32 (zm z)], true⟩)], 2, 34⟩) (fun y => y.1.1) ⟨(z.natAbs, ⟨#[]⟩), rfl, FmtOk.start _, Nat.le_refl _⟩ ?_ (fun ⟨⟨n, s⟩, he, hok, hle⟩ => ?_)
  · refine Sa ?_; simp only [rx,Y0,Y1,Y2,Y3,Y4,Y5,Y6,Y7,ren,↓reduceIte,J1,J2,J3,J4,J5,J6,J7,J8,J9,reduceCtorEq,K1,K2,K3,K4,Y8,Y9,X2,X3,X4,ZV]
    all_goals first | rfl | trivial
  simp only at he hok hle
  have hnl := nl_mono hle
  simp only [vx,T,K5,J0,K6,K7,↓reduceIte,J1,J2,J3,J4,J5,J6,J7,J8,J9,reduceCtorEq,K1,K2,K3,K4]
  refine ⟨fun h1 => Lg ?_, fun h1 => Lg ?_⟩
  · have h1 : 0 < n := nl_pos.1 (by omega)
    have hlt := hok.lt h1
    simp only [vx,T,K5,J0,K6,K7,↓reduceIte,J1,J2,J3,J4,J5,J6,J7,J8,J9,reduceCtorEq,K1,K2,K3,K4]
    refine Cg (rby_spec n 10 (by omega) (by decide) (by decide)) ?_
    simp only [vx,T,K5,J0,K6,K7,↓reduceIte,J1,J2,J3,J4,J5,J6,J7,J8,J9,reduceCtorEq,K1,K2,K3,K4]
    have hss : (strOfNums [IntKind.u8.wrap (IntKind.u32.wrap (48 + ((n % 10 : Nat) : Int)))]).size = 1 := by rw [strOfNums_size]; rfl
    refine ⟨by omega, Lq ⟨(n / 10, strOfNums [IntKind.u8.wrap (IntKind.u32.wrap (48 + ((n % 10 : Nat) : Int)))] ++ s), ?_, hok.step h1 _, Nat.le_trans (Nat.div_le_self _ _) hle⟩ ?_ ?_⟩
    · simp only
      rw [← fmtL_pos (by omega)]; exact he
    · refine Sa ?_; simp only [rx,Y0,Y1,Y2,Y3,Y4,Y5,Y6,Y7,ren,↓reduceIte,J1,J2,J3,J4,J5,J6,J7,J8,J9,reduceCtorEq,K1,K2,K3,K4,Y8,Y9,X2,X3,X4]
    simp only; omega
  have h1 : n = 0 := by
    rcases Nat.eq_zero_or_pos n with h | h
    · exact h
    have := nl_pos.2 h; omega
  subst h1
  rw [fmtL_zero] at he
  simp only [vx,T,K5,J0,K6,K7,↓reduceIte,J1,J2,J3,J4,J5,J6,J7,J8,J9,reduceCtorEq,K1,K2,K3,K4]
  refine ⟨fun h2 => Lg ?_, fun h2 => Lg ?_⟩
  · simp only [vx,T,K5,J0,K6,K7,↓reduceIte,J1,J2,J3,J4,J5,J6,J7,J8,J9,reduceCtorEq,K1,K2,K3,K4]
    have e : fmtZ z = ⟨#[48]⟩ := by unfold fmtZ; rw [← he, if_pos h2]
    rw [e]
    exact Ve rfl
  simp only [vx,T,K5,J0,K6,K7,↓reduceIte,J1,J2,J3,J4,J5,J6,J7,J8,J9,reduceCtorEq,K1,K2,K3,K4]
  have hsz := hok.2
  refine ⟨fun h3 => Lg ?_, fun h3 => Lg ?_⟩
  · have e : fmtZ z = ⟨#[45]⟩ ++ s := by unfold fmtZ; rw [← he, if_neg (by rw [h2]; simp), if_pos h3]
    have hs1 : (⟨#[45]⟩ : ByteArray).size = 1 := rfl
    simp only [vx,T,K5,J0,K6,K7,↓reduceIte,J1,J2,J3,J4,J5,J6,J7,J8,J9,reduceCtorEq,K1,K2,K3,K4]
    refine ⟨by omega, ?_⟩
    rw [e]
    exact Ve rfl
  have e : fmtZ z = s := by unfold fmtZ; rw [← he, if_neg (by rw [h2]; simp), if_neg (by rw [h3]; simp)]
  simp only [vx,T,K5,J0,K6,K7,↓reduceIte,J1,J2,J3,J4,J5,J6,J7,J8,J9,reduceCtorEq,K1,K2,K3,K4]
  rw [e]
  exact Ve rfl
theorem fmtL_size {N : Nat} : ∀ {n : Nat} {s : ByteArray}, FmtOk N n s → (fmtL n s).size ≤ 32 * nl N := by
  intro n
  induction n using Nat.strongRecOn with
  | _ n ih =>
    intro s h
    by_cases h0 : n = 0
    · subst h0; rw [fmtL_zero]; exact h.2
    rw [fmtL_pos h0]
    exact ih (n / 10) (by omega) (h.step (by omega) _)
theorem fmtZ_size (z : Int) : (fmtZ z).size ≤ 32 * zn z + 1 := by
  have h : (fmtL z.natAbs ⟨#[]⟩).size ≤ 32 * zn z := fmtL_size (FmtOk.start _)
  unfold fmtZ
  split
  · show 1 ≤ _; omega
  split
  · rw [ByteArray.size_append]; show 1 + _ ≤ _; omega
  omega
def padS (k : Nat) (s : ByteArray) : ByteArray := if s.size ≤ k then padS k (⟨#[48]⟩ ++ s) else s
  termination_by k + 1 - s.size
  decreasing_by rw [ByteArray.size_append]; show _ - (1 + _) < _; omega
theorem padS_step {k : Nat} {s : ByteArray} (h : s.size ≤ k) : padS k s = padS k (⟨#[48]⟩ ++ s) := by rw [padS, if_pos h]
theorem padS_stop {k : Nat} {s : ByteArray} (h : ¬ s.size ≤ k) : padS k s = s := by rw [padS, if_neg h]
def decT (q : Rat) (k : Nat) : ByteArray := if 0 < k then ((padS k (fmtZ q.num)).extract 0 ((padS k (fmtZ q.num)).size - k) ++ ⟨#[46]⟩) ++ (padS k (fmtZ q.num)).extract ((padS k (fmtZ q.num)).size - k) (padS k (fmtZ q.num)).size else padS k (fmtZ q.num)
def tenP (q : Rat) : Nat → Rat
  | 0 => q
  | k + 1 => tenP q k * Rat.ofInt 10
def decR (q : Rat) : Nat → Nat → ByteArray × Bool
  | 0, _ => (⟨#[]⟩, false)
  | f + 1, k => if (tenP q k).den = 1 then (decT (tenP q k) k, decide ((decT (tenP q k) k).size ≤ 40)) else decR q f (k + 1)
theorem dec40 (n : Nat) : decide ((n : Int) ≤ 40) = decide (n ≤ 40) := decide_eq_decide.2 (by omega)
theorem tenP_qm {q : Rat} {B : Nat} (h : qm q ≤ B) (k : Nat) : qm (tenP q k) ≤ B + 2 * k := by
  induction k with
  | zero => exact h
  | succ k ih =>
    have h1 := qm_mul (tenP q k) (Rat.ofInt 10)
    have h2 : qm (Rat.ofInt 10) ≤ 2 := qm_ofInt (by decide)
    show qm (tenP q k * Rat.ofInt 10) ≤ _
    omega
theorem Decimal_good (q : Rat) (hq : qm q ≤ 2 ^ 30) (hs : 0 ≤ q.num) : Pr Tryz.prog 160 [QV q] (.tup [.one (.str (decR q 41 0).1), .one (.bool (decR q 41 0).2)]) := by
  have hz1 : zn q.num ≤ qm q := by unfold qm; omega
  have hv := rQValid_spec (zs q.num) (zs (q.den : Int)) (zm q.num) (zm (q.den : Int)) (zm_inr _) (zm_inr _) (by rw [zm_length]; omega) (by rw [zm_length]; unfold qm at hq; have : zn (q.den : Int) = nl q.den := rfl; omega)
  rw [okQ_Q] at hv
  refine pv T_ok mixed Tryz.func160 rfl (by decide) _ (by simp [Tryz.ntmps160]) ⟨[0, 1, 2, 3, 4, 5, 6, 7, 8, 16, 21, 27, 34, 38], []⟩ (by kernel_rfl) _ ?_
  show vc T _ _ (Option.get! Tryz.f160.body) _ _
  simp only [Tryz.f160,Tryz.ntmps160,Option.get!,iS,iM,eO,J1]
  simp only [vx,T,K5,J0,K6,K7,↓reduceIte,J1,J2,J3,J4,J5,J6,J7,J8,J9,reduceCtorEq,K1,K2,K3,K4,QV,QC]
  have hsg : ¬ sgn q.num < 0 := by unfold sgn; split <;> (try split) <;> omega
  refine Cg hv ?_
  simp only [vx,T,K5,J0,K6,K7,↓reduceIte,J1,J2,J3,J4,J5,J6,J7,J8,J9,reduceCtorEq,K1,K2,K3,K4,QV,QC]
  refine Cg (rQSign_spec q (by omega)) ?_
  simp only [vx,T,K5,J0,K6,K7,↓reduceIte,J1,J2,J3,J4,J5,J6,J7,J8,J9,reduceCtorEq,K1,K2,K3,K4,QV,QC]
  refine ⟨fun h => absurd h hsg, fun _ => Lg ?_⟩
  simp only [vx,T,K5,J0,K6,K7,↓reduceIte,J1,J2,J3,J4,J5,J6,J7,J8,J9,reduceCtorEq,K1,K2,K3,K4,QV,QC]
  refine Cg (rQFromInt_spec 10 (by decide) (by decide)) ?_
  simp only [vx,T,K5,J0,K6,K7,↓reduceIte,J1,J2,J3,J4,J5,J6,J7,J8,J9,reduceCtorEq,K1,K2,K3,K4,QV,QC]
  refine Cg (rFromInt_spec 1 (by decide) (by decide)) ?_
  simp only [vx,T,K5,J0,K6,K7,↓reduceIte,J1,J2,J3,J4,J5,J6,J7,J8,J9,reduceCtorEq,K1,K2,K3,K4,QV,QC,ZV]
  refine Lk (fun y : {k : Nat // k ≤ 41 ∧ decR q (41 - k) k = decR q 41 0} => ⟨[(4, .one (.ptr 13 0)), (5, .one (.ptr 15 0)), (6, .one (.ptr 17 0)), (7, .one (.int .i64 y.1))], [(13, ⟨.var (QC (Rat.ofInt 10)), true⟩), (15, ⟨.var [.bool (zs 1), .ints .u32 (zm 1)], true⟩), (17, ⟨.var (QC (tenP q y.1)), true⟩)], 19, 60⟩) (fun y => 41 - y.1) ⟨0, by omega, rfl⟩ ?_ (fun ⟨k, hk, he⟩ => ?_)
  · refine Sa ?_; simp only [rx,Y0,Y1,Y2,Y3,Y4,Y5,Y6,Y7,ren,↓reduceIte,J1,J2,J3,J4,J5,J6,J7,J8,J9,reduceCtorEq,K1,K2,K3,K4,Y8,Y9,X2,X3,X4,QC,tenP]
  have hk1 : IntKind.i64.wrap ((k : Int) + 1) = ((k + 1 : Nat) : Int) := by rw [IntWalk.i64_in _ (by omega)]; omega
  have hqk := tenP_qm hq k
  have hq10 : qm (Rat.ofInt 10) ≤ 2 := qm_ofInt (by decide)
  obtain ⟨x, hx⟩ : ∃ x, x = tenP q k := ⟨_, rfl⟩
  have hstep : tenP q (k + 1) = x * Rat.ofInt 10 := by rw [hx]; rfl
  rw [← hx] at hqk ⊢
  have hxn : zn x.num ≤ qm x := by unfold qm; omega
  have hxd : zn (x.den : Int) ≤ qm x := by unfold qm; have : zn (x.den : Int) = nl x.den := rfl; omega
  simp only [vx,T,K5,J0,K6,K7,↓reduceIte,J1,J2,J3,J4,J5,J6,J7,J8,J9,reduceCtorEq,K1,K2,K3,K4,QC]
  refine ⟨fun h1 => Lg ?_, fun h1 => Lg ?_⟩
  · have hf : 41 - k = (40 - k) + 1 := by omega
    simp only [vx,T,K5,J0,K6,K7,↓reduceIte,J1,J2,J3,J4,J5,J6,J7,J8,J9,reduceCtorEq,K1,K2,K3,K4,QC]
    refine Cg (r1Same_spec (x.den : Int) 1 (by omega) (Nat.lt_of_le_of_lt (zn_small (by decide)) (by decide))) ?_
    simp only [vx,T,K5,J0,K6,K7,↓reduceIte,J1,J2,J3,J4,J5,J6,J7,J8,J9,reduceCtorEq,K1,K2,K3,K4,QC]
    refine ⟨fun h2 => Lg ?_, fun h2 => Lg ?_⟩
    · have h2 : x.den = 1 := by omega
      rw [hf, decR, ← hx, if_pos h2] at he
      rw [← he]
      simp only [vx,T,K5,J0,K6,K7,↓reduceIte,J1,J2,J3,J4,J5,J6,J7,J8,J9,reduceCtorEq,K1,K2,K3,K4,QC]
      refine Cg (rFormat_spec x.num (by omega)) ?_
      simp only [vx,T,K5,J0,K6,K7,↓reduceIte,J1,J2,J3,J4,J5,J6,J7,J8,J9,reduceCtorEq,K1,K2,K3,K4,QC]
      refine Lk (fun y : {s : ByteArray // padS k s = padS k (fmtZ x.num) ∧ s.size ≤ 2 ^ 40} => ⟨[(7, .one (.int .i64 k)), (8, .one (.str y.1))], [], 30, 60⟩) (fun y => k + 1 - y.1.size) ⟨fmtZ x.num, rfl, by have := fmtZ_size x.num; omega⟩ ?_ (fun ⟨s, hs1, hs2⟩ => ?_)
      · refine Sa ?_; simp only [rx,Y0,Y1,Y2,Y3,Y4,Y5,Y6,Y7,ren,↓reduceIte,J1,J2,J3,J4,J5,J6,J7,J8,J9,reduceCtorEq,K1,K2,K3,K4,Y8,Y9,X2,X3,X4]
      simp only [vx,T,K5,J0,K6,K7,↓reduceIte,J1,J2,J3,J4,J5,J6,J7,J8,J9,reduceCtorEq,K1,K2,K3,K4]
      refine ⟨fun h3 => Lg ?_, fun h3 => Lg ?_⟩
      · have h3 : s.size ≤ k := by omega
        have hz : (⟨#[48]⟩ : ByteArray).size = 1 := rfl
        have hz2 : (⟨#[48]⟩ ++ s : ByteArray).size = 1 + s.size := by rw [ByteArray.size_append, hz]
        simp only [vx,T,K5,J0,K6,K7,↓reduceIte,J1,J2,J3,J4,J5,J6,J7,J8,J9,reduceCtorEq,K1,K2,K3,K4]
        refine ⟨by omega, Lq ⟨⟨#[48]⟩ ++ s, by rw [← padS_step h3]; exact hs1, by omega⟩ ?_ ?_⟩
        · refine Sa ?_; simp only [rx,Y0,Y1,Y2,Y3,Y4,Y5,Y6,Y7,ren,↓reduceIte,J1,J2,J3,J4,J5,J6,J7,J8,J9,reduceCtorEq,K1,K2,K3,K4,Y8,Y9,X2,X3,X4]
        simp only; omega
      have h3 : ¬ s.size ≤ k := by omega
      rw [padS_stop h3] at hs1
      simp only [vx,T,K5,J0,K6,K7,↓reduceIte,J1,J2,J3,J4,J5,J6,J7,J8,J9,reduceCtorEq,K1,K2,K3,K4]
      refine ⟨fun h4 => Lg ?_, fun h4 => Lg ?_⟩
      · have w1 : IntKind.i64.wrap ((s.size : Int) - (k : Int)) = ((s.size - k : Nat) : Int) := by rw [IntWalk.i64_in _ (by omega)]; omega
        have e : decT x k = (s.extract 0 (s.size - k) ++ ⟨#[46]⟩) ++ s.extract (s.size - k) s.size := by unfold decT; rw [← hs1, if_pos (by omega)]
        have hz : (⟨#[46]⟩ : ByteArray).size = 1 := rfl
        have hA : (s.extract 0 (s.size - k)).size ≤ s.size := by rw [ByteArray.size_extract]; omega
        have hC : (s.extract (s.size - k) s.size).size ≤ s.size := by rw [ByteArray.size_extract]; omega
        have hD : (s.extract 0 (s.size - k) ++ ⟨#[46]⟩ : ByteArray).size ≤ s.size + 1 := by rw [ByteArray.size_append, hz]; omega
        simp only [vx,T,K5,J0,K6,K7,↓reduceIte,J1,J2,J3,J4,J5,J6,J7,J8,J9,reduceCtorEq,K1,K2,K3,K4,w1,Int.toNat_natCast]
        refine ⟨⟨by omega, by omega⟩, by omega, ⟨by omega, by omega, by omega⟩, by omega, ?_⟩
        rw [dec40, e]
        exact Ve rfl
      have e : decT x k = s := by unfold decT; rw [← hs1, if_neg (by omega)]
      simp only [vx,T,K5,J0,K6,K7,↓reduceIte,J1,J2,J3,J4,J5,J6,J7,J8,J9,reduceCtorEq,K1,K2,K3,K4]
      rw [dec40, e]
      exact Ve rfl
    have h2 : x.den ≠ 1 := by omega
    rw [hf, decR, ← hx, if_neg h2] at he
    simp only [vx,T,K5,J0,K6,K7,↓reduceIte,J1,J2,J3,J4,J5,J6,J7,J8,J9,reduceCtorEq,K1,K2,K3,K4,QC]
    refine Cg (rQMul_spec x (Rat.ofInt 10) (by omega) (by omega)) ?_
    simp only [vx,T,K5,J0,K6,K7,↓reduceIte,J1,J2,J3,J4,J5,J6,J7,J8,J9,reduceCtorEq,K1,K2,K3,K4,QC,QV]
    simp only [hk1]
    refine Lq ⟨k + 1, by omega, by rw [show 41 - (k + 1) = 40 - k by omega]; exact he⟩ ?_ ?_
    · refine Sa ?_; simp only [rx,Y0,Y1,Y2,Y3,Y4,Y5,Y6,Y7,ren,↓reduceIte,J1,J2,J3,J4,J5,J6,J7,J8,J9,reduceCtorEq,K1,K2,K3,K4,Y8,Y9,X2,X3,X4,QC,hstep]
    simp only; omega
  have hf : 41 - k = 0 := by omega
  rw [hf] at he
  have e : decR q 41 0 = (⟨#[]⟩, false) := by rw [← he]; rfl
  rw [e]
  simp only [vx,T,K5,J0,K6,K7,↓reduceIte,J1,J2,J3,J4,J5,J6,J7,J8,J9,reduceCtorEq,K1,K2,K3,K4]
  exact Ve rfl
theorem Decimal_neg (q : Rat) (hq : qm q ≤ 2 ^ 30) (hs : q.num < 0) (hv : Pr Tryz.prog 17 [QV q] (.one (.bool true))) : Pr Tryz.prog 160 [QV q] (.tup [.one (.str ⟨#[]⟩), .one (.bool false)]) := by
  have hsg : sgn q.num < 0 := by unfold sgn; rw [if_neg (by omega), if_pos (by omega)]; decide
  refine pv T_ok mixed Tryz.func160 rfl (by decide) _ (by simp [Tryz.ntmps160]) ⟨[0, 1, 2, 3, 4, 5, 6, 7, 8, 16, 21, 27, 34, 38], []⟩ (by kernel_rfl) _ ?_
  show vc T _ _ (Option.get! Tryz.f160.body) _ _
  simp only [Tryz.f160,Tryz.ntmps160,Option.get!,iS,iM,eO,J1]
  simp only [vx,T,K5,J0,K6,K7,↓reduceIte,J1,J2,J3,J4,J5,J6,J7,J8,J9,reduceCtorEq,K1,K2,K3,K4,QV,QC]
  refine Cg hv ?_
  simp only [vx,T,K5,J0,K6,K7,↓reduceIte,J1,J2,J3,J4,J5,J6,J7,J8,J9,reduceCtorEq,K1,K2,K3,K4,QV,QC]
  refine Cg (rQSign_spec q (by omega)) ?_
  simp only [vx,T,K5,J0,K6,K7,↓reduceIte,J1,J2,J3,J4,J5,J6,J7,J8,J9,reduceCtorEq,K1,K2,K3,K4,QV,QC]
  refine ⟨fun _ => Lg ?_, fun h => absurd hsg h⟩
  simp only [vx,T,K5,J0,K6,K7,↓reduceIte,J1,J2,J3,J4,J5,J6,J7,J8,J9,reduceCtorEq,K1,K2,K3,K4]
  exact Ve rfl
theorem Decimal_bad (s t : Bool) (xs ys : List Int) (hv : Pr Tryz.prog 17 [.agg [.bool s, .ints .u32 xs, .bool t, .ints .u32 ys]] (.one (.bool false))) :
    Pr Tryz.prog 160 [.agg [.bool s, .ints .u32 xs, .bool t, .ints .u32 ys]] (.tup [.one (.str ⟨#[]⟩), .one (.bool false)]) := by
  refine pv T_ok mixed Tryz.func160 rfl (by decide) _ (by simp [Tryz.ntmps160]) ⟨[0, 1, 2, 3, 4, 5, 6, 7, 8, 16, 21, 27, 34, 38], []⟩ (by kernel_rfl) _ ?_
  show vc T _ _ (Option.get! Tryz.f160.body) _ _
  simp only [Tryz.f160,Tryz.ntmps160,Option.get!,iS,iM,eO,J1]
  simp only [vx,T,K5,J0,K6,K7,↓reduceIte,J1,J2,J3,J4,J5,J6,J7,J8,J9,reduceCtorEq,K1,K2,K3,K4]
  refine Cg hv ?_
  simp only [vx,T,K5,J0,K6,K7,↓reduceIte,J1,J2,J3,J4,J5,J6,J7,J8,J9,reduceCtorEq,K1,K2,K3,K4]
  exact Ve rfl
theorem Decimal_ex (s t : Bool) (xs ys : List Int) (hx : InR xs) (hy : InR ys) (hxl : xs.length ≤ 2 ^ 30) (hyl : ys.length ≤ 2 ^ 30) :
    ∃ S b, Pr Tryz.prog 160 [.agg [.bool s, .ints .u32 xs, .bool t, .ints .u32 ys]] (.tup [.one (.str S), .one (.bool b)]) := by
  have hv := rQValid_spec s t xs ys hx hy (by omega) (by omega)
  by_cases h : okQ s xs t ys = true
  · obtain ⟨q, rfl, rfl, rfl, rfl⟩ := okQ_ex h
    rw [zm_length] at hxl hyl
    have hyl' : nl q.den ≤ 2 ^ 30 := hyl
    have hq : qm q ≤ 2 ^ 30 := by unfold qm; omega
    rw [h] at hv
    by_cases hs : 0 ≤ q.num
    · exact ⟨_, _, Decimal_good q hq hs⟩
    exact ⟨_, _, Decimal_neg q hq (by omega) hv⟩
  have h : okQ s xs t ys = false := by simpa using h
  rw [h] at hv
  exact ⟨_, _, Decimal_bad s t xs ys hv⟩
open Go Go.Eng
def zB (s t : Bool) (xs ys : List Int) : Bool := !s && !t && decide (xs.length = 0) && decide (ys.length = 0)
def shB (d z : Bool) (op : Int) (nm : ByteArray) (m : Nat) : Bool :=
  if op = 1 then d && (strEq nm ⟨#[]⟩ || nameB nm) && decide (m = 0)
  else if op = 2 then z && nameB nm && decide (m = 0)
  else if op = 3 then z && strEq nm ⟨#[]⟩ && decide (m = 1)
  else if op = 4 ∨ op = 5 ∨ op = 6 ∨ op = 7 then z && strEq nm ⟨#[]⟩ && decide (m = 2)
  else false
theorem shape_spec (op : Int) (s t : Bool) (xs ys : List Int) (nm : ByteArray) (m : Nat) (f : Nat → Nat → C) (hnm : nm.size < 2 ^ 62) {S : ByteArray} {d : Bool} (hd : Pr Tryz.prog 160 [.agg [.bool s, .ints .u32 xs, .bool t, .ints .u32 ys]] (.tup [.one (.str S), .one (.bool d)])) :
    Pr Tryz.prog 122 [.agg [.int .i64 op, .bool s, .ints .u32 xs, .bool t, .ints .u32 ys, .str nm, .rows 7 m f]] (.one (.bool (shB d (zB s t xs ys) op nm m))) := by
  have hn := IsName_spec nm hnm
  obtain ⟨z, hz⟩ : ∃ z, z = zB s t xs ys := ⟨_, rfl⟩
  rw [← hz]
  refine pv T_ok mixed Tryz.func122 rfl (by decide) _ (by simp [Tryz.ntmps122]) ⟨[0, 1, 2, 3, 5, 35, 36, 61, 75, 89], []⟩ (by kernel_rfl) _ ?_
  show vc T _ _ (Option.get! Tryz.f122.body) _ _
  simp only [Tryz.f122,Tryz.ntmps122,Option.get!,iS,iM,eO,J1]
  simp only [vx,T,K5,J0,K6,K7,↓reduceIte,J1,J2,J3,J4,J5,J6,J7,J8,J9,reduceCtorEq,K1,K2,K3,K4]
  refine ⟨fun g1 => Lg ?_, fun g1 => Lg ?_⟩
  · simp only [vx,T,K5,J0,K6,K7,↓reduceIte,J1,J2,J3,J4,J5,J6,J7,J8,J9,reduceCtorEq,K1,K2,K3,K4]
    refine ⟨fun g2 => Lg ?_, fun g2 => Lg ?_⟩
    · simp only [vx,T,K5,J0,K6,K7,↓reduceIte,J1,J2,J3,J4,J5,J6,J7,J8,J9,reduceCtorEq,K1,K2,K3,K4]
      refine ⟨fun g3 => Lg ?_, fun g3 => Lg ?_⟩
      · simp only [vx,T,K5,J0,K6,K7,↓reduceIte,J1,J2,J3,J4,J5,J6,J7,J8,J9,reduceCtorEq,K1,K2,K3,K4]
        have e : decide ((ys.length : Int) = 0) = z := by rw [hz]; simp [zB] at g1 g2 g3 ⊢; simp [g1, g2, g3]
        simp only [e]
        refine ⟨fun o1 => Lg ?_, fun o1 => Lg ?_⟩
        · simp only [vx,T,K5,J0,K6,K7,↓reduceIte,J1,J2,J3,J4,J5,J6,J7,J8,J9,reduceCtorEq,K1,K2,K3,K4]
          refine Cg hd ?_
          simp only [vx,T,K5,J0,K6,K7,↓reduceIte,J1,J2,J3,J4,J5,J6,J7,J8,J9,reduceCtorEq,K1,K2,K3,K4]
          refine ⟨fun k1 => Lg ?_, fun k1 => Lg ?_⟩
          · simp only [vx,T,K5,J0,K6,K7,↓reduceIte,J1,J2,J3,J4,J5,J6,J7,J8,J9,reduceCtorEq,K1,K2,K3,K4]
            refine ⟨fun k2 => Lg ?_, fun k2 => Lg ?_⟩
            · simp only [vx,T,K5,J0,K6,K7,↓reduceIte,J1,J2,J3,J4,J5,J6,J7,J8,J9,reduceCtorEq,K1,K2,K3,K4]
              exact vb (by simp [shB, o1, k1, k2] <;> omega)
            simp only [vx,T,K5,J0,K6,K7,↓reduceIte,J1,J2,J3,J4,J5,J6,J7,J8,J9,reduceCtorEq,K1,K2,K3,K4]
            refine Cg hn ?_
            simp only [vx,T,K5,J0,K6,K7,↓reduceIte,J1,J2,J3,J4,J5,J6,J7,J8,J9,reduceCtorEq,K1,K2,K3,K4]
            refine ⟨fun k3 => Lg ?_, fun k3 => Lg ?_⟩
            · simp only [vx,T,K5,J0,K6,K7,↓reduceIte,J1,J2,J3,J4,J5,J6,J7,J8,J9,reduceCtorEq,K1,K2,K3,K4]
              exact vb (by simp [shB, o1, k1, k2, k3] <;> omega)
            simp only [vx,T,K5,J0,K6,K7,↓reduceIte,J1,J2,J3,J4,J5,J6,J7,J8,J9,reduceCtorEq,K1,K2,K3,K4]
            exact vb (by simp [shB, o1, k1, k2, k3] <;> omega)
          simp only [vx,T,K5,J0,K6,K7,↓reduceIte,J1,J2,J3,J4,J5,J6,J7,J8,J9,reduceCtorEq,K1,K2,K3,K4]
          exact vb (by simp [shB, o1, k1] <;> omega)
        simp only [vx,T,K5,J0,K6,K7,↓reduceIte,J1,J2,J3,J4,J5,J6,J7,J8,J9,reduceCtorEq,K1,K2,K3,K4]
        refine ⟨fun o2 => Lg ?_, fun o2 => Lg ?_⟩
        · simp only [vx,T,K5,J0,K6,K7,↓reduceIte,J1,J2,J3,J4,J5,J6,J7,J8,J9,reduceCtorEq,K1,K2,K3,K4]
          refine ⟨fun k1 => Lg ?_, fun k1 => Lg ?_⟩
          · simp only [vx,T,K5,J0,K6,K7,↓reduceIte,J1,J2,J3,J4,J5,J6,J7,J8,J9,reduceCtorEq,K1,K2,K3,K4]
            refine Cg hn ?_
            simp only [vx,T,K5,J0,K6,K7,↓reduceIte,J1,J2,J3,J4,J5,J6,J7,J8,J9,reduceCtorEq,K1,K2,K3,K4]
            refine ⟨fun k2 => Lg ?_, fun k2 => Lg ?_⟩
            · simp only [vx,T,K5,J0,K6,K7,↓reduceIte,J1,J2,J3,J4,J5,J6,J7,J8,J9,reduceCtorEq,K1,K2,K3,K4]
              exact vb (by simp [shB, o1, o2, k1, k2] <;> omega)
            simp only [vx,T,K5,J0,K6,K7,↓reduceIte,J1,J2,J3,J4,J5,J6,J7,J8,J9,reduceCtorEq,K1,K2,K3,K4]
            exact vb (by simp [shB, o1, o2, k1, k2] <;> omega)
          simp only [vx,T,K5,J0,K6,K7,↓reduceIte,J1,J2,J3,J4,J5,J6,J7,J8,J9,reduceCtorEq,K1,K2,K3,K4]
          exact vb (by simp [shB, o1, o2, k1] <;> omega)
        simp only [vx,T,K5,J0,K6,K7,↓reduceIte,J1,J2,J3,J4,J5,J6,J7,J8,J9,reduceCtorEq,K1,K2,K3,K4]
        refine ⟨fun o3 => Lg ?_, fun o3 => Lg ?_⟩
        · simp only [vx,T,K5,J0,K6,K7,↓reduceIte,J1,J2,J3,J4,J5,J6,J7,J8,J9,reduceCtorEq,K1,K2,K3,K4]
          refine ⟨fun k1 => Lg ?_, fun k1 => Lg ?_⟩
          · simp only [vx,T,K5,J0,K6,K7,↓reduceIte,J1,J2,J3,J4,J5,J6,J7,J8,J9,reduceCtorEq,K1,K2,K3,K4]
            refine ⟨fun k2 => Lg ?_, fun k2 => Lg ?_⟩
            · simp only [vx,T,K5,J0,K6,K7,↓reduceIte,J1,J2,J3,J4,J5,J6,J7,J8,J9,reduceCtorEq,K1,K2,K3,K4]
              exact vb (by simp [shB, o1, o2, o3, k1, k2] <;> omega)
            simp only [vx,T,K5,J0,K6,K7,↓reduceIte,J1,J2,J3,J4,J5,J6,J7,J8,J9,reduceCtorEq,K1,K2,K3,K4]
            exact vb (by simp [shB, o1, o2, o3, k1, k2] <;> omega)
          simp only [vx,T,K5,J0,K6,K7,↓reduceIte,J1,J2,J3,J4,J5,J6,J7,J8,J9,reduceCtorEq,K1,K2,K3,K4]
          exact vb (by simp [shB, o1, o2, o3, k1] <;> omega)
        simp only [vx,T,K5,J0,K6,K7,↓reduceIte,J1,J2,J3,J4,J5,J6,J7,J8,J9,reduceCtorEq,K1,K2,K3,K4]
        refine ⟨fun o4 => Lg ?_, fun o4 => Lg ?_⟩
        · simp only [vx,T,K5,J0,K6,K7,↓reduceIte,J1,J2,J3,J4,J5,J6,J7,J8,J9,reduceCtorEq,K1,K2,K3,K4]
          refine ⟨fun _ => Lg ?_, fun h => absurd o4 h⟩
          simp only [vx,T,K5,J0,K6,K7,↓reduceIte,J1,J2,J3,J4,J5,J6,J7,J8,J9,reduceCtorEq,K1,K2,K3,K4]
          refine ⟨fun k1 => Lg ?_, fun k1 => Lg ?_⟩
          · simp only [vx,T,K5,J0,K6,K7,↓reduceIte,J1,J2,J3,J4,J5,J6,J7,J8,J9,reduceCtorEq,K1,K2,K3,K4]
            refine ⟨fun k2 => Lg ?_, fun k2 => Lg ?_⟩
            · simp only [vx,T,K5,J0,K6,K7,↓reduceIte,J1,J2,J3,J4,J5,J6,J7,J8,J9,reduceCtorEq,K1,K2,K3,K4]
              exact vb (by simp [shB, o1, o2, o3, o4, k1, k2] <;> omega)
            simp only [vx,T,K5,J0,K6,K7,↓reduceIte,J1,J2,J3,J4,J5,J6,J7,J8,J9,reduceCtorEq,K1,K2,K3,K4]
            exact vb (by simp [shB, o1, o2, o3, o4, k1, k2] <;> omega)
          simp only [vx,T,K5,J0,K6,K7,↓reduceIte,J1,J2,J3,J4,J5,J6,J7,J8,J9,reduceCtorEq,K1,K2,K3,K4]
          exact vb (by simp [shB, o1, o2, o3, o4, k1] <;> omega)
        simp only [vx,T,K5,J0,K6,K7,↓reduceIte,J1,J2,J3,J4,J5,J6,J7,J8,J9,reduceCtorEq,K1,K2,K3,K4]
        refine ⟨fun o5 => Lg ?_, fun o5 => Lg ?_⟩
        · simp only [vx,T,K5,J0,K6,K7,↓reduceIte,J1,J2,J3,J4,J5,J6,J7,J8,J9,reduceCtorEq,K1,K2,K3,K4]
          refine ⟨fun _ => Lg ?_, fun h => absurd o5 h⟩
          simp only [vx,T,K5,J0,K6,K7,↓reduceIte,J1,J2,J3,J4,J5,J6,J7,J8,J9,reduceCtorEq,K1,K2,K3,K4]
          refine ⟨fun k1 => Lg ?_, fun k1 => Lg ?_⟩
          · simp only [vx,T,K5,J0,K6,K7,↓reduceIte,J1,J2,J3,J4,J5,J6,J7,J8,J9,reduceCtorEq,K1,K2,K3,K4]
            refine ⟨fun k2 => Lg ?_, fun k2 => Lg ?_⟩
            · simp only [vx,T,K5,J0,K6,K7,↓reduceIte,J1,J2,J3,J4,J5,J6,J7,J8,J9,reduceCtorEq,K1,K2,K3,K4]
              exact vb (by simp [shB, o1, o2, o3, o4, o5, k1, k2] <;> omega)
            simp only [vx,T,K5,J0,K6,K7,↓reduceIte,J1,J2,J3,J4,J5,J6,J7,J8,J9,reduceCtorEq,K1,K2,K3,K4]
            exact vb (by simp [shB, o1, o2, o3, o4, o5, k1, k2] <;> omega)
          simp only [vx,T,K5,J0,K6,K7,↓reduceIte,J1,J2,J3,J4,J5,J6,J7,J8,J9,reduceCtorEq,K1,K2,K3,K4]
          exact vb (by simp [shB, o1, o2, o3, o4, o5, k1] <;> omega)
        simp only [vx,T,K5,J0,K6,K7,↓reduceIte,J1,J2,J3,J4,J5,J6,J7,J8,J9,reduceCtorEq,K1,K2,K3,K4]
        refine ⟨fun o6 => Lg ?_, fun o6 => Lg ?_⟩
        · simp only [vx,T,K5,J0,K6,K7,↓reduceIte,J1,J2,J3,J4,J5,J6,J7,J8,J9,reduceCtorEq,K1,K2,K3,K4]
          refine ⟨fun _ => Lg ?_, fun h => absurd o6 h⟩
          simp only [vx,T,K5,J0,K6,K7,↓reduceIte,J1,J2,J3,J4,J5,J6,J7,J8,J9,reduceCtorEq,K1,K2,K3,K4]
          refine ⟨fun k1 => Lg ?_, fun k1 => Lg ?_⟩
          · simp only [vx,T,K5,J0,K6,K7,↓reduceIte,J1,J2,J3,J4,J5,J6,J7,J8,J9,reduceCtorEq,K1,K2,K3,K4]
            refine ⟨fun k2 => Lg ?_, fun k2 => Lg ?_⟩
            · simp only [vx,T,K5,J0,K6,K7,↓reduceIte,J1,J2,J3,J4,J5,J6,J7,J8,J9,reduceCtorEq,K1,K2,K3,K4]
              exact vb (by simp [shB, o1, o2, o3, o4, o5, o6, k1, k2] <;> omega)
            simp only [vx,T,K5,J0,K6,K7,↓reduceIte,J1,J2,J3,J4,J5,J6,J7,J8,J9,reduceCtorEq,K1,K2,K3,K4]
            exact vb (by simp [shB, o1, o2, o3, o4, o5, o6, k1, k2] <;> omega)
          simp only [vx,T,K5,J0,K6,K7,↓reduceIte,J1,J2,J3,J4,J5,J6,J7,J8,J9,reduceCtorEq,K1,K2,K3,K4]
          exact vb (by simp [shB, o1, o2, o3, o4, o5, o6, k1] <;> omega)
        simp only [vx,T,K5,J0,K6,K7,↓reduceIte,J1,J2,J3,J4,J5,J6,J7,J8,J9,reduceCtorEq,K1,K2,K3,K4]
        refine ⟨fun o7 => Lg ?_, fun o7 => Lg ?_⟩
        · simp only [vx,T,K5,J0,K6,K7,↓reduceIte,J1,J2,J3,J4,J5,J6,J7,J8,J9,reduceCtorEq,K1,K2,K3,K4]
          refine ⟨fun k1 => Lg ?_, fun k1 => Lg ?_⟩
          · simp only [vx,T,K5,J0,K6,K7,↓reduceIte,J1,J2,J3,J4,J5,J6,J7,J8,J9,reduceCtorEq,K1,K2,K3,K4]
            refine ⟨fun k2 => Lg ?_, fun k2 => Lg ?_⟩
            · simp only [vx,T,K5,J0,K6,K7,↓reduceIte,J1,J2,J3,J4,J5,J6,J7,J8,J9,reduceCtorEq,K1,K2,K3,K4]
              exact vb (by simp [shB, o1, o2, o3, o4, o5, o6, o7, k1, k2] <;> omega)
            simp only [vx,T,K5,J0,K6,K7,↓reduceIte,J1,J2,J3,J4,J5,J6,J7,J8,J9,reduceCtorEq,K1,K2,K3,K4]
            exact vb (by simp [shB, o1, o2, o3, o4, o5, o6, o7, k1, k2] <;> omega)
          simp only [vx,T,K5,J0,K6,K7,↓reduceIte,J1,J2,J3,J4,J5,J6,J7,J8,J9,reduceCtorEq,K1,K2,K3,K4]
          exact vb (by simp [shB, o1, o2, o3, o4, o5, o6, o7, k1] <;> omega)
        simp only [vx,T,K5,J0,K6,K7,↓reduceIte,J1,J2,J3,J4,J5,J6,J7,J8,J9,reduceCtorEq,K1,K2,K3,K4]
        exact vb (by simp [shB, o1, o2, o3, o4, o5, o6, o7] <;> omega)
      have e : z = false := by rw [hz]; simp [zB] at g3 ⊢; simp [g3]
      subst e
      simp only [vx,T,K5,J0,K6,K7,↓reduceIte,J1,J2,J3,J4,J5,J6,J7,J8,J9,reduceCtorEq,K1,K2,K3,K4]
      refine ⟨fun o1 => Lg ?_, fun o1 => Lg ?_⟩
      · simp only [vx,T,K5,J0,K6,K7,↓reduceIte,J1,J2,J3,J4,J5,J6,J7,J8,J9,reduceCtorEq,K1,K2,K3,K4]
        refine Cg hd ?_
        simp only [vx,T,K5,J0,K6,K7,↓reduceIte,J1,J2,J3,J4,J5,J6,J7,J8,J9,reduceCtorEq,K1,K2,K3,K4]
        refine ⟨fun k1 => Lg ?_, fun k1 => Lg ?_⟩
        · simp only [vx,T,K5,J0,K6,K7,↓reduceIte,J1,J2,J3,J4,J5,J6,J7,J8,J9,reduceCtorEq,K1,K2,K3,K4]
          refine ⟨fun k2 => Lg ?_, fun k2 => Lg ?_⟩
          · simp only [vx,T,K5,J0,K6,K7,↓reduceIte,J1,J2,J3,J4,J5,J6,J7,J8,J9,reduceCtorEq,K1,K2,K3,K4]
            exact vb (by simp [shB, o1, k1, k2] <;> omega)
          simp only [vx,T,K5,J0,K6,K7,↓reduceIte,J1,J2,J3,J4,J5,J6,J7,J8,J9,reduceCtorEq,K1,K2,K3,K4]
          refine Cg hn ?_
          simp only [vx,T,K5,J0,K6,K7,↓reduceIte,J1,J2,J3,J4,J5,J6,J7,J8,J9,reduceCtorEq,K1,K2,K3,K4]
          refine ⟨fun k3 => Lg ?_, fun k3 => Lg ?_⟩
          · simp only [vx,T,K5,J0,K6,K7,↓reduceIte,J1,J2,J3,J4,J5,J6,J7,J8,J9,reduceCtorEq,K1,K2,K3,K4]
            exact vb (by simp [shB, o1, k1, k2, k3] <;> omega)
          simp only [vx,T,K5,J0,K6,K7,↓reduceIte,J1,J2,J3,J4,J5,J6,J7,J8,J9,reduceCtorEq,K1,K2,K3,K4]
          exact vb (by simp [shB, o1, k1, k2, k3] <;> omega)
        simp only [vx,T,K5,J0,K6,K7,↓reduceIte,J1,J2,J3,J4,J5,J6,J7,J8,J9,reduceCtorEq,K1,K2,K3,K4]
        exact vb (by simp [shB, o1, k1] <;> omega)
      simp only [vx,T,K5,J0,K6,K7,↓reduceIte,J1,J2,J3,J4,J5,J6,J7,J8,J9,reduceCtorEq,K1,K2,K3,K4]
      refine ⟨fun o2 => Lg ?_, fun o2 => Lg ?_⟩
      · simp only [vx,T,K5,J0,K6,K7,↓reduceIte,J1,J2,J3,J4,J5,J6,J7,J8,J9,reduceCtorEq,K1,K2,K3,K4]
        exact vb (by simp [shB, o1, o2] <;> omega)
      simp only [vx,T,K5,J0,K6,K7,↓reduceIte,J1,J2,J3,J4,J5,J6,J7,J8,J9,reduceCtorEq,K1,K2,K3,K4]
      refine ⟨fun o3 => Lg ?_, fun o3 => Lg ?_⟩
      · simp only [vx,T,K5,J0,K6,K7,↓reduceIte,J1,J2,J3,J4,J5,J6,J7,J8,J9,reduceCtorEq,K1,K2,K3,K4]
        exact vb (by simp [shB, o1, o2, o3] <;> omega)
      simp only [vx,T,K5,J0,K6,K7,↓reduceIte,J1,J2,J3,J4,J5,J6,J7,J8,J9,reduceCtorEq,K1,K2,K3,K4]
      refine ⟨fun o4 => Lg ?_, fun o4 => Lg ?_⟩
      · simp only [vx,T,K5,J0,K6,K7,↓reduceIte,J1,J2,J3,J4,J5,J6,J7,J8,J9,reduceCtorEq,K1,K2,K3,K4]
        refine ⟨fun _ => Lg ?_, fun h => absurd o4 h⟩
        simp only [vx,T,K5,J0,K6,K7,↓reduceIte,J1,J2,J3,J4,J5,J6,J7,J8,J9,reduceCtorEq,K1,K2,K3,K4]
        exact vb (by simp [shB, o1, o2, o3, o4] <;> omega)
      simp only [vx,T,K5,J0,K6,K7,↓reduceIte,J1,J2,J3,J4,J5,J6,J7,J8,J9,reduceCtorEq,K1,K2,K3,K4]
      refine ⟨fun o5 => Lg ?_, fun o5 => Lg ?_⟩
      · simp only [vx,T,K5,J0,K6,K7,↓reduceIte,J1,J2,J3,J4,J5,J6,J7,J8,J9,reduceCtorEq,K1,K2,K3,K4]
        refine ⟨fun _ => Lg ?_, fun h => absurd o5 h⟩
        simp only [vx,T,K5,J0,K6,K7,↓reduceIte,J1,J2,J3,J4,J5,J6,J7,J8,J9,reduceCtorEq,K1,K2,K3,K4]
        exact vb (by simp [shB, o1, o2, o3, o4, o5] <;> omega)
      simp only [vx,T,K5,J0,K6,K7,↓reduceIte,J1,J2,J3,J4,J5,J6,J7,J8,J9,reduceCtorEq,K1,K2,K3,K4]
      refine ⟨fun o6 => Lg ?_, fun o6 => Lg ?_⟩
      · simp only [vx,T,K5,J0,K6,K7,↓reduceIte,J1,J2,J3,J4,J5,J6,J7,J8,J9,reduceCtorEq,K1,K2,K3,K4]
        refine ⟨fun _ => Lg ?_, fun h => absurd o6 h⟩
        simp only [vx,T,K5,J0,K6,K7,↓reduceIte,J1,J2,J3,J4,J5,J6,J7,J8,J9,reduceCtorEq,K1,K2,K3,K4]
        exact vb (by simp [shB, o1, o2, o3, o4, o5, o6] <;> omega)
      simp only [vx,T,K5,J0,K6,K7,↓reduceIte,J1,J2,J3,J4,J5,J6,J7,J8,J9,reduceCtorEq,K1,K2,K3,K4]
      refine ⟨fun o7 => Lg ?_, fun o7 => Lg ?_⟩
      · simp only [vx,T,K5,J0,K6,K7,↓reduceIte,J1,J2,J3,J4,J5,J6,J7,J8,J9,reduceCtorEq,K1,K2,K3,K4]
        exact vb (by simp [shB, o1, o2, o3, o4, o5, o6, o7] <;> omega)
      simp only [vx,T,K5,J0,K6,K7,↓reduceIte,J1,J2,J3,J4,J5,J6,J7,J8,J9,reduceCtorEq,K1,K2,K3,K4]
      exact vb (by simp [shB, o1, o2, o3, o4, o5, o6, o7] <;> omega)
    have e : z = false := by rw [hz]; simp [zB] at g2 ⊢; simp [g2]
    subst e
    simp only [vx,T,K5,J0,K6,K7,↓reduceIte,J1,J2,J3,J4,J5,J6,J7,J8,J9,reduceCtorEq,K1,K2,K3,K4]
    refine ⟨fun o1 => Lg ?_, fun o1 => Lg ?_⟩
    · simp only [vx,T,K5,J0,K6,K7,↓reduceIte,J1,J2,J3,J4,J5,J6,J7,J8,J9,reduceCtorEq,K1,K2,K3,K4]
      refine Cg hd ?_
      simp only [vx,T,K5,J0,K6,K7,↓reduceIte,J1,J2,J3,J4,J5,J6,J7,J8,J9,reduceCtorEq,K1,K2,K3,K4]
      refine ⟨fun k1 => Lg ?_, fun k1 => Lg ?_⟩
      · simp only [vx,T,K5,J0,K6,K7,↓reduceIte,J1,J2,J3,J4,J5,J6,J7,J8,J9,reduceCtorEq,K1,K2,K3,K4]
        refine ⟨fun k2 => Lg ?_, fun k2 => Lg ?_⟩
        · simp only [vx,T,K5,J0,K6,K7,↓reduceIte,J1,J2,J3,J4,J5,J6,J7,J8,J9,reduceCtorEq,K1,K2,K3,K4]
          exact vb (by simp [shB, o1, k1, k2] <;> omega)
        simp only [vx,T,K5,J0,K6,K7,↓reduceIte,J1,J2,J3,J4,J5,J6,J7,J8,J9,reduceCtorEq,K1,K2,K3,K4]
        refine Cg hn ?_
        simp only [vx,T,K5,J0,K6,K7,↓reduceIte,J1,J2,J3,J4,J5,J6,J7,J8,J9,reduceCtorEq,K1,K2,K3,K4]
        refine ⟨fun k3 => Lg ?_, fun k3 => Lg ?_⟩
        · simp only [vx,T,K5,J0,K6,K7,↓reduceIte,J1,J2,J3,J4,J5,J6,J7,J8,J9,reduceCtorEq,K1,K2,K3,K4]
          exact vb (by simp [shB, o1, k1, k2, k3] <;> omega)
        simp only [vx,T,K5,J0,K6,K7,↓reduceIte,J1,J2,J3,J4,J5,J6,J7,J8,J9,reduceCtorEq,K1,K2,K3,K4]
        exact vb (by simp [shB, o1, k1, k2, k3] <;> omega)
      simp only [vx,T,K5,J0,K6,K7,↓reduceIte,J1,J2,J3,J4,J5,J6,J7,J8,J9,reduceCtorEq,K1,K2,K3,K4]
      exact vb (by simp [shB, o1, k1] <;> omega)
    simp only [vx,T,K5,J0,K6,K7,↓reduceIte,J1,J2,J3,J4,J5,J6,J7,J8,J9,reduceCtorEq,K1,K2,K3,K4]
    refine ⟨fun o2 => Lg ?_, fun o2 => Lg ?_⟩
    · simp only [vx,T,K5,J0,K6,K7,↓reduceIte,J1,J2,J3,J4,J5,J6,J7,J8,J9,reduceCtorEq,K1,K2,K3,K4]
      exact vb (by simp [shB, o1, o2] <;> omega)
    simp only [vx,T,K5,J0,K6,K7,↓reduceIte,J1,J2,J3,J4,J5,J6,J7,J8,J9,reduceCtorEq,K1,K2,K3,K4]
    refine ⟨fun o3 => Lg ?_, fun o3 => Lg ?_⟩
    · simp only [vx,T,K5,J0,K6,K7,↓reduceIte,J1,J2,J3,J4,J5,J6,J7,J8,J9,reduceCtorEq,K1,K2,K3,K4]
      exact vb (by simp [shB, o1, o2, o3] <;> omega)
    simp only [vx,T,K5,J0,K6,K7,↓reduceIte,J1,J2,J3,J4,J5,J6,J7,J8,J9,reduceCtorEq,K1,K2,K3,K4]
    refine ⟨fun o4 => Lg ?_, fun o4 => Lg ?_⟩
    · simp only [vx,T,K5,J0,K6,K7,↓reduceIte,J1,J2,J3,J4,J5,J6,J7,J8,J9,reduceCtorEq,K1,K2,K3,K4]
      refine ⟨fun _ => Lg ?_, fun h => absurd o4 h⟩
      simp only [vx,T,K5,J0,K6,K7,↓reduceIte,J1,J2,J3,J4,J5,J6,J7,J8,J9,reduceCtorEq,K1,K2,K3,K4]
      exact vb (by simp [shB, o1, o2, o3, o4] <;> omega)
    simp only [vx,T,K5,J0,K6,K7,↓reduceIte,J1,J2,J3,J4,J5,J6,J7,J8,J9,reduceCtorEq,K1,K2,K3,K4]
    refine ⟨fun o5 => Lg ?_, fun o5 => Lg ?_⟩
    · simp only [vx,T,K5,J0,K6,K7,↓reduceIte,J1,J2,J3,J4,J5,J6,J7,J8,J9,reduceCtorEq,K1,K2,K3,K4]
      refine ⟨fun _ => Lg ?_, fun h => absurd o5 h⟩
      simp only [vx,T,K5,J0,K6,K7,↓reduceIte,J1,J2,J3,J4,J5,J6,J7,J8,J9,reduceCtorEq,K1,K2,K3,K4]
      exact vb (by simp [shB, o1, o2, o3, o4, o5] <;> omega)
    simp only [vx,T,K5,J0,K6,K7,↓reduceIte,J1,J2,J3,J4,J5,J6,J7,J8,J9,reduceCtorEq,K1,K2,K3,K4]
    refine ⟨fun o6 => Lg ?_, fun o6 => Lg ?_⟩
    · simp only [vx,T,K5,J0,K6,K7,↓reduceIte,J1,J2,J3,J4,J5,J6,J7,J8,J9,reduceCtorEq,K1,K2,K3,K4]
      refine ⟨fun _ => Lg ?_, fun h => absurd o6 h⟩
      simp only [vx,T,K5,J0,K6,K7,↓reduceIte,J1,J2,J3,J4,J5,J6,J7,J8,J9,reduceCtorEq,K1,K2,K3,K4]
      exact vb (by simp [shB, o1, o2, o3, o4, o5, o6] <;> omega)
    simp only [vx,T,K5,J0,K6,K7,↓reduceIte,J1,J2,J3,J4,J5,J6,J7,J8,J9,reduceCtorEq,K1,K2,K3,K4]
    refine ⟨fun o7 => Lg ?_, fun o7 => Lg ?_⟩
    · simp only [vx,T,K5,J0,K6,K7,↓reduceIte,J1,J2,J3,J4,J5,J6,J7,J8,J9,reduceCtorEq,K1,K2,K3,K4]
      exact vb (by simp [shB, o1, o2, o3, o4, o5, o6, o7] <;> omega)
    simp only [vx,T,K5,J0,K6,K7,↓reduceIte,J1,J2,J3,J4,J5,J6,J7,J8,J9,reduceCtorEq,K1,K2,K3,K4]
    exact vb (by simp [shB, o1, o2, o3, o4, o5, o6, o7] <;> omega)
  have e : z = false := by rw [hz]; simp [zB] at g1 ⊢; simp [g1]
  subst e
  simp only [vx,T,K5,J0,K6,K7,↓reduceIte,J1,J2,J3,J4,J5,J6,J7,J8,J9,reduceCtorEq,K1,K2,K3,K4]
  refine ⟨fun o1 => Lg ?_, fun o1 => Lg ?_⟩
  · simp only [vx,T,K5,J0,K6,K7,↓reduceIte,J1,J2,J3,J4,J5,J6,J7,J8,J9,reduceCtorEq,K1,K2,K3,K4]
    refine Cg hd ?_
    simp only [vx,T,K5,J0,K6,K7,↓reduceIte,J1,J2,J3,J4,J5,J6,J7,J8,J9,reduceCtorEq,K1,K2,K3,K4]
    refine ⟨fun k1 => Lg ?_, fun k1 => Lg ?_⟩
    · simp only [vx,T,K5,J0,K6,K7,↓reduceIte,J1,J2,J3,J4,J5,J6,J7,J8,J9,reduceCtorEq,K1,K2,K3,K4]
      refine ⟨fun k2 => Lg ?_, fun k2 => Lg ?_⟩
      · simp only [vx,T,K5,J0,K6,K7,↓reduceIte,J1,J2,J3,J4,J5,J6,J7,J8,J9,reduceCtorEq,K1,K2,K3,K4]
        exact vb (by simp [shB, o1, k1, k2] <;> omega)
      simp only [vx,T,K5,J0,K6,K7,↓reduceIte,J1,J2,J3,J4,J5,J6,J7,J8,J9,reduceCtorEq,K1,K2,K3,K4]
      refine Cg hn ?_
      simp only [vx,T,K5,J0,K6,K7,↓reduceIte,J1,J2,J3,J4,J5,J6,J7,J8,J9,reduceCtorEq,K1,K2,K3,K4]
      refine ⟨fun k3 => Lg ?_, fun k3 => Lg ?_⟩
      · simp only [vx,T,K5,J0,K6,K7,↓reduceIte,J1,J2,J3,J4,J5,J6,J7,J8,J9,reduceCtorEq,K1,K2,K3,K4]
        exact vb (by simp [shB, o1, k1, k2, k3] <;> omega)
      simp only [vx,T,K5,J0,K6,K7,↓reduceIte,J1,J2,J3,J4,J5,J6,J7,J8,J9,reduceCtorEq,K1,K2,K3,K4]
      exact vb (by simp [shB, o1, k1, k2, k3] <;> omega)
    simp only [vx,T,K5,J0,K6,K7,↓reduceIte,J1,J2,J3,J4,J5,J6,J7,J8,J9,reduceCtorEq,K1,K2,K3,K4]
    exact vb (by simp [shB, o1, k1] <;> omega)
  simp only [vx,T,K5,J0,K6,K7,↓reduceIte,J1,J2,J3,J4,J5,J6,J7,J8,J9,reduceCtorEq,K1,K2,K3,K4]
  refine ⟨fun o2 => Lg ?_, fun o2 => Lg ?_⟩
  · simp only [vx,T,K5,J0,K6,K7,↓reduceIte,J1,J2,J3,J4,J5,J6,J7,J8,J9,reduceCtorEq,K1,K2,K3,K4]
    exact vb (by simp [shB, o1, o2] <;> omega)
  simp only [vx,T,K5,J0,K6,K7,↓reduceIte,J1,J2,J3,J4,J5,J6,J7,J8,J9,reduceCtorEq,K1,K2,K3,K4]
  refine ⟨fun o3 => Lg ?_, fun o3 => Lg ?_⟩
  · simp only [vx,T,K5,J0,K6,K7,↓reduceIte,J1,J2,J3,J4,J5,J6,J7,J8,J9,reduceCtorEq,K1,K2,K3,K4]
    exact vb (by simp [shB, o1, o2, o3] <;> omega)
  simp only [vx,T,K5,J0,K6,K7,↓reduceIte,J1,J2,J3,J4,J5,J6,J7,J8,J9,reduceCtorEq,K1,K2,K3,K4]
  refine ⟨fun o4 => Lg ?_, fun o4 => Lg ?_⟩
  · simp only [vx,T,K5,J0,K6,K7,↓reduceIte,J1,J2,J3,J4,J5,J6,J7,J8,J9,reduceCtorEq,K1,K2,K3,K4]
    refine ⟨fun _ => Lg ?_, fun h => absurd o4 h⟩
    simp only [vx,T,K5,J0,K6,K7,↓reduceIte,J1,J2,J3,J4,J5,J6,J7,J8,J9,reduceCtorEq,K1,K2,K3,K4]
    exact vb (by simp [shB, o1, o2, o3, o4] <;> omega)
  simp only [vx,T,K5,J0,K6,K7,↓reduceIte,J1,J2,J3,J4,J5,J6,J7,J8,J9,reduceCtorEq,K1,K2,K3,K4]
  refine ⟨fun o5 => Lg ?_, fun o5 => Lg ?_⟩
  · simp only [vx,T,K5,J0,K6,K7,↓reduceIte,J1,J2,J3,J4,J5,J6,J7,J8,J9,reduceCtorEq,K1,K2,K3,K4]
    refine ⟨fun _ => Lg ?_, fun h => absurd o5 h⟩
    simp only [vx,T,K5,J0,K6,K7,↓reduceIte,J1,J2,J3,J4,J5,J6,J7,J8,J9,reduceCtorEq,K1,K2,K3,K4]
    exact vb (by simp [shB, o1, o2, o3, o4, o5] <;> omega)
  simp only [vx,T,K5,J0,K6,K7,↓reduceIte,J1,J2,J3,J4,J5,J6,J7,J8,J9,reduceCtorEq,K1,K2,K3,K4]
  refine ⟨fun o6 => Lg ?_, fun o6 => Lg ?_⟩
  · simp only [vx,T,K5,J0,K6,K7,↓reduceIte,J1,J2,J3,J4,J5,J6,J7,J8,J9,reduceCtorEq,K1,K2,K3,K4]
    refine ⟨fun _ => Lg ?_, fun h => absurd o6 h⟩
    simp only [vx,T,K5,J0,K6,K7,↓reduceIte,J1,J2,J3,J4,J5,J6,J7,J8,J9,reduceCtorEq,K1,K2,K3,K4]
    exact vb (by simp [shB, o1, o2, o3, o4, o5, o6] <;> omega)
  simp only [vx,T,K5,J0,K6,K7,↓reduceIte,J1,J2,J3,J4,J5,J6,J7,J8,J9,reduceCtorEq,K1,K2,K3,K4]
  refine ⟨fun o7 => Lg ?_, fun o7 => Lg ?_⟩
  · simp only [vx,T,K5,J0,K6,K7,↓reduceIte,J1,J2,J3,J4,J5,J6,J7,J8,J9,reduceCtorEq,K1,K2,K3,K4]
    exact vb (by simp [shB, o1, o2, o3, o4, o5, o6, o7] <;> omega)
  simp only [vx,T,K5,J0,K6,K7,↓reduceIte,J1,J2,J3,J4,J5,J6,J7,J8,J9,reduceCtorEq,K1,K2,K3,K4]
  exact vb (by simp [shB, o1, o2, o3, o4, o5, o6, o7] <;> omega)
end Go.Proofs.YtpogdlmhmafjlaaGreat
/-
  slices.Sort of integers: the shelf's contract at this program, in plain words (written by the kit's lay-shelf.mjs and lay-plain.mjs).
-/
namespace Go.Proofs
open Go.Shelf
def Tryz.lays189_ren : Go.Shelf.Ren := ⟨fun | 189 => 64 | 125 => 99 | 257 => 98 | 128 => 133 | 129 => 134 | 294 => 124 | 295 => 125 | 296 => 126 | 297 => 127 | 298 => 128 | 299 => 129 | 216 => 130 | 300 => 131 | 301 => 132 | 328 => 162 | 329 => 163 | 330 => 164 | 331 => 165 | 332 => 166 | 215 => 156 | 343 => 195 | n => n, fun | 28 => 22 | 3 => 3 | 46 => 125 | 0 => 0 | 51 => 92 | 53 => 109 | 4 => 4 | 183 => 146 | 182 => 145 | 131 => 151 | 5 => 5 | 9 => 9 | 218 => 180 | 222 => 184 | 228 => 202 | 229 => 203 | n => n, fun | n => n⟩
theorem Tryz.lays189 : Go.Proofs.Lays.n189 Tryz.prog Tryz.lays189_ren := {
  mixed := by kernel_rfl
  f125 := Tryz.func99.trans (congrArg some (by kernel_rfl))
  f128 := Tryz.func133.trans (congrArg some (by kernel_rfl))
  f129 := Tryz.func134.trans (congrArg some (by kernel_rfl))
  f189 := Tryz.func64.trans (congrArg some (by kernel_rfl))
  f215 := Tryz.func156.trans (congrArg some (by kernel_rfl))
  f216 := Tryz.func130.trans (congrArg some (by kernel_rfl))
  f257 := Tryz.func98.trans (congrArg some (by kernel_rfl))
  f294 := Tryz.func124.trans (congrArg some (by kernel_rfl))
  f295 := Tryz.func125.trans (congrArg some (by kernel_rfl))
  f296 := Tryz.func126.trans (congrArg some (by kernel_rfl))
  f297 := Tryz.func127.trans (congrArg some (by kernel_rfl))
  f298 := Tryz.func128.trans (congrArg some (by kernel_rfl))
  f299 := Tryz.func129.trans (congrArg some (by kernel_rfl))
  f300 := Tryz.func131.trans (congrArg some (by kernel_rfl))
  f301 := Tryz.func132.trans (congrArg some (by kernel_rfl))
  f328 := Tryz.func162.trans (congrArg some (by kernel_rfl))
  f329 := Tryz.func163.trans (congrArg some (by kernel_rfl))
  f330 := Tryz.func164.trans (congrArg some (by kernel_rfl))
  f331 := Tryz.func165.trans (congrArg some (by kernel_rfl))
  f332 := Tryz.func166.trans (congrArg some (by kernel_rfl))
  f343 := Tryz.func195.trans (congrArg some (by kernel_rfl))
  t0 := Tryz.underlying0
  a0 := Tryz.isAgg0
  z0 := Tryz.sizeOf0
  v0 := Tryz.zeroValue0
  t3 := Tryz.underlying3
  a3 := Tryz.isAgg3
  z3 := Tryz.sizeOf3
  v3 := Tryz.zeroValue3
  t4 := Tryz.underlying4
  a4 := Tryz.isAgg4
  z4 := Tryz.sizeOf4
  v4 := Tryz.zeroValue4
  t5 := Tryz.underlying5
  a5 := Tryz.isAgg5
  z5 := Tryz.sizeOf5
  v5 := Tryz.zeroValue5
  t9 := Tryz.underlying9
  a9 := Tryz.isAgg9
  z9 := Tryz.sizeOf9
  v9 := Tryz.zeroValue9
  t28 := Tryz.underlying22
  a28 := Tryz.isAgg22
  z28 := Tryz.sizeOf22
  v28 := Tryz.zeroValue22
  t46 := Tryz.underlying125
  a46 := Tryz.isAgg125
  z46 := Tryz.sizeOf125
  v46 := Tryz.zeroValue125
  t51 := Tryz.underlying92
  a51 := Tryz.isAgg92
  z51 := Tryz.sizeOf92
  v51 := Tryz.zeroValue92
  t53 := Tryz.underlying109
  a53 := Tryz.isAgg109
  z53 := Tryz.sizeOf109
  v53 := Tryz.zeroValue109
  t131 := Tryz.underlying151
  a131 := Tryz.isAgg151
  z131 := Tryz.sizeOf151
  v131 := Tryz.zeroValue151
  t182 := Tryz.underlying145
  a182 := Tryz.isAgg145
  z182 := Tryz.sizeOf145
  v182 := Tryz.zeroValue145
  t183 := Tryz.underlying146
  a183 := Tryz.isAgg146
  z183 := Tryz.sizeOf146
  v183 := Tryz.zeroValue146
  t218 := Tryz.underlying180
  a218 := Tryz.isAgg180
  z218 := Tryz.sizeOf180
  v218 := Tryz.zeroValue180
  t222 := Tryz.underlying184
  a222 := Tryz.isAgg184
  z222 := Tryz.sizeOf184
  v222 := Tryz.zeroValue184
  t228 := Tryz.underlying202
  a228 := Tryz.isAgg202
  z228 := Tryz.sizeOf202
  v228 := Tryz.zeroValue202
  t229 := Tryz.underlying203
  a229 := Tryz.isAgg203
  z229 := Tryz.sizeOf203
  v229 := Tryz.zeroValue203 }
open Go.Sort Go.RowKit in
theorem Tryz.slices_Sort_int (blk off cap : Nat) (zs : List Int) (w : World) (hH : Holds (Value.int .i64) w blk off zs.toArray) (hblk : blk < w.heap.size) (hsz : zs.length < 4611686018427387904) :
    Calls Tryz.prog 64 #[.slice (some ⟨blk, off, none⟩) zs.length cap] w fun e w' =>
      e = .returned (.tuple #[]) ∧ ∃ n os, w' = grow (putRow (Value.int .i64) (Sort.ahead w n) blk off (zs.mergeSort fun x y => decide (x ≤ y)).toArray) os := Any.slices_Sort_int Tryz.lays189 blk off cap zs w hH hblk hsz
open Go.Sort Go.RowKit in
theorem Tryz.slices_Sort_int_none (p : Option Addr) (cap : Nat) (w : World) :
    Calls Tryz.prog 64 #[.slice p 0 cap] w fun e w' => e = .returned (.tuple #[]) ∧ w' = w := Any.slices_Sort_int_none Tryz.lays189 p cap w
end Go.Proofs
namespace Go.Proofs.YtpogdlmhmafjlaaGreat
open Go Go.Eng
theorem sgn_zero {z : Int} : sgn z = 0 ↔ z = 0 := by unfold sgn; (repeat' split) <;> omega
open Go Go.Eng
end Go.Proofs.YtpogdlmhmafjlaaGreat
/-
  Insertion sort in place, on a part of a list.
-/
namespace Go.Eng
variable {α : Type} [Inhabited α]
theorem getD_set_same {xs : List α} {i : Nat} {x : α} (h : i < xs.length) : (xs.set i x).getD i default = x := by
  rw [X7, List.getElem?_set_self h]; rfl
theorem getD_set_other {xs : List α} {i j : Nat} {x : α} (h : i ≠ j) : (xs.set i x).getD j default = xs.getD j default := by
  rw [X7, List.getElem?_set_ne h, X7]
def swp (xs : List α) (i j : Nat) : List α := (xs.set i (xs.getD j default)).set j (xs.getD i default)
theorem swp_length (xs : List α) (i j : Nat) : (swp xs i j).length = xs.length := by simp [swp]
theorem swp_get {xs : List α} {i j k : Nat} (hi : i < xs.length) (hj : j < xs.length) :
    (swp xs i j).getD k default = if k = j then xs.getD i default else if k = i then xs.getD j default else xs.getD k default := by
  unfold swp
  by_cases h1 : k = j
  · subst h1
    rw [if_pos rfl, getD_set_same (by simpa using hj)]
  rw [if_neg h1, getD_set_other (fun e => h1 e.symm)]
  by_cases h2 : k = i
  · subst h2
    rw [if_pos rfl, getD_set_same hi]
  rw [if_neg h2, getD_set_other (fun e => h2 e.symm)]
theorem getD_eq {xs : List α} {i : Nat} (h : i < xs.length) : xs.getD i default = xs[i] := by
  rw [X7, X8 h]; rfl
theorem swp_perm {xs : List α} {i j : Nat} (hi : i < xs.length) (hj : j < xs.length) : (swp xs i j).Perm xs := by
  unfold swp
  rw [getD_eq hi, getD_eq hj]
  exact List.set_set_perm hi hj
def Srt (le : α → α → Prop) (xs : List α) (lo hi : Nat) : Prop := ∀ a b, lo ≤ a → a < b → b < hi → le (xs.getD a default) (xs.getD b default)
def Out (xs0 xs : List α) (lo hi : Nat) : Prop := xs.length = xs0.length ∧ xs.Perm xs0 ∧ ∀ j, (j < lo ∨ hi ≤ j) → xs.getD j default = xs0.getD j default
theorem Out.refl (xs : List α) (lo hi : Nat) : Out xs xs lo hi := ⟨rfl, .refl _, fun _ _ => rfl⟩
theorem Out.trans {xs ys zs : List α} {lo hi : Nat} (h1 : Out xs ys lo hi) (h2 : Out ys zs lo hi) : Out xs zs lo hi :=
  ⟨h2.1.trans h1.1, h2.2.1.trans h1.2.1, fun j hj => (h2.2.2 j hj).trans (h1.2.2 j hj)⟩
theorem Out.mono {xs ys : List α} {lo hi lo' hi' : Nat} (h : Out xs ys lo hi) (h1 : lo' ≤ lo) (h2 : hi ≤ hi') : Out xs ys lo' hi' :=
  ⟨h.1, h.2.1, fun j hj => h.2.2 j (by omega)⟩
theorem Out.swp {xs0 xs : List α} {lo hi i j : Nat} (h : Out xs0 xs lo hi) (hi1 : lo ≤ i) (hi2 : i < hi) (hj1 : lo ≤ j) (hj2 : j < hi) (hl : hi ≤ xs.length) : Out xs0 (swp xs i j) lo hi := by
  refine ⟨by rw [swp_length]; exact h.1, (swp_perm (by omega) (by omega)).trans h.2.1, fun k hk => ?_⟩
  rw [swp_get (by omega) (by omega), if_neg (by omega), if_neg (by omega)]
  exact h.2.2 k hk
theorem Srt.mono {le : α → α → Prop} {xs : List α} {lo hi lo' hi' : Nat} (h : Srt le xs lo hi) (h1 : lo ≤ lo') (h2 : hi' ≤ hi) : Srt le xs lo' hi' :=
  fun a b ha hab hb => h a b (by omega) hab (by omega)
theorem Srt.out {le : α → α → Prop} {xs ys : List α} {lo hi l h : Nat} (hs : Srt le xs l h) (ho : Out xs ys lo hi) (hd : h ≤ lo ∨ hi ≤ l) : Srt le ys l h := by
  intro a b ha hab hb
  rw [ho.2.2 a (by omega), ho.2.2 b (by omega)]
  exact hs a b ha hab hb
structure Ins (le : α → α → Prop) (lo i k : Nat) (xs : List α) : Prop where
  lok : lo ≤ k
  ki : k ≤ i
  rest : ∀ a b, lo ≤ a → a < b → b ≤ i → a ≠ k → b ≠ k → le (xs.getD a default) (xs.getD b default)
  up : ∀ b, k < b → b ≤ i → le (xs.getD k default) (xs.getD b default)
theorem Ins.init {le : α → α → Prop} {lo i : Nat} {xs : List α} (h : Srt le xs lo i) (hl : lo ≤ i) : Ins le lo i i xs :=
  ⟨hl, Nat.le_refl _, fun a b ha hab hb h1 h2 => h a b ha hab (by omega), fun b h1 h2 => by omega⟩
theorem Ins.step {le : α → α → Prop} {lo i k : Nat} {xs : List α} (h : Ins le lo i k xs) (hk : lo < k) (hl : i < xs.length) (hle : le (xs.getD k default) (xs.getD (k - 1) default)) : Ins le lo i (k - 1) (swp xs (k - 1) k) := by
  have hki := h.ki
  have g : ∀ j, (swp xs (k - 1) k).getD j default = if j = k then xs.getD (k - 1) default else if j = k - 1 then xs.getD k default else xs.getD j default := fun j => swp_get (by omega) (by omega)
  refine ⟨by omega, by omega, fun a b ha hab hb h1 h2 => ?_, fun b h1 h2 => ?_⟩
  · rw [g a, g b, if_neg h1, if_neg h2]
    by_cases hak : a = k
    · rw [if_pos hak, if_neg (by omega)]
      exact h.rest (k - 1) b (by omega) (by omega) hb (by omega) (by omega)
    rw [if_neg hak]
    by_cases hbk : b = k
    · rw [if_pos hbk]
      exact h.rest a (k - 1) ha (by omega) (by omega) hak (by omega)
    rw [if_neg hbk]
    exact h.rest a b ha hab hb hak hbk
  rw [g (k - 1), g b, if_neg (by omega), if_pos rfl]
  by_cases hbk : b = k
  · rw [if_pos hbk]; exact hle
  rw [if_neg hbk, if_neg (by omega)]
  exact h.up b (by omega) h2
theorem Ins.done {le : α → α → Prop} (tr : ∀ {x y z}, le x y → le y z → le x z) {lo i k : Nat} {xs : List α} (h : Ins le lo i k xs) (hk : k = lo ∨ le (xs.getD (k - 1) default) (xs.getD k default)) : Srt le xs lo (i + 1) := by
  intro a b ha hab hb
  have h1 := h.lok
  have h2 := h.ki
  by_cases hak : a = k
  · subst hak; exact h.up b hab (by omega)
  by_cases hbk : b = k
  · subst hbk
    rcases hk with hk | hk
    · omega
    by_cases hab2 : a = b - 1
    · subst hab2; exact hk
    exact tr (h.rest a (b - 1) ha (by omega) (by omega) hak (by omega)) hk
  exact h.rest a b ha hab (by omega) hak hbk
end Go.Eng
/-
  Sorted lists of integers.
-/
namespace Go.Eng
def srtZ (l : List Int) : List Int := l.mergeSort (fun a b => decide (a ≤ b))
theorem srtZ_perm (l : List Int) : (srtZ l).Perm l := List.mergeSort_perm _ _
theorem srtZ_pair (l : List Int) : (srtZ l).Pairwise (· ≤ ·) := by
  have h := List.pairwise_mergeSort (le := fun a b : Int => decide (a ≤ b)) (by intro a b c; simp; omega) (by intro a b; simp; omega) l
  exact h.imp (by intro a b h; simpa using h)
theorem srtZ_length (l : List Int) : (srtZ l).length = l.length := (srtZ_perm l).length_eq
theorem srtZ_self {l : List Int} (h : l.Pairwise (· ≤ ·)) : srtZ l = l :=
  List.Perm.eq_of_pairwise (le := (· ≤ ·)) (fun a b _ _ h1 h2 => by omega) (srtZ_pair l) h (srtZ_perm l)
theorem srtZ_congr {a b : List Int} (h : a.Perm b) : srtZ a = srtZ b :=
  List.Perm.eq_of_pairwise (le := (· ≤ ·)) (fun a b _ _ h1 h2 => by omega) (srtZ_pair a) (srtZ_pair b) ((srtZ_perm a).trans (h.trans (srtZ_perm b).symm))
end Go.Eng
namespace Go.Proofs.YtpogdlmhmafjlaaGreat
open Go Go.Eng
end Go.Proofs.YtpogdlmhmafjlaaGreat
/-
  Sums of monomials: coefficient functions, canonical forms.
-/
namespace Go.Eng
def co : List Mono → List Int → Rat
  | [], _ => 0
  | m :: r, v => (if m.2 = v then m.1 else 0) + co r v
theorem co_perm {a b : List Mono} (h : a.Perm b) (v : List Int) : co a v = co b v := by
  induction h with
  | nil => rfl
  | cons x _ ih => simp only [co,ih]
  | swap x y l => simp only [co]; rw [← Rat.add_assoc, ← Rat.add_assoc, Rat.add_comm (if y.2 = v then y.1 else 0)]
  | trans _ _ h1 h2 => exact h1.trans h2
theorem co_filter (l : List Mono) (v : List Int) : co (l.filter fun m => decide (m.1 ≠ 0)) v = co l v := by
  induction l with
  | nil => rfl
  | cons m r ih =>
    simp only [List.filter_cons]
    split
    · simp only [co,ih]
    rename_i h
    have h : m.1 = 0 := by simpa using h
    simp only [co,ih,h]
    split <;> rw [Rat.zero_add]
def Asc (l : List Mono) : Prop := l.Pairwise fun a b => cmpV a.2 b.2 < 0
def Can (l : List Mono) : Prop := Asc l ∧ ∀ m ∈ l, m.1 ≠ 0
theorem cmpV_lt_trans {a b c : List Int} (h1 : cmpV a b < 0) (h2 : cmpV b c < 0) : cmpV a c < 0 := by
  have h3 := cmpV_trans (a := a) (b := b) (c := c) (by omega) (by omega)
  have h4 : cmpV a c ≠ 0 := by
    intro e
    have e := cmpV_zero.1 e
    subst e
    have := cmpV_swap a b
    omega
  omega
theorem cmpV_irrefl (a : List Int) : ¬ cmpV a a < 0 := by rw [cmpV_zero.2 rfl]; omega
theorem co_low {l : List Mono} {v : List Int} (h : ∀ m ∈ l, cmpV v m.2 < 0) : co l v = 0 := by
  induction l with
  | nil => rfl
  | cons m r ih =>
    simp only [co, ih fun x hx => h x (by simp [hx])]
    rw [if_neg, Rat.zero_add]
    rintro rfl
    exact cmpV_irrefl _ (h m (by simp))
theorem Asc.tail {m : Mono} {r : List Mono} (h : Asc (m :: r)) : Asc r := (List.pairwise_cons.1 h).2
theorem Asc.head {m : Mono} {r : List Mono} (h : Asc (m :: r)) : ∀ x ∈ r, cmpV m.2 x.2 < 0 := (List.pairwise_cons.1 h).1
theorem can_ext : ∀ {a b : List Mono}, Can a → Can b → (∀ v, co a v = co b v) → a = b
  | [], [], _, _, _ => rfl
  | [], m :: r, _, hb, h => by
    have h1 := h m.2
    simp only [co,if_true] at h1
    rw [co_low hb.1.head, Rat.add_zero] at h1
    exact absurd h1.symm (hb.2 m (by simp))
  | m :: r, [], ha, _, h => by
    have h1 := h m.2
    simp only [co,if_true] at h1
    rw [co_low ha.1.head, Rat.add_zero] at h1
    exact absurd h1 (ha.2 m (by simp))
  | m :: r, n :: s, ha, hb, h => by
    have hm : co (m :: r) m.2 = m.1 := by simp only [co,if_true]; rw [co_low ha.1.head, Rat.add_zero]
    have hn : co (n :: s) n.2 = n.1 := by simp only [co,if_true]; rw [co_low hb.1.head, Rat.add_zero]
    have hmn : m.2 = n.2 := by
      rcases Int.lt_trichotomy (cmpV m.2 n.2) 0 with hc | hc | hc
      · have : co (n :: s) m.2 = 0 := co_low (fun x hx => by
          rcases List.mem_cons.1 hx with rfl | hx
          · exact hc
          exact cmpV_lt_trans hc (hb.1.head x hx))
        rw [← h, hm] at this
        exact absurd this (ha.2 m (by simp))
      · exact cmpV_zero.1 hc
      have hc : cmpV n.2 m.2 < 0 := by rw [cmpV_swap m.2 n.2]; omega
      have : co (m :: r) n.2 = 0 := co_low (fun x hx => by
        rcases List.mem_cons.1 hx with rfl | hx
        · exact hc
        exact cmpV_lt_trans hc (ha.1.head x hx))
      rw [h, hn] at this
      exact absurd this (hb.2 n (by simp))
    have h1 : m.1 = n.1 := by rw [← hm, ← hn, h, hmn]
    have hmn2 : m = n := Prod.ext h1 hmn
    subst hmn2
    congr 1
    refine can_ext ⟨ha.1.tail, fun x hx => ha.2 x (by simp [hx])⟩ ⟨hb.1.tail, fun x hx => hb.2 x (by simp [hx])⟩ fun v => ?_
    have h2 := h v
    simp only [co] at h2
    exact Rat.add_left_cancel _ h2
def insM (c : Rat) (v : List Int) : List Mono → List Mono
  | [] => [(c, v)]
  | m :: r => if cmpV m.2 v < 0 then m :: insM c v r else if m.2 = v then (m.1 + c, v) :: r else (c, v) :: m :: r
theorem insM_co (c : Rat) (v : List Int) (l : List Mono) (w : List Int) : co (insM c v l) w = co l w + (if v = w then c else 0) := by
  induction l with
  | nil => simp only [insM,co]; rw [Rat.add_comm]
  | cons m r ih =>
    simp only [insM]
    split
    · simp only [co,ih,Rat.add_assoc]
    split
    · rename_i h
      simp only [co]
      by_cases hv : v = w
      · rw [if_pos hv, if_pos hv, if_pos (h.trans hv), Rat.add_assoc, Rat.add_assoc, Rat.add_comm c]
      rw [if_neg hv, if_neg hv, if_neg (by rw [h]; exact hv), Rat.add_zero]
    simp only [co]
    rw [Rat.add_comm]
theorem insM_mem {c : Rat} {v : List Int} {l : List Mono} {x : Mono} (h : x ∈ insM c v l) : x.2 = v ∨ x ∈ l := by
  induction l with
  | nil => simp [insM] at h; rw [h]; exact .inl rfl
  | cons m r ih =>
    simp only [insM] at h
    split at h
    · rcases List.mem_cons.1 h with rfl | h
      · exact .inr (by simp)
      rcases ih h with h | h
      · exact .inl h
      exact .inr (by simp [h])
    split at h
    · rcases List.mem_cons.1 h with rfl | h
      · exact .inl rfl
      exact .inr (by simp [h])
    rcases List.mem_cons.1 h with rfl | h
    · exact .inl rfl
    exact .inr h
theorem insM_asc (c : Rat) (v : List Int) : ∀ {l : List Mono}, Asc l → Asc (insM c v l)
  | [], _ => by simp [insM, Asc]
  | m :: r, h => by
    simp only [insM]
    split
    · rename_i hc
      refine List.pairwise_cons.2 ⟨fun x hx => ?_, insM_asc c v h.tail⟩
      rcases insM_mem hx with hx | hx
      · rw [hx]; exact hc
      exact h.head x hx
    rename_i hc
    split
    · rename_i he
      refine List.pairwise_cons.2 ⟨fun x hx => ?_, h.tail⟩
      simp only; rw [← he]; exact h.head x hx
    rename_i he
    have h1 : cmpV v m.2 < 0 := by
      have h2 : cmpV m.2 v ≠ 0 := fun e => he (cmpV_zero.1 e)
      rw [cmpV_swap m.2 v]; omega
    refine List.pairwise_cons.2 ⟨fun x hx => ?_, h⟩
    rcases List.mem_cons.1 hx with rfl | hx
    · exact h1
    exact cmpV_lt_trans h1 (h.head x hx)
theorem insM_mem' {c : Rat} {v : List Int} {l : List Mono} {x : Mono} (h : x ∈ insM c v l) : x ∈ l ∨ x = (c, v) ∨ ∃ m ∈ l, x = (m.1 + c, v) := by
  induction l with
  | nil => simp [insM] at h; exact .inr (.inl h)
  | cons m r ih =>
    simp only [insM] at h
    split at h
    · rcases List.mem_cons.1 h with rfl | h
      · exact .inl (by simp)
      rcases ih h with h | h | ⟨n, h1, h2⟩
      · exact .inl (by simp [h])
      · exact .inr (.inl h)
      exact .inr (.inr ⟨n, by simp [h1], h2⟩)
    split at h
    · rcases List.mem_cons.1 h with rfl | h
      · exact .inr (.inr ⟨m, by simp, rfl⟩)
      exact .inl (by simp [h])
    rcases List.mem_cons.1 h with rfl | h
    · exact .inr (.inl rfl)
    exact .inl h
theorem take_step {l : List Mono} {k : Nat} (h : k < l.length) : l.take (k + 1) = l.take k ++ [l.getD k default] := by
  rw [List.take_add_one, X7, X8 h]; rfl
def sumL (l : List Mono) (os : List Mono) : List Mono := l.foldl (fun os m => insM m.1 (srtZ m.2) os) os
def sumM (l : List Mono) : List Mono := (sumL l []).filter fun m => decide (m.1 ≠ 0)
def srtM (l : List Mono) : List Mono := l.map fun m => (m.1, srtZ m.2)
theorem sumL_co (l os : List Mono) (v : List Int) : co (sumL l os) v = co os v + co (srtM l) v := by
  induction l generalizing os with
  | nil => show co os v = co os v + 0; rw [Rat.add_zero]
  | cons m r ih =>
    have e : sumL (m :: r) os = sumL r (insM m.1 (srtZ m.2) os) := rfl
    rw [e, ih, insM_co]
    simp only [srtM,List.map_cons,co]
    rw [Rat.add_assoc]
theorem sumL_asc (l : List Mono) {os : List Mono} (h : Asc os) : Asc (sumL l os) := by
  induction l generalizing os with
  | nil => exact h
  | cons m r ih => exact ih (insM_asc _ _ h)
theorem can_filter {l : List Mono} (h : Asc l) : Can (l.filter fun m => decide (m.1 ≠ 0)) := by
  refine ⟨List.Pairwise.filter _ h, fun m hm => ?_⟩
  have := (List.mem_filter.1 hm).2
  simpa using this
theorem sumM_can (l : List Mono) : Can (sumM l) := can_filter (sumL_asc l List.Pairwise.nil)
theorem sumM_co (l : List Mono) (v : List Int) : co (sumM l) v = co (srtM l) v := by
  unfold sumM
  rw [co_filter, sumL_co]
  show 0 + _ = _
  rw [Rat.zero_add]
end Go.Eng
namespace Go.Proofs.YtpogdlmhmafjlaaGreat
open Go Go.Eng
def fR (os : List Mono) (i : Nat) : Nat → C := mC (os.getD i default)
theorem mC_list (m : Mono) {j : Nat} (hj : j < 5) : [C.bool (zs m.1.num), C.ints .u32 (zm m.1.num), C.bool (zs (m.1.den : Int)), C.ints .u32 (zm (m.1.den : Int)), C.ints .i64 m.2].getD j C.any = mC m j := by
  match j, hj with
  | 0, _ => rfl
  | 1, _ => rfl
  | 2, _ => rfl
  | 3, _ => rfl
  | 4, _ => rfl
theorem snoc_rows (ks : List Mono) (b : Mono) : ∀ (i j : Nat), i < ks.length + 1 → j < 5 →
    (if i < ks.length then fR ks i j
    else [C.bool (zs b.1.num), C.ints .u32 (zm b.1.num), C.bool (zs (b.1.den : Int)), C.ints .u32 (zm (b.1.den : Int)), C.ints .i64 b.2].getD ((i - ks.length) * 5 + j) C.any) = fR (ks ++ [b]) i j := by
  intro i j hi hj
  unfold fR
  by_cases h : i < ks.length
  · rw [if_pos h, X7, X7, List.getElem?_append_left h]
  have : i = ks.length := by omega
  subst this
  rw [if_neg h, Nat.sub_self, Nat.zero_mul, Nat.zero_add, mC_list b hj, X7, List.getElem?_append_right (Nat.le_refl _), Nat.sub_self]; rfl
theorem set_rows {os : List Mono} {c : Rat} {k : Nat} (hk : k < os.length) (i j : Nat) (hi : i < os.length) (hj : j < 5) :
    setElt (fR os) k 0 [C.bool (zs c.num), C.ints .u32 (zm c.num), C.bool (zs (c.den : Int)), C.ints .u32 (zm (c.den : Int))] i j = fR (os.set k (c, (os.getD k default).2)) i j := by
  unfold setElt fR
  by_cases h : i = k
  · subst h
    rw [if_pos rfl, getD_set_same hk]
    match j, hj with
    | 0, _ => rfl
    | 1, _ => rfl
    | 2, _ => rfl
    | 3, _ => rfl
    | 4, _ => rfl
  rw [if_neg h, getD_set_other (fun e => h e.symm)]
end Go.Proofs.YtpogdlmhmafjlaaGreat
/-
  Linear functionals of sums of monomials; products and derivatives.
-/
namespace Go.Eng
def lin (g : List Int → Rat) : List Mono → Rat
  | [] => 0
  | m :: r => m.1 * g m.2 + lin g r
def ind (w v : List Int) : Rat := if v = w then 1 else 0
theorem lin_ind (l : List Mono) (w : List Int) : lin (ind w) l = co l w := by
  induction l with
  | nil => rfl
  | cons m r ih =>
    simp only [lin,co,ih,ind]
    split
    · rw [Rat.mul_one]
    rw [Rat.mul_zero]
theorem lin_append (g : List Int → Rat) (a b : List Mono) : lin g (a ++ b) = lin g a + lin g b := by
  induction a with
  | nil => simp [lin, Rat.zero_add]
  | cons m r ih => simp only [List.cons_append,lin,ih,Rat.add_assoc]
theorem lin_congr {g h : List Int → Rat} {l : List Mono} (e : ∀ m ∈ l, g m.2 = h m.2) : lin g l = lin h l := by
  induction l with
  | nil => rfl
  | cons m r ih => simp only [lin]; rw [e m (by simp), ih fun x hx => e x (by simp [hx])]
theorem lin_smul (c : Rat) (g : List Int → Rat) (l : List Mono) : lin (fun v => c * g v) l = c * lin g l := by
  induction l with
  | nil => simp [lin, Rat.mul_zero]
  | cons m r ih => simp only [lin,ih,Rat.mul_add]; rw [← Rat.mul_assoc, Rat.mul_comm m.1, Rat.mul_assoc]
theorem lin_insM (g : List Int → Rat) (c : Rat) (v : List Int) (l : List Mono) : lin g (insM c v l) = lin g l + c * g v := by
  induction l with
  | nil => simp only [insM,lin]; rw [Rat.add_comm]
  | cons m r ih =>
    simp only [insM]
    split
    · simp only [lin,ih,Rat.add_assoc]
    split
    · rename_i h
      simp only [lin,h,Rat.add_mul]
      rw [Rat.add_assoc, Rat.add_assoc, Rat.add_comm (c * g v)]
    simp only [lin]; rw [Rat.add_comm]
theorem lin_filter (g : List Int → Rat) (l : List Mono) : lin g (l.filter fun m => decide (m.1 ≠ 0)) = lin g l := by
  induction l with
  | nil => rfl
  | cons m r ih =>
    simp only [List.filter_cons]
    split
    · simp only [lin,ih]
    rename_i h
    have h : m.1 = 0 := by simpa using h
    simp only [lin,ih,h,Rat.zero_mul,Rat.zero_add]
def norL (l os : List Mono) : List Mono := l.foldl (fun os m => insM m.1 m.2 os) os
def norM (l : List Mono) : List Mono := (norL l []).filter fun m => decide (m.1 ≠ 0)
theorem norL_asc (l : List Mono) {os : List Mono} (h : Asc os) : Asc (norL l os) := by
  induction l generalizing os with
  | nil => exact h
  | cons m r ih => exact ih (insM_asc _ _ h)
theorem norM_can (l : List Mono) : Can (norM l) := can_filter (norL_asc l List.Pairwise.nil)
theorem lin_norL (g : List Int → Rat) (l os : List Mono) : lin g (norL l os) = lin g os + lin g l := by
  induction l generalizing os with
  | nil => show _ = _ + 0; rw [Rat.add_zero]; rfl
  | cons m r ih =>
    have e : norL (m :: r) os = norL r (insM m.1 m.2 os) := rfl
    rw [e, ih, lin_insM]
    simp only [lin,Rat.add_assoc]
theorem lin_norM (g : List Int → Rat) (l : List Mono) : lin g (norM l) = lin g l := by
  unfold norM
  rw [lin_filter, lin_norL]
  show 0 + _ = _
  rw [Rat.zero_add]
theorem norM_co (l : List Mono) (v : List Int) : co (norM l) v = co l v := by rw [← lin_ind, ← lin_ind, lin_norM]
theorem norM_srt (l : List Mono) : norM (srtM l) = sumM l := can_ext (norM_can _) (sumM_can l) fun v => by rw [norM_co, sumM_co]
theorem norM_perm {a b : List Mono} (h : a.Perm b) : norM a = norM b := can_ext (norM_can _) (norM_can _) fun v => by rw [norM_co, norM_co, co_perm h]
def VAsc (l : List Mono) : Prop := ∀ m ∈ l, m.2.Pairwise (· ≤ ·)
theorem VAsc.append {a b : List Mono} (ha : VAsc a) (hb : VAsc b) : VAsc (a ++ b) := fun m hm => by
  rcases List.mem_append.1 hm with h | h
  · exact ha m h
  exact hb m h
theorem VAsc.srtM (l : List Mono) : VAsc (srtM l) := fun m hm => by
  obtain ⟨x, _, rfl⟩ := List.mem_map.1 hm
  exact srtZ_pair _
theorem norL_mem {l os : List Mono} {x : Mono} (h : x ∈ norL l os) : (∃ m ∈ l, x.2 = m.2) ∨ ∃ m ∈ os, x.2 = m.2 := by
  induction l generalizing os with
  | nil => exact .inr ⟨x, h, rfl⟩
  | cons m r ih =>
    rcases ih h with ⟨y, hy, e⟩ | ⟨y, hy, e⟩
    · exact .inl ⟨y, by simp [hy], e⟩
    rcases insM_mem hy with h1 | h1
    · exact .inl ⟨m, by simp, by rw [e, h1]⟩
    exact .inr ⟨y, h1, e⟩
theorem norM_mem {l : List Mono} {x : Mono} (h : x ∈ norM l) : ∃ m ∈ l, x.2 = m.2 := by
  rcases norL_mem (List.mem_filter.1 h).1 with h1 | ⟨m, hm, _⟩
  · exact h1
  cases hm
theorem VAsc.norM {l : List Mono} (h : VAsc l) : VAsc (norM l) := fun m hm => by
  obtain ⟨x, hx, e⟩ := norM_mem hm
  rw [e]; exact h x hx
theorem VAsc.sumM (l : List Mono) : VAsc (sumM l) := by rw [← norM_srt]; exact (VAsc.srtM l).norM
def mulL (p q : List Mono) : List Mono := p.flatMap fun a => q.map fun b => (a.1 * b.1, a.2 ++ b.2)
def mulR (a : Mono) (q : List Mono) : List Mono := q.map fun b => (a.1 * b.1, a.2 ++ b.2)
theorem srtM_append (a b : List Mono) : srtM (a ++ b) = srtM a ++ srtM b := List.map_append
theorem srtM_mulL_cons (a : Mono) (p q : List Mono) : srtM (mulL (a :: p) q) = srtM (mulR a q) ++ srtM (mulL p q) := by
  unfold mulL mulR; rw [List.flatMap_cons, srtM_append]
theorem lin_mulR (g : List Int → Rat) (a : Mono) (q : List Mono) : lin g (srtM (mulR a q)) = a.1 * lin (fun u => g (srtZ (a.2 ++ u))) q := by
  induction q with
  | nil => show (0 : Rat) = _ * 0; rw [Rat.mul_zero]
  | cons b q ih =>
    unfold mulR srtM at *
    simp only [List.map_cons,lin]
    rw [ih, Rat.mul_add, Rat.mul_assoc]
theorem lin_mulL (g : List Int → Rat) (p q : List Mono) : lin g (srtM (mulL p q)) = lin (fun v => lin (fun u => g (srtZ (v ++ u))) q) p := by
  induction p with
  | nil => rfl
  | cons a p ih => rw [srtM_mulL_cons, lin_append, lin_mulR, ih]; rfl
def mulM (p q : List Mono) : List Mono := sumM (mulL p q)
theorem mulM_eq (p q : List Mono) : mulM p q = norM (srtM (mulL p q)) := (norM_srt _).symm
theorem lin_mulM (g : List Int → Rat) (p q : List Mono) : lin g (mulM p q) = lin (fun v => lin (fun u => g (srtZ (v ++ u))) q) p := by rw [mulM_eq, lin_norM, lin_mulL]
def derP (p : List Mono) (v : Int) : List Mono := p.flatMap fun m => if m.2.count v = 0 then [] else [(m.1 * (m.2.count v : Nat), m.2.erase v)]
theorem srtM_flatMap {α : Type} (f : α → List Mono) (l : List α) : srtM (l.flatMap f) = l.flatMap fun x => srtM (f x) := by
  induction l with
  | nil => rfl
  | cons x r ih => rw [List.flatMap_cons, srtM_append, ih, List.flatMap_cons]
theorem flatMap_congr' {α β : Type} {f g : α → List β} {l : List α} (h : ∀ x ∈ l, f x = g x) : l.flatMap f = l.flatMap g := by
  induction l with
  | nil => rfl
  | cons x r ih => rw [List.flatMap_cons, List.flatMap_cons, h x (by simp), ih fun y hy => h y (by simp [hy])]
def derM (p : List Mono) (v : Int) : List Mono := norM (derP p v)
end Go.Eng
/-
  Bounds of polynomials.
-/
namespace Go.Eng
structure PB (p : List Mono) (n d B : Nat) : Prop where
  n : p.length ≤ n
  m : ∀ m ∈ p, qm m.1 ≤ B ∧ m.2.length ≤ d ∧ In63 m.2
theorem PB.pok {p : List Mono} {n d B : Nat} (h : PB p n d B) (hn : n < 2 ^ 30) (hd : d < 2 ^ 30) (hB : B < 2 ^ 30) : POk p :=
  ⟨Nat.lt_of_le_of_lt h.n hn, fun m hm => ⟨Nat.lt_of_le_of_lt (h.m m hm).1 hB, Nat.lt_of_le_of_lt (h.m m hm).2.1 hd, (h.m m hm).2.2⟩⟩
theorem PB.mono {p : List Mono} {n d B n' d' B' : Nat} (h : PB p n d B) (hn : n ≤ n') (hd : d ≤ d') (hB : B ≤ B') : PB p n' d' B' :=
  ⟨Nat.le_trans h.n hn, fun m hm => ⟨Nat.le_trans (h.m m hm).1 hB, Nat.le_trans (h.m m hm).2.1 hd, (h.m m hm).2.2⟩⟩
theorem PB.append {p q : List Mono} {n d B n' d' B' : Nat} (h : PB p n d B) (h' : PB q n' d' B') : PB (p ++ q) (n + n') (max d d') (max B B') :=
  ⟨by rw [X6]; exact Nat.add_le_add h.n h'.n, fun m hm => by
    rcases List.mem_append.1 hm with hm | hm
    · have := h.m m hm; exact ⟨by omega, by omega, this.2.2⟩
    have := h'.m m hm; exact ⟨by omega, by omega, this.2.2⟩⟩
theorem In63.srtZ {l : List Int} (h : In63 l) : In63 (srtZ l) := fun x hx => h x ((srtZ_perm l).mem_iff.1 hx)
theorem PB.sumL {l : List Mono} {d B : Nat} (h : ∀ m ∈ l, qm m.1 ≤ B ∧ m.2.length ≤ d ∧ In63 m.2) : ∀ (i : Nat) (os : List Mono), (os.length ≤ i ∧ ∀ m ∈ os, qm m.1 ≤ i * (B + 1) ∧ m.2.length ≤ d ∧ In63 m.2) →
    (norL l os).length ≤ i + l.length ∧ ∀ m ∈ norL l os, qm m.1 ≤ (i + l.length) * (B + 1) ∧ m.2.length ≤ d ∧ In63 m.2 := by
  induction l with
  | nil => intro i os ho; exact ho
  | cons x r ih =>
    intro i os ho
    have hx := h x (by simp)
    have e : norL (x :: r) os = norL r (insM x.1 x.2 os) := rfl
    rw [e, List.length_cons, show i + (r.length + 1) = (i + 1) + r.length by omega]
    have e2 : (i + 1) * (B + 1) = i * (B + 1) + B + 1 := by rw [Nat.add_mul]; omega
    refine ih (fun m hm => h m (by simp [hm])) (i + 1) _ ⟨?_, fun m hm => ?_⟩
    · have : (insM x.1 x.2 os).length ≤ os.length + 1 := by
        clear ho
        induction os with
        | nil => simp [insM]
        | cons m r ih =>
          simp only [insM]
          split
          · simp only [List.length_cons]; have := ih rfl; omega
          split <;> simp
      have := ho.1
      omega
    rw [e2]
    rcases insM_mem' hm with hm | rfl | ⟨n, hn, rfl⟩
    · have := ho.2 m hm
      exact ⟨by omega, this.2⟩
    · exact ⟨by have := hx.1; simp only; omega, hx.2⟩
    have h1 := ho.2 n hn
    have h2 := qm_add n.1 x.1
    exact ⟨by have := hx.1; simp only; omega, hx.2⟩
theorem PB.norM {l : List Mono} {n d B : Nat} (h : PB l n d B) : PB (norM l) n d (n * (B + 1)) := by
  obtain ⟨h1, h2⟩ := PB.sumL h.m 0 [] ⟨by simp, fun m hm => by cases hm⟩
  rw [Nat.zero_add] at h1 h2
  refine ⟨Nat.le_trans (List.length_filter_le _ _) (Nat.le_trans h1 h.n), fun m hm => ?_⟩
  have := h2 m (List.mem_filter.1 hm).1
  exact ⟨Nat.le_trans this.1 (Nat.mul_le_mul_right _ h.n), this.2⟩
theorem PB.srtM {l : List Mono} {n d B : Nat} (h : PB l n d B) : PB (srtM l) n d B := by
  refine ⟨by unfold Eng.srtM; rw [List.length_map]; exact h.n, fun m hm => ?_⟩
  obtain ⟨x, hx, rfl⟩ := List.mem_map.1 hm
  have := h.m x hx
  exact ⟨this.1, by rw [srtZ_length]; exact this.2.1, In63.srtZ this.2.2⟩
theorem PB.sumM {l : List Mono} {n d B : Nat} (h : PB l n d B) : PB (sumM l) n d (n * (B + 1)) := by rw [← norM_srt]; exact h.srtM.norM
theorem PB.nil (d B : Nat) : PB [] 0 d B := ⟨Nat.le_refl _, fun m hm => by cases hm⟩
theorem PB.cons {m : Mono} {l : List Mono} {n d B : Nat} (hm : qm m.1 ≤ B ∧ m.2.length ≤ d ∧ In63 m.2) (h : PB l n d B) : PB (m :: l) (n + 1) d B :=
  ⟨by rw [List.length_cons]; exact Nat.succ_le_succ h.n, fun x hx => by
    rcases List.mem_cons.1 hx with rfl | hx
    · exact hm
    exact h.m x hx⟩
theorem In63.append {a b : List Int} (ha : In63 a) (hb : In63 b) : In63 (a ++ b) := fun x hx => by
  rcases List.mem_append.1 hx with h | h
  · exact ha x h
  exact hb x h
theorem mulL_length (p q : List Mono) : (mulL p q).length = p.length * q.length := by
  induction p with
  | nil => simp [mulL]
  | cons a p ih => unfold mulL at *; rw [List.flatMap_cons, X6, ih, List.length_map, List.length_cons, Nat.add_mul]; omega
theorem PB.mulL {p q : List Mono} {n d B n' d' B' : Nat} (h : PB p n d B) (h' : PB q n' d' B') : PB (mulL p q) (n * n') (d + d') (B + B') := by
  refine ⟨by rw [mulL_length]; exact Nat.mul_le_mul h.n h'.n, fun m hm => ?_⟩
  obtain ⟨a, ha, hm⟩ := List.mem_flatMap.1 hm
  obtain ⟨b, hb, rfl⟩ := List.mem_map.1 hm
  have h1 := h.m a ha
  have h2 := h'.m b hb
  have h3 := qm_mul a.1 b.1
  exact ⟨by simp only; omega, by simp only [X6]; omega, In63.append h1.2.2 h2.2.2⟩
theorem PB.mulM {p q : List Mono} {n d B n' d' B' : Nat} (h : PB p n d B) (h' : PB q n' d' B') : PB (mulM p q) (n * n') (d + d') (n * n' * (B + B' + 1)) := (h.mulL h').sumM
theorem take_map_step {α β : Type} [Inhabited α] (g : α → β) {l : List α} {i : Nat} (h : i < l.length) : (l.take (i + 1)).map g = (l.take i).map g ++ [g (l.getD i default)] := by
  rw [List.take_add_one, List.map_append, X7, X8 h]; rfl
theorem take_flatMap_step {α β : Type} [Inhabited α] (g : α → List β) {l : List α} {i : Nat} (h : i < l.length) : (l.take (i + 1)).flatMap g = (l.take i).flatMap g ++ g (l.getD i default) := by
  rw [List.take_add_one, List.flatMap_append, X7, X8 h]; simp
theorem PB.get {p : List Mono} {n d B : Nat} (h : PB p n d B) {i : Nat} (hi : i < p.length) : qm (p.getD i default).1 ≤ B ∧ (p.getD i default).2.length ≤ d ∧ In63 (p.getD i default).2 := by
  rw [X7, X8 hi]
  exact h.m _ (List.getElem_mem hi)
end Go.Eng
/-
  THE ENGINE, PART ZA: arguments that stand for the same.
-/
namespace Go.Eng
open Go
def VLeN (x y : V) : Prop := ∀ ok w v, RepV1 loc0 dom0 ok w x v → RepV1 loc0 dom0 ok w y v
theorem VLeN.refl (x : V) : VLeN x x := fun _ _ _ h => h
def VLeA : List V → List V → Prop
  | [], [] => True
  | x :: xs, y :: ys => VLeN x y ∧ VLeA xs ys
  | _, _ => False
theorem VLeA.rep {ok : Nat → Prop} {w : World} : ∀ {xs ys : List V} {vs : List Value}, VLeA xs ys → RepVL loc0 dom0 ok w xs vs → RepVL loc0 dom0 ok w ys vs
  | [], [], _, _, h => h
  | x :: xs, y :: ys, [], _, h => h.elim
  | x :: xs, y :: ys, v :: vs, ha, h => ⟨ha.1 ok w v h.1, VLeA.rep ha.2 h.2⟩
  | [], _ :: _, _, ha, _ => ha.elim
  | _ :: _, [], _, ha, _ => ha.elim
theorem Pr.args {P : Program} {f : FuncId} {xs ys : List V} {r : V} (h : Pr P f ys r) (ha : VLeA xs ys) : Pr P f xs r :=
  ⟨h.1, fun ok w vs hok hvs => h.2 ok w vs hok (ha.rep hvs)⟩
def CLe (c c' : C) : Prop := ∀ ok w v, RepI ok w c v → RepI ok w c' v
theorem CLe.refl (c : C) : CLe c c := fun _ _ _ h => h
theorem CLe.of_eq {c c' : C} (h : c = c') : CLe c c' := h ▸ CLe.refl c
theorem CLe.nil_ints (k : IntKind) : CLe .nil (.ints k []) := fun ok w v h => ⟨none, 0, h, Nat.le_refl _, .inl rfl⟩
theorem CLe.nil_rows (wd : Nat) (f : Nat → Nat → C) : CLe .nil (.rows wd 0 f) := fun ok w v h => ⟨none, 0, h, Nat.le_refl _, .inl rfl⟩
theorem CLe.rows {wd n n' : Nat} {f g : Nat → Nat → C} (hn : n = n') (h : ∀ i j, i < n → j < wd → CLe (f i j) (g i j)) : CLe (.rows wd n f) (.rows wd n' g) := by
  subst hn
  rintro ok w v ⟨a, cap, hv, hle, hr⟩
  refine ⟨a, cap, hv, hle, ?_⟩
  rcases hr with hr | ⟨b, o, ha, hg, hcs⟩
  · exact .inl hr
  refine .inr ⟨b, o, ha, hg, fun i j hi hj => ?_⟩
  obtain ⟨u, hu, hr⟩ := hcs i j hi hj
  exact ⟨u, hu, h i j hi hj ok w u hr⟩
theorem VLeN.cell {c c' : C} (h : CLe c c') : VLeN (.one c) (.one c') := fun ok w v hr => RepC.of_repI (h ok w v (RepI.of_loc0 hr))
theorem Pr.arg1c {P : Program} {f : FuncId} {x y : C} {r : V} (h : Pr P f [.one y] r) (ha : CLe x y) : Pr P f [.one x] r :=
  h.args ⟨.cell ha, trivial⟩
theorem Pr.arg2c {P : Program} {f : FuncId} {x y x' y' : C} {r : V} (h : Pr P f [.one y, .one y'] r) (ha : CLe x y) (ha' : CLe x' y') : Pr P f [.one x, .one x'] r :=
  h.args ⟨.cell ha, .cell ha', trivial⟩
end Go.Eng
namespace Go.Proofs.YtpogdlmhmafjlaaGreat
open Go Go.Eng
theorem app_rows (p q : List Mono) : ∀ (i j : Nat), i < p.length + q.length → j < 5 → (if i < p.length then fR p i j else fR q (i - p.length) j) = fR (p ++ q) i j := by
  intro i j hi hj
  unfold fR
  rw [X7 (l := p ++ q)]
  by_cases h : i < p.length
  · rw [if_pos h, List.getElem?_append_left h, X7]
  rw [if_neg h, List.getElem?_append_right (by omega), X7]
theorem snocR {ks : List Mono} {k : Nat} (hk : ks.length = k) (b : Mono) : ∀ (i j : Nat), i < k + 1 → j < 5 →
    (if i < k then fR ks i j
    else [C.bool (zs b.1.num), C.ints .u32 (zm b.1.num), C.bool (zs (b.1.den : Int)), C.ints .u32 (zm (b.1.den : Int)), C.ints .i64 b.2].getD ((i - k) * 5 + j) C.any) = fR (ks ++ [b]) i j := by
  subst hk
  exact snoc_rows ks b
end Go.Proofs.YtpogdlmhmafjlaaGreat
/-
  Merging two sorted parts of a list in place (SymMerge).
-/
namespace Go.Eng
variable {α : Type} [Inhabited α]
def rotF (xs : List α) (s m e k : Nat) : α :=
  if k < s then xs.getD k default else if k < s + (e - m) then xs.getD (k + (m - s)) default else if k < e then xs.getD (k - (e - m)) default else xs.getD k default
def swF (xs : List α) (a b n k : Nat) : α :=
  if a ≤ k ∧ k < a + n then xs.getD (k + (b - a)) default else if b ≤ k ∧ k < b + n then xs.getD (k - (b - a)) default else xs.getD k default
theorem swF_zero (xs : List α) (a b k : Nat) : swF xs a b 0 k = xs.getD k default := by
  unfold swF; rw [if_neg (by omega), if_neg (by omega)]
theorem swF_step {xs ys : List α} {a b i : Nat} (h : ∀ k, ys.getD k default = swF xs a b i k) (hab : a + i < b) (hb : b + i < ys.length) (k : Nat) :
    (swp ys (a + i) (b + i)).getD k default = swF xs a b (i + 1) k := by
  rw [swp_get (by omega) (by omega), h, h, h]
  unfold swF
  (repeat' split) <;> first | (exfalso; omega) | rfl | (congr 1; omega)
theorem rot_left {ys zs : List α} {i j m : Nat} (h : ∀ k, zs.getD k default = swF ys (m - i) m j k) (hij : j < i) (him : i ≤ m) (k : Nat) :
    rotF zs (m - (i - j)) m (m + j) k = rotF ys (m - i) m (m + j) k := by
  unfold rotF
  simp only [h]
  unfold swF
  (repeat' split) <;> first | (exfalso; omega) | rfl | (congr 1; omega)
theorem rot_right {ys zs : List α} {i j m : Nat} (h : ∀ k, zs.getD k default = swF ys (m - i) (m + j - i) i k) (hij : i < j) (him : i ≤ m) (k : Nat) :
    rotF zs (m - i) m (m + (j - i)) k = rotF ys (m - i) m (m + j) k := by
  unfold rotF
  simp only [h]
  unfold swF
  (repeat' split) <;> first | (exfalso; omega) | rfl | (congr 1; omega)
theorem rot_eq {ys zs : List α} {i m : Nat} (h : ∀ k, zs.getD k default = swF ys (m - i) m i k) (him : i ≤ m) (k : Nat) :
    zs.getD k default = rotF ys (m - i) m (m + i) k := by
  rw [h]
  unfold swF rotF
  (repeat' split) <;> first | (exfalso; omega) | rfl | (congr 1; omega)
theorem rot_triv {xs : List α} {s m e : Nat} (h : s = m ∨ m = e) (hm : s ≤ m) (he : m ≤ e) (k : Nat) : rotF xs s m e k = xs.getD k default := by
  unfold rotF
  (repeat' split) <;> first | rfl | (congr 1; omega)
theorem rot_up {xs ys : List α} {a k : Nat} (h : ∀ j, ys.getD j default = rotF xs a (a + 1) (k + 1) j) (hk : a ≤ k) (hl : k + 1 < ys.length) (j : Nat) :
    (swp ys k (k + 1)).getD j default = rotF xs a (a + 1) (k + 2) j := by
  rw [swp_get (by omega) (by omega), h, h, h]
  unfold rotF
  (repeat' split) <;> first | (exfalso; omega) | rfl | (congr 1; omega)
theorem rot_down {xs ys : List α} {m k : Nat} (h : ∀ j, ys.getD j default = rotF xs k m (m + 1) j) (hk : 0 < k) (hkm : k ≤ m) (hl : m < ys.length) (j : Nat) :
    (swp ys k (k - 1)).getD j default = rotF xs (k - 1) m (m + 1) j := by
  rw [swp_get (by omega) (by omega), h, h, h]
  unfold rotF
  (repeat' split) <;> first | (exfalso; omega) | rfl | (congr 1; omega)
section
variable {le : α → α → Prop} (rf : ∀ x, le x x) (tr : ∀ {x y z}, le x y → le y z → le x z)
include rf
theorem Srt.le2 {xs : List α} {lo hi a b : Nat} (h : Srt le xs lo hi) (h1 : lo ≤ a) (h2 : a ≤ b) (h3 : b < hi) : le (xs.getD a default) (xs.getD b default) := by
  by_cases e : a = b
  · rw [e]; exact rf _
  exact h a b h1 (by omega) h3
theorem mrg1 {xs zs : List α} {a b i : Nat} (hs : Srt le xs (a + 1) b) (hi1 : a + 1 ≤ i) (hi2 : i ≤ b) (h1 : ∀ h, a + 1 ≤ h → h < i → le (xs.getD h default) (xs.getD a default)) (h2 : ∀ h, i ≤ h → h < b → le (xs.getD a default) (xs.getD h default))
    (hz : ∀ k, zs.getD k default = rotF xs a (a + 1) i k) : Srt le zs a b := by
  intro p q hp hpq hq
  rw [hz, hz]
  have e1 : ∀ k, a ≤ k → k < b → rotF xs a (a + 1) i k = if k < i - 1 then xs.getD (k + 1) default else if k = i - 1 then xs.getD a default else xs.getD k default := by
    intro k hk1 hk2
    unfold rotF
    (repeat' split) <;> first | (exfalso; omega) | rfl | (congr 1; omega)
  rw [e1 p hp (by omega), e1 q (by omega) hq]
  by_cases c1 : p < i - 1
  · rw [if_pos c1]
    by_cases c2 : q < i - 1
    · rw [if_pos c2]; exact hs _ _ (by omega) (by omega) (by omega)
    rw [if_neg c2]
    by_cases c3 : q = i - 1
    · rw [if_pos c3]; exact h1 _ (by omega) (by omega)
    rw [if_neg c3]; exact Srt.le2 rf hs (by omega) (by omega) hq
  rw [if_neg c1, if_neg (show ¬ q < i - 1 by omega), if_neg (show ¬ q = i - 1 by omega)]
  by_cases c3 : p = i - 1
  · rw [if_pos c3]; exact h2 _ (by omega) hq
  rw [if_neg c3]; exact hs _ _ (by omega) hpq hq
theorem mrg2 {xs zs : List α} {a m i : Nat} (hs : Srt le xs a m) (hi1 : a ≤ i) (hi2 : i ≤ m) (h1 : ∀ h, a ≤ h → h < i → le (xs.getD h default) (xs.getD m default)) (h2 : ∀ h, i ≤ h → h < m → le (xs.getD m default) (xs.getD h default))
    (hz : ∀ k, zs.getD k default = rotF xs i m (m + 1) k) : Srt le zs a (m + 1) := by
  intro p q hp hpq hq
  rw [hz, hz]
  have e1 : ∀ k, k < m + 1 → rotF xs i m (m + 1) k = if k < i then xs.getD k default else if k = i then xs.getD m default else xs.getD (k - 1) default := by
    intro k hk2
    unfold rotF
    (repeat' split) <;> first | (exfalso; omega) | rfl | (congr 1; omega)
  rw [e1 p (by omega), e1 q hq]
  by_cases c1 : q < i
  · rw [if_pos c1, if_pos (show p < i by omega)]; exact hs _ _ hp hpq (by omega)
  rw [if_neg c1]
  by_cases c2 : p < i
  · rw [if_pos c2]
    by_cases c3 : q = i
    · rw [if_pos c3]; exact h1 _ hp c2
    rw [if_neg c3]; exact Srt.le2 rf hs hp (by omega) (by omega)
  rw [if_neg c2, if_neg (show ¬ q = i by omega)]
  by_cases c3 : p = i
  · rw [if_pos c3]; exact h2 _ (by omega) (by omega)
  rw [if_neg c3]; exact hs _ _ (by omega) (by omega) (by omega)
include tr
theorem sym_law {xs zs : List α} {a m b mid s e : Nat} (hL : Srt le xs a m) (hR : Srt le xs m b) (h1 : a ≤ s) (h2 : s ≤ m) (h3 : m ≤ e) (h4 : e ≤ b) (hse : s + e = mid + m) (hsm : s ≤ mid)
    (c1 : s = a ∨ e = b ∨ le (xs.getD (s - 1) default) (xs.getD e default)) (c2 : s = m ∨ e = m ∨ le (xs.getD (e - 1) default) (xs.getD s default)) (hz : ∀ k, zs.getD k default = rotF xs s m e k) :
    Srt le zs a s ∧ Srt le zs s mid ∧ Srt le zs mid e ∧ Srt le zs e b ∧ ∀ i j, a ≤ i → i < mid → mid ≤ j → j < b → le (zs.getD i default) (zs.getD j default) := by
  have z1 : ∀ k, k < s → zs.getD k default = xs.getD k default := fun k hk => by rw [hz]; unfold rotF; rw [if_pos hk]
  have z2 : ∀ k, s ≤ k → k < mid → zs.getD k default = xs.getD (k + (m - s)) default := fun k hk1 hk2 => by rw [hz]; unfold rotF; rw [if_neg (by omega), if_pos (by omega)]
  have z3 : ∀ k, mid ≤ k → k < e → zs.getD k default = xs.getD (k - (e - m)) default := fun k hk1 hk2 => by rw [hz]; unfold rotF; rw [if_neg (by omega), if_neg (by omega), if_pos (by omega)]
  have z4 : ∀ k, e ≤ k → zs.getD k default = xs.getD k default := fun k hk1 => by rw [hz]; unfold rotF; rw [if_neg (by omega), if_neg (by omega), if_neg (by omega)]
  refine ⟨fun p q hp hpq hq => ?_, fun p q hp hpq hq => ?_, fun p q hp hpq hq => ?_, fun p q hp hpq hq => ?_, fun i j hi1 hi2 hj1 hj2 => ?_⟩
  · rw [z1 p (by omega), z1 q hq]; exact hL _ _ hp hpq (by omega)
  · rw [z2 p hp (by omega), z2 q (by omega) hq]; exact hR _ _ (by omega) (by omega) (by omega)
  · rw [z3 p hp (by omega), z3 q (by omega) hq]; exact hL _ _ (by omega) (by omega) (by omega)
  · rw [z4 p hp, z4 q (by omega)]; exact hR _ _ (by omega) (by omega) (by omega)
  by_cases d1 : i < s
  · rw [z1 i d1]
    by_cases d2 : j < e
    · rw [z3 j hj1 d2]; exact hL _ _ hi1 (by omega) (by omega)
    rw [z4 j (by omega)]
    have c1 : le (xs.getD (s - 1) default) (xs.getD e default) := by
      rcases c1 with c | c | c
      · omega
      · omega
      exact c
    exact tr (Srt.le2 rf hL hi1 (show i ≤ s - 1 by omega) (by omega)) (tr c1 (Srt.le2 rf hR (by omega) (show e ≤ j by omega) hj2))
  rw [z2 i (by omega) hi2]
  by_cases d2 : j < e
  · rw [z3 j hj1 d2]
    have c2 : le (xs.getD (e - 1) default) (xs.getD s default) := by
      rcases c2 with c | c | c
      · omega
      · omega
      exact c
    exact tr (Srt.le2 rf hR (by omega) (show i + (m - s) ≤ e - 1 by omega) (by omega)) (tr c2 (Srt.le2 rf hL (by omega) (show s ≤ j - (e - m) by omega) (by omega)))
  rw [z4 j (by omega)]; exact hR _ _ (by omega) (by omega) (by omega)
end
omit [Inhabited α] in
theorem parts {xs : List α} {lo hi : Nat} (h1 : lo ≤ hi) : xs = xs.take lo ++ ((xs.drop lo).take (hi - lo) ++ xs.drop hi) := by
  conv => lhs; rw [← List.take_append_drop lo xs, ← List.take_append_drop (hi - lo) (xs.drop lo), List.drop_drop]
  rw [show lo + (hi - lo) = hi by omega]
theorem list_ext_getD {xs ys : List α} (hl : xs.length = ys.length) (h : ∀ k, k < xs.length → xs.getD k default = ys.getD k default) : xs = ys := by
  refine List.ext_getElem hl fun i h1 h2 => ?_
  have := h i h1
  rwa [getD_eq h1, getD_eq h2] at this
theorem Out.mid {xs ys : List α} {lo hi : Nat} (h : Out xs ys lo hi) (h1 : lo ≤ hi) (h2 : hi ≤ xs.length) : ((ys.drop lo).take (hi - lo)).Perm ((xs.drop lo).take (hi - lo)) := by
  obtain ⟨hl, hp, ho⟩ := h
  have e1 : ys.take lo = xs.take lo := by
    refine list_ext_getD (by simp [hl]) fun k hk => ?_
    have hk : k < lo := by rw [X5] at hk; omega
    rw [X7, X7, List.getElem?_take_of_lt hk, List.getElem?_take_of_lt hk, ← X7, ← X7]
    exact ho k (.inl hk)
  have e2 : ys.drop hi = xs.drop hi := by
    refine list_ext_getD (by simp [hl]) fun k hk => ?_
    rw [X7, X7, List.getElem?_drop, List.getElem?_drop, ← X7, ← X7]
    exact ho _ (.inr (by omega))
  rw [parts (xs := xs) h1, parts (xs := ys) h1, e1, e2] at hp
  exact List.perm_append_right_iff _ |>.1 (List.perm_append_left_iff _ |>.1 hp)
theorem Out.mem {xs ys : List α} {lo hi : Nat} (h : Out xs ys lo hi) (h2 : hi ≤ xs.length) {i : Nat} (hi1 : lo ≤ i) (hi2 : i < hi) : ∃ j, lo ≤ j ∧ j < hi ∧ ys.getD i default = xs.getD j default := by
  have hp := h.mid (by omega) h2
  have hl := h.1
  have hm : ys.getD i default ∈ (ys.drop lo).take (hi - lo) := by
    refine List.mem_iff_getElem?.2 ⟨i - lo, ?_⟩
    rw [List.getElem?_take_of_lt (by omega), List.getElem?_drop, show lo + (i - lo) = i by omega, getD_eq (by omega), X8]
  obtain ⟨k, hk⟩ := List.mem_iff_getElem?.1 (hp.mem_iff.1 hm)
  have hk2 : k < hi - lo := by
    have := (List.getElem?_eq_some_iff.1 hk).1
    rw [X5] at this; omega
  rw [List.getElem?_take_of_lt hk2, List.getElem?_drop] at hk
  exact ⟨lo + k, by omega, by omega, by rw [X7 (l := xs), hk]; rfl⟩
theorem Srt.join {le : α → α → Prop} {xs : List α} {a m b : Nat} (h1 : Srt le xs a m) (h2 : Srt le xs m b) (hc : ∀ i j, a ≤ i → i < m → m ≤ j → j < b → le (xs.getD i default) (xs.getD j default)) : Srt le xs a b := by
  intro p q hp hpq hq
  by_cases c1 : q < m
  · exact h1 p q hp hpq c1
  by_cases c2 : m ≤ p
  · exact h2 p q c2 hpq hq
  exact hc p q hp (by omega) (by omega) hq
theorem cross_out {le : α → α → Prop} {xs ys : List α} {a m b : Nat} (hc : ∀ i j, a ≤ i → i < m → m ≤ j → j < b → le (xs.getD i default) (xs.getD j default)) (hl : b ≤ xs.length) (ham : a ≤ m) (hmb : m ≤ b) (ho : Out xs ys a m ∨ Out xs ys m b) :
    ∀ i j, a ≤ i → i < m → m ≤ j → j < b → le (ys.getD i default) (ys.getD j default) := by
  intro i j h1 h2 h3 h4
  rcases ho with ho | ho
  · obtain ⟨k, k1, k2, k3⟩ := ho.mem (by omega) h1 h2
    rw [k3, ho.2.2 j (.inr h3)]
    exact hc k j k1 k2 h3 h4
  obtain ⟨k, k1, k2, k3⟩ := ho.mem hl h3 h4
  rw [k3, ho.2.2 i (.inl h2)]
  exact hc i k h1 h2 k1 k2
end Go.Eng
namespace Go.Proofs.YtpogdlmhmafjlaaGreat
open Go Go.Eng
theorem fR0 (ys : List Mono) (k : Nat) : fR ys k 0 = .bool (zs (ys.getD k default).1.num) := rfl
theorem fR1 (ys : List Mono) (k : Nat) : fR ys k 1 = .ints .u32 (zm (ys.getD k default).1.num) := rfl
theorem fR2 (ys : List Mono) (k : Nat) : fR ys k 2 = .bool (zs ((ys.getD k default).1.den : Int)) := rfl
theorem fR3 (ys : List Mono) (k : Nat) : fR ys k 3 = .ints .u32 (zm ((ys.getD k default).1.den : Int)) := rfl
theorem fR4 (ys : List Mono) (k : Nat) : fR ys k 4 = .ints .i64 (ys.getD k default).2 := rfl
def mL (m : Mono) : List C := [C.bool (zs m.1.num), C.ints .u32 (zm m.1.num), C.bool (zs (m.1.den : Int)), C.ints .u32 (zm (m.1.den : Int)), C.ints .i64 m.2]
theorem set_mono {ys : List Mono} {k : Nat} (hk : k < ys.length) (m : Mono) (i j : Nat) (hj : j < 5) : setElt (fR ys) k 0 (mL m) i j = fR (ys.set k m) i j := by
  unfold setElt fR
  by_cases h : i = k
  · subst h
    rw [if_pos rfl, if_pos (Nat.zero_le _), if_pos (by simpa [mL] using hj), getD_set_same hk, Nat.sub_zero]
    exact mC_list m hj
  rw [if_neg h, getD_set_other (fun e => h e.symm)]
theorem set_mono2 {f : Nat → Nat → C} {ys : List Mono} {k : Nat} (hk : k < ys.length) (m : Mono) (hf : ∀ i j, i < ys.length → j < 5 → f i j = fR ys i j) (i j : Nat) (hi : i < ys.length) (hj : j < 5) : setElt f k 0 (mL m) i j = fR (ys.set k m) i j := by
  rw [← set_mono hk m i j hj]
  unfold setElt
  rw [hf i j hi hj]
theorem swp_rows {ys : List Mono} {a b : Nat} (ha : a < ys.length) (hb : b < ys.length) : ∀ (i j : Nat), i < ys.length → j < 5 →
    setElt (setElt (fR ys) a 0 (mL (ys.getD b default))) b 0 (mL (ys.getD a default)) i j = fR (swp ys a b) i j := by
  intro i j hi hj
  unfold swp
  refine set_mono2 (by simpa using hb) _ (fun i j hi hj => set_mono ha _ i j hj) i j (by simpa using hi) hj
theorem cl1_spec (a b : Mono) (ha : a.2.length < 2 ^ 40) (hb : b.2.length < 2 ^ 40) : Pr Tryz.prog 81 [MV a, MV b] (.one (.int .i64 (cmpV a.2 b.2))) := by
  refine pv T_ok mixed Tryz.func81 rfl (by decide) _ (by simp [Tryz.ntmps81]) ⟨[0, 1, 2, 3, 4], []⟩ (by kernel_rfl) _ ?_
  show vc T _ _ (Option.get! Tryz.f81.body) _ _
  simp only [Tryz.f81,Tryz.ntmps81,Option.get!,iS,iM,eO,J1]
  simp only [vx,T,K5,J0,K6,K7,↓reduceIte,J1,J2,J3,J4,J5,J6,J7,J8,J9,reduceCtorEq,K1,K2,K3,K4,MV,mC]
  refine Cg (compareV_spec a.2 b.2 ha hb) ?_
  simp only [vx,T,K5,J0,K6,K7,↓reduceIte,J1,J2,J3,J4,J5,J6,J7,J8,J9,reduceCtorEq,K1,K2,K3,K4]
  exact Ve rfl
theorem cl2_spec (m : Mono) (hm : qm m.1 < 2 ^ 36) : Pr Tryz.prog 86 [MV m] (.one (.bool (decide (m.1 = 0)))) := by
  refine pv T_ok mixed Tryz.func86 rfl (by decide) _ (by simp [Tryz.ntmps86]) ⟨[0, 1, 2], []⟩ (by kernel_rfl) _ ?_
  show vc T _ _ (Option.get! Tryz.f86.body) _ _
  simp only [Tryz.f86,Tryz.ntmps86,Option.get!,iS,iM,eO,J1]
  simp only [vx,T,K5,J0,K6,K7,↓reduceIte,J1,J2,J3,J4,J5,J6,J7,J8,J9,reduceCtorEq,K1,K2,K3,K4,MV,mC]
  refine Cg (iQSign_spec m.1 hm) ?_
  simp only [vx,T,K5,J0,K6,K7,↓reduceIte,J1,J2,J3,J4,J5,J6,J7,J8,J9,reduceCtorEq,K1,K2,K3,K4]
  refine vb ?_
  by_cases h : m.1 = 0
  · rw [h]; rfl
  rw [decide_eq_false h, decide_eq_false]
  exact fun e => h (Rat.num_eq_zero.1 (sgn_zero.1 (by omega)))
def cF : C := .fn 81 0 (fun _ => .any)
def SwR (xs : List Mono) (N a b n : Nat) (r : V) (B' : Bk) : Prop := ∃ ys, r = .tup [] ∧ B' = .rows 57 5 N (fR ys) ∧ Out xs ys a (b + n) ∧ ∀ k, ys.getD k default = swF xs a b n k
theorem swapR_spec (xs : List Mono) {N : Nat} (hN : xs.length = N) (a b n : Nat) (hab : a + n ≤ b) (hb : b + n ≤ N) (hl : N < 2 ^ 40) : Mc Tryz.prog 213 [.one (.own 0 5 0 N), .one (.int .i64 a), .one (.int .i64 b), .one (.int .i64 n), .one cF] (.rows 57 5 N (fR xs)) (SwR xs N a b n) := by
  refine mut_of_vc T_ok mixed Tryz.func213 rfl (by decide) _ (by simp [Tryz.ntmps213]) ⟨[0, 1, 2, 3, 10, 13], [(3, (.cons 21 [4, 5, 6, 7, 22] (.cons 23 [] .nil .nil) .nil))]⟩ (by kernel_rfl) (.rows 57 5 N (fR xs)) trivial _ ?_
  show vc T _ _ (Option.get! Tryz.f213.body) _ _
  simp only [Tryz.f213,Tryz.ntmps213,Option.get!,iS,iM,eO,J1]
  simp only [vx,T,K5,J0,K6,K7,↓reduceIte,J1,J2,J3,J4,J5,J6,J7,J8,J9,reduceCtorEq,K1,K2,K3,K4,cF]
  refine Lk (fun y : {y : Nat × List Mono // y.1 ≤ n ∧ Out xs y.2 a (b + n) ∧ ∀ k, y.2.getD k default = swF xs a b y.1 k} => ⟨[(0, .one (.own 0 5 0 N)), (1, .one (.int .i64 a)), (2, .one (.int .i64 b)), (3, .one (.int .i64 n)), (10, .one (.int .i64 y.1.1))], [(0, ⟨.rows 57 5 N (fR y.1.2), true⟩)], 1, 38⟩) (fun y => n - y.1.1) ⟨(0, xs), by omega, .refl _ _ _, fun k => (swF_zero xs a b k).symm⟩ ?_ (fun ⟨⟨i, ys⟩, hi, ho, hs⟩ => ?_)
  · refine Sa ?_; simp only [rx,Y0,Y1,Y2,Y3,Y4,Y5,Y6,Y7,ren,↓reduceIte,J1,J2,J3,J4,J5,J6,J7,J8,J9,reduceCtorEq,K1,K2,K3,K4,Y8,Y9,X2,X3,X4]
  simp only at hi ho hs
  have hyl := ho.1
  simp only [vx,T,K5,J0,K6,K7,↓reduceIte,J1,J2,J3,J4,J5,J6,J7,J8,J9,reduceCtorEq,K1,K2,K3,K4]
  refine ⟨fun h1 => Lg ?_, fun h1 => Lg ?_⟩
  · have hin : i < n := by omega
    have i1 := wI i (by omega)
    have a1 : IntKind.i64.wrap ((a : Int) + i) = ((a + i : Nat) : Int) := by rw [IntWalk.i64_in _ (by omega)]; omega
    have b1 : IntKind.i64.wrap ((b : Int) + i) = ((b + i : Nat) : Int) := by rw [IntWalk.i64_in _ (by omega)]; omega
    simp only [vx,T,K5,J0,K6,K7,↓reduceIte,J1,J2,J3,J4,J5,J6,J7,J8,J9,reduceCtorEq,K1,K2,K3,K4,fR0,fR1,fR2,fR3,fR4,a1,b1]
    simp only [i1]
    refine ⟨by omega, by omega, by omega, by omega, by omega, Lq ⟨(i + 1, swp ys (a + i) (b + i)), by omega, ho.swp (by omega) (by omega) (by omega) (by omega) (by omega), swF_step hs (by omega) (by omega)⟩ ?_ ?_⟩
    · refine Sa ?_; simp only [rx,Y0,Y1,Y2,Y3,Y4,Y5,Y6,Y7,ren,↓reduceIte,J1,J2,J3,J4,J5,J6,J7,J8,J9,reduceCtorEq,K1,K2,K3,K4,Y8,Y9,X2,X3,X4]
      rw [← hN, ← hyl]
      exact swp_rows (by omega) (by omega)
    simp only; omega
  have hin : i = n := by omega
  subst hin
  simp only [vx,T,K5,J0,K6,K7,↓reduceIte,J1,J2,J3,J4,J5,J6,J7,J8,J9,reduceCtorEq,K1,K2,K3,K4]
  exact ⟨ys, rfl, rfl, ho, hs⟩
def RotR (xs : List Mono) (N a m b : Nat) (r : V) (B' : Bk) : Prop := ∃ ys, r = .tup [] ∧ B' = .rows 57 5 N (fR ys) ∧ Out xs ys a b ∧ ∀ k, ys.getD k default = rotF xs a m b k
theorem rot_spec (xs : List Mono) {N : Nat} (hN : xs.length = N) (a m b : Nat) (ham : a < m) (hmb : m < b) (hb : b ≤ N) (hl : N < 2 ^ 40) : Mc Tryz.prog 189 [.one (.own 0 5 0 N), .one (.int .i64 a), .one (.int .i64 m), .one (.int .i64 b), .one cF] (.rows 57 5 N (fR xs)) (RotR xs N a m b) := by
  refine mut_of_vc T_ok mixed Tryz.func189 rfl (by decide) _ (by simp [Tryz.ntmps189]) ⟨[0, 1, 2, 3, 4, 10, 11, 20, 23], []⟩ (by kernel_rfl) (.rows 57 5 N (fR xs)) trivial _ ?_
  show vc T _ _ (Option.get! Tryz.f189.body) _ _
  simp only [Tryz.f189,Tryz.ntmps189,Option.get!,iS,iM,eO,J1]
  have w1 : IntKind.i64.wrap ((m : Int) - a) = ((m - a : Nat) : Int) := by rw [IntWalk.i64_in _ (by omega)]; omega
  have w2 : IntKind.i64.wrap ((b : Int) - m) = ((b - m : Nat) : Int) := by rw [IntWalk.i64_in _ (by omega)]; omega
  simp only [vx,T,K5,J0,K6,K7,↓reduceIte,J1,J2,J3,J4,J5,J6,J7,J8,J9,reduceCtorEq,K1,K2,K3,K4,cF,w1,w2]
  refine Lk (fun y : {y : Nat × Nat × List Mono // 0 < y.1 ∧ 0 < y.2.1 ∧ y.1 ≤ m - a ∧ y.2.1 ≤ b - m ∧ Out xs y.2.2 a b ∧ ∀ k, rotF y.2.2 (m - y.1) m (m + y.2.1) k = rotF xs a m b k} => ⟨[(0, .one (.own 0 5 0 N)), (1, .one (.int .i64 a)), (2, .one (.int .i64 m)), (3, .one (.int .i64 b)), (4, .one cF), (10, .one (.int .i64 y.1.1)), (11, .one (.int .i64 y.1.2.1))], [(0, ⟨.rows 57 5 N (fR y.1.2.2), true⟩)], 1, 58⟩) (fun y => y.1.1 + y.1.2.1) ⟨(m - a, b - m, xs), by simp only; omega, by simp only; omega, by simp only; omega, by simp only; omega, .refl _ _ _, fun k => by simp only; rw [show m - (m - a) = a by omega, show m + (b - m) = b by omega]⟩ ?_ (fun ⟨⟨i, j, ys⟩, hi0, hj0, hi, hj, ho, hr⟩ => ?_)
  · refine Sa ?_; simp only [rx,Y0,Y1,Y2,Y3,Y4,Y5,Y6,Y7,ren,↓reduceIte,J1,J2,J3,J4,J5,J6,J7,J8,J9,reduceCtorEq,K1,K2,K3,K4,Y8,Y9,X2,X3,X4,cF]
  simp only at hi0 hj0 hi hj ho hr
  have hyl := ho.1
  have w3 : IntKind.i64.wrap ((m : Int) - i) = ((m - i : Nat) : Int) := by rw [IntWalk.i64_in _ (by omega)]; omega
  have w4 : IntKind.i64.wrap ((m : Int) + j) = ((m + j : Nat) : Int) := by rw [IntWalk.i64_in _ (by omega)]; omega
  have w5 : IntKind.i64.wrap (((m + j : Nat) : Int) - i) = ((m + j - i : Nat) : Int) := by rw [IntWalk.i64_in _ (by omega)]; omega
  simp only [vx,T,K5,J0,K6,K7,↓reduceIte,J1,J2,J3,J4,J5,J6,J7,J8,J9,reduceCtorEq,K1,K2,K3,K4,cF]
  refine ⟨fun h1 => Lg ?_, fun h1 => Lg ?_⟩
  · simp only [vx,T,K5,J0,K6,K7,↓reduceIte,J1,J2,J3,J4,J5,J6,J7,J8,J9,reduceCtorEq,K1,K2,K3,K4,cF]
    refine ⟨fun h2 => Lg ?_, fun h2 => Lg ?_⟩
    · have w6 : IntKind.i64.wrap ((i : Int) - j) = ((i - j : Nat) : Int) := by rw [IntWalk.i64_in _ (by omega)]; omega
      simp only [vx,T,K5,J0,K6,K7,↓reduceIte,J1,J2,J3,J4,J5,J6,J7,J8,J9,reduceCtorEq,K1,K2,K3,K4,cF,w3]
      refine Cm 0 rfl trivial (swapR_spec ys (hyl.trans hN) (m - i) m j (by omega) (by omega) (by omega)) ?_
      rintro _ _ ⟨zs, rfl, rfl, ho2, hz⟩ _
      simp only [vx,T,K5,J0,K6,K7,↓reduceIte,J1,J2,J3,J4,J5,J6,J7,J8,J9,reduceCtorEq,K1,K2,K3,K4,cF,w6]
      refine Lq ⟨(i - j, j, zs), by simp only; omega, hj0, by simp only; omega, hj, ho.trans (ho2.mono (by omega) (by omega)), fun k => (rot_left hz (by omega) (by omega) k).trans (hr k)⟩ ?_ ?_
      · refine Sa ?_; simp only [rx,Y0,Y1,Y2,Y3,Y4,Y5,Y6,Y7,ren,↓reduceIte,J1,J2,J3,J4,J5,J6,J7,J8,J9,reduceCtorEq,K1,K2,K3,K4,Y8,Y9,X2,X3,X4,cF]
      simp only; omega
    have w6 : IntKind.i64.wrap ((j : Int) - i) = ((j - i : Nat) : Int) := by rw [IntWalk.i64_in _ (by omega)]; omega
    simp only [vx,T,K5,J0,K6,K7,↓reduceIte,J1,J2,J3,J4,J5,J6,J7,J8,J9,reduceCtorEq,K1,K2,K3,K4,cF,w3,w4,w5]
    refine Cm 0 rfl trivial (swapR_spec ys (hyl.trans hN) (m - i) (m + j - i) i (by omega) (by omega) (by omega)) ?_
    rintro _ _ ⟨zs, rfl, rfl, ho2, hz⟩ _
    simp only [vx,T,K5,J0,K6,K7,↓reduceIte,J1,J2,J3,J4,J5,J6,J7,J8,J9,reduceCtorEq,K1,K2,K3,K4,cF,w6]
    refine Lq ⟨(i, j - i, zs), hi0, by simp only; omega, hi, by simp only; omega, ho.trans (ho2.mono (by omega) (by omega)), fun k => (rot_right hz (by omega) (by omega) k).trans (hr k)⟩ ?_ ?_
    · refine Sa ?_; simp only [rx,Y0,Y1,Y2,Y3,Y4,Y5,Y6,Y7,ren,↓reduceIte,J1,J2,J3,J4,J5,J6,J7,J8,J9,reduceCtorEq,K1,K2,K3,K4,Y8,Y9,X2,X3,X4,cF]
    simp only; omega
  have hij : i = j := by omega
  subst hij
  simp only [vx,T,K5,J0,K6,K7,↓reduceIte,J1,J2,J3,J4,J5,J6,J7,J8,J9,reduceCtorEq,K1,K2,K3,K4,cF,w3]
  refine Cm 0 rfl trivial (swapR_spec ys (hyl.trans hN) (m - i) m i (by omega) (by omega) (by omega)) ?_
  rintro _ _ ⟨zs, rfl, rfl, ho2, hz⟩ _
  simp only [vx,T,K5,J0,K6,K7,↓reduceIte,J1,J2,J3,J4,J5,J6,J7,J8,J9,reduceCtorEq,K1,K2,K3,K4,cF]
  exact ⟨zs, rfl, rfl, ho.trans (ho2.mono (by omega) (by omega)), fun k => (rot_eq hz (by omega) k).trans (hr k)⟩
end Go.Proofs.YtpogdlmhmafjlaaGreat
