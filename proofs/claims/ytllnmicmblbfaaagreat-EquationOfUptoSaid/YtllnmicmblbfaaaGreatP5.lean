/-
  EquationOf, where what it reads is of bulk at most 1048576: the law returns true, and its argument reads afterwards as it read before. No condition beyond the given row's own cells.
  (Text 5 of 9; made by a program out of smaller texts.)
-/
import Derived.WalkKit
import Derived.Test.YtllnmicmblbfaaaGreatP4
set_option linter.unusedSimpArgs false
set_option linter.unusedVariables false
set_option maxHeartbeats 16000000
set_option maxRecDepth 10000
open Nat renaming reduceAdd → J1, reduceMul → J2, reduceSub → J3, reduceEqDiff → J4, reduceLT → J5, reduceLeDiff → J6, reduceBEq → J7, reduceDiv → J8, reduceMod → J9, reducePow → J0
open Int renaming reduceToNat → K1, reduceLE → K2, reduceLT → K3, reduceEq → K4, reducePow → K5, reduceSub → K6, reduceNeg → K7, natCast_add → X2, natCast_one → X3, natCast_zero → X4
open List renaming getD_cons_zero → X0, getD_cons_succ → X1, length_take → X5, length_append → X6, getD_eq_getElem?_getD → X7, getElem?_eq_getElem → X8
namespace Go.Proofs.YtllnmicmblbfaaaGreat
open Go Go.Eng
def QC (q : Rat) : List C := [.bool (zs q.num), .ints .u32 (zm q.num), .bool (zs (q.den : Int)), .ints .u32 (zm (q.den : Int))]
def QV (q : Rat) : V := .agg (QC q)
theorem one_iff {z : Int} : z = 1 ↔ zs z = false ∧ zn z = 1 ∧ z.natAbs % BB = 1 := by
  constructor
  · rintro rfl
    refine ⟨rfl, ?_, by decide⟩
    have h1 : zn 1 ≤ 1 := nl_le_of_lt (by decide)
    have h2 : zn 1 ≠ 0 := fun e => by have := zn_eq_zero.1 e; omega
    omega
  · rintro ⟨h1, h2, h3⟩
    have h4 := zs_false.1 h1
    have h5 : z.natAbs < BB := by have := nl_le_iff.1 (show nl z.natAbs ≤ 1 by unfold zn at h2; omega); simpa using this
    rw [Nat.mod_eq_of_lt h5] at h3
    omega
theorem vb {p q : Bool} (h : p = q) : VLe (.one (.bool p)) (.one (.bool q)) := Ve (by rw [h])
theorem zm_get0 (z : Int) : (zm z).getD 0 0 = ((z.natAbs % BB : Nat) : Int) := by
  unfold zm
  rw [lG, Nat.pow_zero, Nat.div_one]
def okQ (s : Bool) (xs : List Int) (t : Bool) (ys : List Int) : Bool :=
  okI s xs && (okI t ys && (decide (0 < zof t (val ys)) && decide (((Int.gcd (zof s (val xs)) (zof t (val ys)) : Nat) : Int) = 1)))
theorem okQ_of {s t : Bool} {xs ys : List Int} (h : okQ s xs t ys = true) : ∃ q : Rat, [.bool s, .ints .u32 xs, .bool t, .ints .u32 ys] = QC q := by
  unfold okQ at h
  simp only [Bool.and_eq_true,decide_eq_true_eq] at h
  obtain ⟨h1, h2, h3, h4⟩ := h
  obtain ⟨z, rfl, rfl⟩ := okI_of h1
  obtain ⟨d, rfl, rfl⟩ := okI_of h2
  rw [val_zm, zof_self] at h3 h4
  rw [val_zm, zof_self] at h4
  refine ⟨⟨z, d.natAbs, by omega, ?_⟩, ?_⟩
  · have h5 : Int.gcd z d = 1 := by omega
    exact h5
  · unfold QC
    simp only [show ((d.natAbs : Nat) : Int) = d by omega]
theorem okQ_Q (q : Rat) : okQ (zs q.num) (zm q.num) (zs (q.den : Int)) (zm (q.den : Int)) = true := by
  unfold okQ
  rw [val_zm, zof_self, val_zm, zof_self, okI_Z, okI_Z]
  have h1 := q.den_pos
  have h2 : Int.gcd q.num (q.den : Int) = 1 := q.reduced
  rw [h2]
  simp; omega
theorem iOne_spec (z : Int) (hz : zn z < 2 ^ 60) : Pr Tryz.prog 61 [ZV z] (.one (.bool (decide (z = 1)))) := by
  have hiff := one_iff (z := z)
  refine pv T_ok mixed Tryz.func61 rfl (by decide) _ (by simp [Tryz.ntmps61]) ⟨[0, 1, 2], []⟩ (by kernel_rfl) _ ?_
  show vc T _ _ (Option.get! Tryz.f61.body) _ _
  simp only [Tryz.f61,Tryz.ntmps61,Option.get!,iS,iM,eO,J1]
  simp only [vx,T,K5,J0,K6,K7,↓reduceIte,J1,J2,J3,J4,J5,J6,J7,J8,J9,reduceCtorEq,K1,K2,K3,K4,ZV]
  refine ⟨fun h1 => Lg ?_, fun h1 => Lg ?_⟩
  · have h1 : zs z = false := by simpa using h1
    simp only [vx,T,K5,J0,K6,K7,↓reduceIte,J1,J2,J3,J4,J5,J6,J7,J8,J9,reduceCtorEq,K1,K2,K3,K4]
    refine ⟨fun h2 => Lg ?_, fun h2 => Lg ?_⟩
    · rw [zm_length] at h2
      simp only [vx,T,K5,J0,K6,K7,↓reduceIte,J1,J2,J3,J4,J5,J6,J7,J8,J9,reduceCtorEq,K1,K2,K3,K4,zm_length,zm_get0]
      refine ⟨by omega, vb (decide_eq_decide.2 ?_)⟩
      rw [hiff]
      refine ⟨fun h => ⟨h1, by omega, by omega⟩, fun h => by omega⟩
    · rw [zm_length] at h2
      simp only [vx,T,K5,J0,K6,K7,↓reduceIte,J1,J2,J3,J4,J5,J6,J7,J8,J9,reduceCtorEq,K1,K2,K3,K4]
      refine vb (decide_eq_false ?_).symm
      rw [hiff]; omega
  · simp only [vx,T,K5,J0,K6,K7,↓reduceIte,J1,J2,J3,J4,J5,J6,J7,J8,J9,reduceCtorEq,K1,K2,K3,K4]
    refine vb (decide_eq_false ?_).symm
    rw [hiff]
    rintro ⟨h2, _⟩
    rw [h2] at h1; cases h1
theorem rOne_spec (z : Int) (hz : zn z < 2 ^ 60) : Pr Tryz.prog 85 [ZV z] (.one (.bool (decide (z = 1)))) := by
  have hiff := one_iff (z := z)
  refine pv T_ok mixed Tryz.func85 rfl (by decide) _ (by simp [Tryz.ntmps85]) ⟨[0, 1, 2], []⟩ (by kernel_rfl) _ ?_
  show vc T _ _ (Option.get! Tryz.f85.body) _ _
  simp only [Tryz.f85,Tryz.ntmps85,Option.get!,iS,iM,eO,J1]
  simp only [vx,T,K5,J0,K6,K7,↓reduceIte,J1,J2,J3,J4,J5,J6,J7,J8,J9,reduceCtorEq,K1,K2,K3,K4,ZV]
  refine ⟨fun h1 => Lg ?_, fun h1 => Lg ?_⟩
  · rw [zm_length] at h1
    simp only [vx,T,K5,J0,K6,K7,↓reduceIte,J1,J2,J3,J4,J5,J6,J7,J8,J9,reduceCtorEq,K1,K2,K3,K4,zm_length,zm_get0]
    refine ⟨by omega, ?_⟩
    refine ⟨fun h2 => Lg ?_, fun h2 => Lg ?_⟩
    · simp only [vx,T,K5,J0,K6,K7,↓reduceIte,J1,J2,J3,J4,J5,J6,J7,J8,J9,reduceCtorEq,K1,K2,K3,K4]
      refine vb ?_
      cases hzs : zs z
      · refine (decide_eq_true ?_).symm
        rw [hiff]
        exact ⟨hzs, by omega, by omega⟩
      · refine (decide_eq_false ?_).symm
        rw [hiff, hzs]
        rintro ⟨h, _⟩
        cases h
    · simp only [vx,T,K5,J0,K6,K7,↓reduceIte,J1,J2,J3,J4,J5,J6,J7,J8,J9,reduceCtorEq,K1,K2,K3,K4]
      refine vb (decide_eq_false ?_).symm
      rw [hiff]; omega
  · rw [zm_length] at h1
    simp only [vx,T,K5,J0,K6,K7,↓reduceIte,J1,J2,J3,J4,J5,J6,J7,J8,J9,reduceCtorEq,K1,K2,K3,K4]
    refine vb (decide_eq_false ?_).symm
    rw [hiff]; omega
theorem iQValid_spec (s t : Bool) (xs ys : List Int) (hx : InR xs) (hy : InR ys) (hxl : xs.length < 2 ^ 36) (hyl : ys.length < 2 ^ 36) : Pr Tryz.prog 29 [.agg [.bool s, .ints .u32 xs, .bool t, .ints .u32 ys]] (.one (.bool (okQ s xs t ys))) := by
  refine pv T_ok mixed Tryz.func29 rfl (by decide) _ (by simp [Tryz.ntmps29]) ⟨[0, 1, 2], []⟩ (by kernel_rfl) _ ?_
  show vc T _ _ (Option.get! Tryz.f29.body) _ _
  simp only [Tryz.f29,Tryz.ntmps29,Option.get!,iS,iM,eO,J1]
  simp only [vx,T,K5,J0,K6,K7,↓reduceIte,J1,J2,J3,J4,J5,J6,J7,J8,J9,reduceCtorEq,K1,K2,K3,K4]
  refine Cg (iValid_spec s xs hx (by omega)) ?_
  simp only [vx,T,K5,J0,K6,K7,↓reduceIte,J1,J2,J3,J4,J5,J6,J7,J8,J9,reduceCtorEq,K1,K2,K3,K4]
  refine ⟨fun h1 => Lg ?_, fun h1 => Lg ?_⟩
  · simp only [vx,T,K5,J0,K6,K7,↓reduceIte,J1,J2,J3,J4,J5,J6,J7,J8,J9,reduceCtorEq,K1,K2,K3,K4]
    refine Cg (iValid_spec t ys hy (by omega)) ?_
    simp only [vx,T,K5,J0,K6,K7,↓reduceIte,J1,J2,J3,J4,J5,J6,J7,J8,J9,reduceCtorEq,K1,K2,K3,K4]
    refine ⟨fun h2 => Lg ?_, fun h2 => Lg ?_⟩
    · obtain ⟨z, rfl, rfl⟩ := okI_of h1
      obtain ⟨d, rfl, rfl⟩ := okI_of h2
      rw [zm_length] at hxl hyl
      have hok : okQ (zs z) (zm z) (zs d) (zm d) = (decide (0 < d) && decide (((Int.gcd z d : Nat) : Int) = 1)) := by
        unfold okQ
        rw [h1, h2, val_zm, zof_self, val_zm, zof_self]; rfl
      rw [hok]
      simp only [vx,T,K5,J0,K6,K7,↓reduceIte,J1,J2,J3,J4,J5,J6,J7,J8,J9,reduceCtorEq,K1,K2,K3,K4]
      refine Cg (iSign_spec d (by omega)) ?_
      simp only [vx,T,K5,J0,K6,K7,↓reduceIte,J1,J2,J3,J4,J5,J6,J7,J8,J9,reduceCtorEq,K1,K2,K3,K4]
      have hs : (0 < sgn d) ↔ 0 < d := by unfold sgn; (repeat' split) <;> omega
      refine ⟨fun h3 => Lg ?_, fun h3 => Lg ?_⟩
      · rw [hs] at h3
        simp only [vx,T,K5,J0,K6,K7,↓reduceIte,J1,J2,J3,J4,J5,J6,J7,J8,J9,reduceCtorEq,K1,K2,K3,K4]
        refine Cg (iGCD_spec z d (by omega) (by omega)) ?_
        have hgn : zn (Int.gcd z d) ≤ zn d := zn_le (by
          have := Nat.gcd_le_right z.natAbs (show 0 < d.natAbs by omega)
          exact this)
        simp only [vx,T,K5,J0,K6,K7,↓reduceIte,J1,J2,J3,J4,J5,J6,J7,J8,J9,reduceCtorEq,K1,K2,K3,K4,ZV]
        refine Cg (iOne_spec (Int.gcd z d) (by omega)) ?_
        simp only [vx,T,K5,J0,K6,K7,↓reduceIte,J1,J2,J3,J4,J5,J6,J7,J8,J9,reduceCtorEq,K1,K2,K3,K4]
        refine vb ?_
        rw [decide_eq_true h3]; rfl
      · rw [hs] at h3
        simp only [vx,T,K5,J0,K6,K7,↓reduceIte,J1,J2,J3,J4,J5,J6,J7,J8,J9,reduceCtorEq,K1,K2,K3,K4]
        refine vb ?_
        rw [decide_eq_false h3]; rfl
    · simp only [vx,T,K5,J0,K6,K7,↓reduceIte,J1,J2,J3,J4,J5,J6,J7,J8,J9,reduceCtorEq,K1,K2,K3,K4]
      refine vb ?_
      unfold okQ
      rw [h1, h2]; rfl
  · simp only [vx,T,K5,J0,K6,K7,↓reduceIte,J1,J2,J3,J4,J5,J6,J7,J8,J9,reduceCtorEq,K1,K2,K3,K4]
    refine vb ?_
    unfold okQ
    rw [h1]; rfl
theorem rQValid_spec (s t : Bool) (xs ys : List Int) (hx : InR xs) (hy : InR ys) (hxl : xs.length < 2 ^ 36) (hyl : ys.length < 2 ^ 36) : Pr Tryz.prog 52 [.agg [.bool s, .ints .u32 xs, .bool t, .ints .u32 ys]] (.one (.bool (okQ s xs t ys))) := by
  refine pv T_ok mixed Tryz.func52 rfl (by decide) _ (by simp [Tryz.ntmps52]) ⟨[0, 1, 2], []⟩ (by kernel_rfl) _ ?_
  show vc T _ _ (Option.get! Tryz.f52.body) _ _
  simp only [Tryz.f52,Tryz.ntmps52,Option.get!,iS,iM,eO,J1]
  simp only [vx,T,K5,J0,K6,K7,↓reduceIte,J1,J2,J3,J4,J5,J6,J7,J8,J9,reduceCtorEq,K1,K2,K3,K4]
  refine Cg (rValid_spec s xs hx (by omega)) ?_
  simp only [vx,T,K5,J0,K6,K7,↓reduceIte,J1,J2,J3,J4,J5,J6,J7,J8,J9,reduceCtorEq,K1,K2,K3,K4]
  refine ⟨fun h1 => Lg ?_, fun h1 => Lg ?_⟩
  · simp only [vx,T,K5,J0,K6,K7,↓reduceIte,J1,J2,J3,J4,J5,J6,J7,J8,J9,reduceCtorEq,K1,K2,K3,K4]
    refine Cg (rValid_spec t ys hy (by omega)) ?_
    simp only [vx,T,K5,J0,K6,K7,↓reduceIte,J1,J2,J3,J4,J5,J6,J7,J8,J9,reduceCtorEq,K1,K2,K3,K4]
    refine ⟨fun h2 => Lg ?_, fun h2 => Lg ?_⟩
    · obtain ⟨z, rfl, rfl⟩ := okI_of h1
      obtain ⟨d, rfl, rfl⟩ := okI_of h2
      rw [zm_length] at hxl hyl
      have hok : okQ (zs z) (zm z) (zs d) (zm d) = (decide (0 < d) && decide (((Int.gcd z d : Nat) : Int) = 1)) := by
        unfold okQ
        rw [h1, h2, val_zm, zof_self, val_zm, zof_self]; rfl
      rw [hok]
      simp only [vx,T,K5,J0,K6,K7,↓reduceIte,J1,J2,J3,J4,J5,J6,J7,J8,J9,reduceCtorEq,K1,K2,K3,K4]
      refine Cg (rSign_spec d (by omega)) ?_
      simp only [vx,T,K5,J0,K6,K7,↓reduceIte,J1,J2,J3,J4,J5,J6,J7,J8,J9,reduceCtorEq,K1,K2,K3,K4]
      have hs : (0 < sgn d) ↔ 0 < d := by unfold sgn; (repeat' split) <;> omega
      refine ⟨fun h3 => Lg ?_, fun h3 => Lg ?_⟩
      · rw [hs] at h3
        simp only [vx,T,K5,J0,K6,K7,↓reduceIte,J1,J2,J3,J4,J5,J6,J7,J8,J9,reduceCtorEq,K1,K2,K3,K4]
        refine Cg (rGCD_spec z d (by omega) (by omega)) ?_
        have hgn : zn (Int.gcd z d) ≤ zn d := zn_le (by
          have := Nat.gcd_le_right z.natAbs (show 0 < d.natAbs by omega)
          exact this)
        simp only [vx,T,K5,J0,K6,K7,↓reduceIte,J1,J2,J3,J4,J5,J6,J7,J8,J9,reduceCtorEq,K1,K2,K3,K4,ZV]
        refine Cg (rOne_spec (Int.gcd z d) (by omega)) ?_
        simp only [vx,T,K5,J0,K6,K7,↓reduceIte,J1,J2,J3,J4,J5,J6,J7,J8,J9,reduceCtorEq,K1,K2,K3,K4]
        refine vb ?_
        rw [decide_eq_true h3]; rfl
      · rw [hs] at h3
        simp only [vx,T,K5,J0,K6,K7,↓reduceIte,J1,J2,J3,J4,J5,J6,J7,J8,J9,reduceCtorEq,K1,K2,K3,K4]
        refine vb ?_
        rw [decide_eq_false h3]; rfl
    · simp only [vx,T,K5,J0,K6,K7,↓reduceIte,J1,J2,J3,J4,J5,J6,J7,J8,J9,reduceCtorEq,K1,K2,K3,K4]
      refine vb ?_
      unfold okQ
      rw [h1, h2]; rfl
  · simp only [vx,T,K5,J0,K6,K7,↓reduceIte,J1,J2,J3,J4,J5,J6,J7,J8,J9,reduceCtorEq,K1,K2,K3,K4]
    refine vb ?_
    unfold okQ
    rw [h1]; rfl
theorem iOne0_spec : Pr Tryz.prog 74 [] (ZV 1) := by
  refine pv T_ok mixed Tryz.func74 rfl (by decide) _ (by simp [Tryz.ntmps74]) ⟨[0], []⟩ (by kernel_rfl) _ ?_
  show vc T _ _ (Option.get! Tryz.f74.body) _ _
  simp only [Tryz.f74,Tryz.ntmps74,Option.get!,iS,iM,eO,J1]
  simp only [vx,T,K5,J0,K6,K7,↓reduceIte,J1,J2,J3,J4,J5,J6,J7,J8,J9,reduceCtorEq,K1,K2,K3,K4,ZV]
  refine Cg (iFromInt_spec 1 (by omega) (by omega)) ?_
  simp only [vx,T,K5,J0,K6,K7,↓reduceIte,J1,J2,J3,J4,J5,J6,J7,J8,J9,reduceCtorEq,K1,K2,K3,K4,ZV]
  refine Va ?_; simp only [vLe,vLeL,rx,Y0,Y1,Y2,Y3,Y4,Y5,Y6,Y7,ren,↓reduceIte,J1,J2,J3,J4,J5,J6,J7,J8,J9,reduceCtorEq,K1,K2,K3,K4,ZV]
theorem iQuo_spec (a b : Int) (ha : zn a < 2 ^ 36) (hb : zn b < 2 ^ 36) (h0 : b ≠ 0) : Pr Tryz.prog 108 [ZV a, ZV b] (ZV (a.fdiv b)) := by
  refine pv T_ok mixed Tryz.func108 rfl (by decide) _ (by simp [Tryz.ntmps108]) ⟨[0, 1, 2, 3, 4, 5, 9], []⟩ (by kernel_rfl) _ ?_
  show vc T _ _ (Option.get! Tryz.f108.body) _ _
  simp only [Tryz.f108,Tryz.ntmps108,Option.get!,iS,iM,eO,J1]
  simp only [vx,T,K5,J0,K6,K7,↓reduceIte,J1,J2,J3,J4,J5,J6,J7,J8,J9,reduceCtorEq,K1,K2,K3,K4,ZV]
  refine Cg (iOne_spec b (by omega)) ?_
  simp only [vx,T,K5,J0,K6,K7,↓reduceIte,J1,J2,J3,J4,J5,J6,J7,J8,J9,reduceCtorEq,K1,K2,K3,K4,ZV]
  refine ⟨fun h1 => Lg ?_, fun h1 => Lg ?_⟩
  · subst h1
    simp only [vx,T,K5,J0,K6,K7,↓reduceIte,J1,J2,J3,J4,J5,J6,J7,J8,J9,reduceCtorEq,K1,K2,K3,K4,ZV]
    rw [fdiv_one]
    refine Va ?_; simp only [vLe,vLeL,rx,Y0,Y1,Y2,Y3,Y4,Y5,Y6,Y7,ren,↓reduceIte,J1,J2,J3,J4,J5,J6,J7,J8,J9,reduceCtorEq,K1,K2,K3,K4,ZV]
  · simp only [vx,T,K5,J0,K6,K7,↓reduceIte,J1,J2,J3,J4,J5,J6,J7,J8,J9,reduceCtorEq,K1,K2,K3,K4,ZV]
    refine Cg (iDivMod_spec a b (by omega) (by omega) h0) ?_
    simp only [vx,T,K5,J0,K6,K7,↓reduceIte,J1,J2,J3,J4,J5,J6,J7,J8,J9,reduceCtorEq,K1,K2,K3,K4,ZV]
    refine Va ?_; simp only [vLe,vLeL,rx,Y0,Y1,Y2,Y3,Y4,Y5,Y6,Y7,ren,↓reduceIte,J1,J2,J3,J4,J5,J6,J7,J8,J9,reduceCtorEq,K1,K2,K3,K4,ZV]
theorem rQuo_spec (a b : Int) (ha : zn a < 2 ^ 36) (hb : zn b < 2 ^ 36) (h0 : b ≠ 0) : Pr Tryz.prog 104 [ZV a, ZV b] (ZV (a.fdiv b)) := by
  refine pv T_ok mixed Tryz.func104 rfl (by decide) _ (by simp [Tryz.ntmps104]) ⟨[0, 1, 2, 3, 4, 5], []⟩ (by kernel_rfl) _ ?_
  show vc T _ _ (Option.get! Tryz.f104.body) _ _
  simp only [Tryz.f104,Tryz.ntmps104,Option.get!,iS,iM,eO,J1]
  simp only [vx,T,K5,J0,K6,K7,↓reduceIte,J1,J2,J3,J4,J5,J6,J7,J8,J9,reduceCtorEq,K1,K2,K3,K4,ZV]
  refine Cg (rDivMod_spec a b (by omega) (by omega) h0) ?_
  simp only [vx,T,K5,J0,K6,K7,↓reduceIte,J1,J2,J3,J4,J5,J6,J7,J8,J9,reduceCtorEq,K1,K2,K3,K4,ZV]
  refine Va ?_; simp only [vLe,vLeL,rx,Y0,Y1,Y2,Y3,Y4,Y5,Y6,Y7,ren,↓reduceIte,J1,J2,J3,J4,J5,J6,J7,J8,J9,reduceCtorEq,K1,K2,K3,K4,ZV]
theorem iLowest_spec (n : Int) (d : Nat) (hn : zn n < 2 ^ 36) (hd : nl d < 2 ^ 36) (h0 : 0 < d) : Pr Tryz.prog 75 [ZV n, ZV (d : Int)] (QV (mkRat n d)) := by
  have hg : (0 : Int) < (Int.gcd n d : Nat) := by have := gcd_pos (n := n) h0; omega
  have hgn : zn (Int.gcd n d) ≤ nl d := zn_le (b := (d : Int)) (by
    have := Nat.gcd_le_right n.natAbs (show 0 < (d : Int).natAbs by omega)
    exact this)
  have hzd : zs (d : Int) = false := zs_false.2 (by omega)
  refine pv T_ok mixed Tryz.func75 rfl (by decide) _ (by simp [Tryz.ntmps75]) ⟨[0, 1, 2, 3, 4, 5, 10], []⟩ (by kernel_rfl) _ ?_
  show vc T _ _ (Option.get! Tryz.f75.body) _ _
  simp only [Tryz.f75,Tryz.ntmps75,Option.get!,iS,iM,eO,J1]
  simp only [vx,T,K5,J0,K6,K7,↓reduceIte,J1,J2,J3,J4,J5,J6,J7,J8,J9,reduceCtorEq,K1,K2,K3,K4,ZV]
  refine Cg (iGCD_spec n d (by omega) (by rw [zn_nat]; omega)) ?_
  simp only [vx,T,K5,J0,K6,K7,↓reduceIte,J1,J2,J3,J4,J5,J6,J7,J8,J9,reduceCtorEq,K1,K2,K3,K4,ZV]
  refine ⟨fun h => (by rw [hzd] at h; cases h), fun _ => Lg ?_⟩
  simp only [vx,T,K5,J0,K6,K7,↓reduceIte,J1,J2,J3,J4,J5,J6,J7,J8,J9,reduceCtorEq,K1,K2,K3,K4,ZV]
  refine Cg (iQuo_spec n (Int.gcd n d) (by omega) (by omega) (by omega)) ?_
  rw [mk_num h0]
  simp only [vx,T,K5,J0,K6,K7,↓reduceIte,J1,J2,J3,J4,J5,J6,J7,J8,J9,reduceCtorEq,K1,K2,K3,K4,ZV]
  refine Cg (iQuo_spec d (Int.gcd n d) (by rw [zn_nat]; omega) (by omega) (by omega)) ?_
  rw [mk_den h0]
  simp only [vx,T,K5,J0,K6,K7,↓reduceIte,J1,J2,J3,J4,J5,J6,J7,J8,J9,reduceCtorEq,K1,K2,K3,K4,ZV]
  refine Va ?_; simp only [vLe,vLeL,rx,Y0,Y1,Y2,Y3,Y4,Y5,Y6,Y7,ren,↓reduceIte,J1,J2,J3,J4,J5,J6,J7,J8,J9,reduceCtorEq,K1,K2,K3,K4,QV,QC]
theorem iQFromInt_spec (z : Int) (h1 : -9223372036854775808 ≤ z) (h2 : z ≤ 9223372036854775807) : Pr Tryz.prog 50 [.one (.int .i64 z)] (QV (Rat.ofInt z)) := by
  refine pv T_ok mixed Tryz.func50 rfl (by decide) _ (by simp [Tryz.ntmps50]) ⟨[0, 2], []⟩ (by kernel_rfl) _ ?_
  show vc T _ _ (Option.get! Tryz.f50.body) _ _
  simp only [Tryz.f50,Tryz.ntmps50,Option.get!,iS,iM,eO,J1]
  simp only [vx,T,K5,J0,K6,K7,↓reduceIte,J1,J2,J3,J4,J5,J6,J7,J8,J9,reduceCtorEq,K1,K2,K3,K4,QV,QC]
  refine Cg (iFromInt_spec z h1 h2) ?_
  simp only [vx,T,K5,J0,K6,K7,↓reduceIte,J1,J2,J3,J4,J5,J6,J7,J8,J9,reduceCtorEq,K1,K2,K3,K4,ZV]
  refine Cg iOne0_spec ?_
  simp only [vx,T,K5,J0,K6,K7,↓reduceIte,J1,J2,J3,J4,J5,J6,J7,J8,J9,reduceCtorEq,K1,K2,K3,K4,ZV]
  refine Va ?_; simp only [vLe,vLeL,rx,Y0,Y1,Y2,Y3,Y4,Y5,Y6,Y7,ren,↓reduceIte,J1,J2,J3,J4,J5,J6,J7,J8,J9,reduceCtorEq,K1,K2,K3,K4,Rat.ofInt_num,Rat.ofInt_den,X3]
theorem rQFromInt_spec (z : Int) (h1 : -9223372036854775808 ≤ z) (h2 : z ≤ 9223372036854775807) : Pr Tryz.prog 10 [.one (.int .i64 z)] (QV (Rat.ofInt z)) := by
  refine pv T_ok mixed Tryz.func10 rfl (by decide) _ (by simp [Tryz.ntmps10]) ⟨[0, 2], []⟩ (by kernel_rfl) _ ?_
  show vc T _ _ (Option.get! Tryz.f10.body) _ _
  simp only [Tryz.f10,Tryz.ntmps10,Option.get!,iS,iM,eO,J1]
  simp only [vx,T,K5,J0,K6,K7,↓reduceIte,J1,J2,J3,J4,J5,J6,J7,J8,J9,reduceCtorEq,K1,K2,K3,K4,QV,QC]
  refine Cg (rFromInt_spec z h1 h2) ?_
  simp only [vx,T,K5,J0,K6,K7,↓reduceIte,J1,J2,J3,J4,J5,J6,J7,J8,J9,reduceCtorEq,K1,K2,K3,K4,ZV]
  refine Cg (rFromInt_spec 1 (by omega) (by omega)) ?_
  simp only [vx,T,K5,J0,K6,K7,↓reduceIte,J1,J2,J3,J4,J5,J6,J7,J8,J9,reduceCtorEq,K1,K2,K3,K4,ZV]
  refine Va ?_; simp only [vLe,vLeL,rx,Y0,Y1,Y2,Y3,Y4,Y5,Y6,Y7,ren,↓reduceIte,J1,J2,J3,J4,J5,J6,J7,J8,J9,reduceCtorEq,K1,K2,K3,K4,Rat.ofInt_num,Rat.ofInt_den,X3]
theorem iQSign_spec (q : Rat) (hq : qm q < 2 ^ 36) : Pr Tryz.prog 30 [QV q] (.one (.int .i64 (sgn q.num))) := by
  unfold qm at hq
  refine pv T_ok mixed Tryz.func30 rfl (by decide) _ (by simp [Tryz.ntmps30]) ⟨[0, 1, 2], []⟩ (by kernel_rfl) _ ?_
  show vc T _ _ (Option.get! Tryz.f30.body) _ _
  simp only [Tryz.f30,Tryz.ntmps30,Option.get!,iS,iM,eO,J1]
  simp only [vx,T,K5,J0,K6,K7,↓reduceIte,J1,J2,J3,J4,J5,J6,J7,J8,J9,reduceCtorEq,K1,K2,K3,K4,QV,QC]
  refine Cg (iSign_spec q.num (by omega)) ?_
  simp only [vx,T,K5,J0,K6,K7,↓reduceIte,J1,J2,J3,J4,J5,J6,J7,J8,J9,reduceCtorEq,K1,K2,K3,K4,ZV]
  exact Ve rfl
theorem rQSign_spec (q : Rat) (hq : qm q < 2 ^ 36) : Pr Tryz.prog 102 [QV q] (.one (.int .i64 (sgn q.num))) := by
  unfold qm at hq
  refine pv T_ok mixed Tryz.func102 rfl (by decide) _ (by simp [Tryz.ntmps102]) ⟨[0, 1, 2], []⟩ (by kernel_rfl) _ ?_
  show vc T _ _ (Option.get! Tryz.f102.body) _ _
  simp only [Tryz.f102,Tryz.ntmps102,Option.get!,iS,iM,eO,J1]
  simp only [vx,T,K5,J0,K6,K7,↓reduceIte,J1,J2,J3,J4,J5,J6,J7,J8,J9,reduceCtorEq,K1,K2,K3,K4,QV,QC]
  refine Cg (rSign_spec q.num (by omega)) ?_
  simp only [vx,T,K5,J0,K6,K7,↓reduceIte,J1,J2,J3,J4,J5,J6,J7,J8,J9,reduceCtorEq,K1,K2,K3,K4,ZV]
  exact Ve rfl
open Go Go.Eng
theorem fdiv_nat (a g : Nat) : (a : Int).fdiv (g : Int) = ((a / g : Nat) : Int) := by
  rw [Int.fdiv_eq_ediv_of_nonneg _ (by omega)]; rfl
theorem zn_fdiv (n : Int) (g : Nat) : zn (n.fdiv g) ≤ zn n := by
  rw [Int.fdiv_eq_ediv_of_nonneg _ (by omega)]
  exact zn_le (Int.natAbs_ediv_le_natAbs _ _)
theorem zm_len0 {z : Int} (h : ((zm z).length : Int) = 0) : z = 0 := zn_eq_zero.1 (by rw [zm_length] at h; omega)
theorem ofInt0 : Rat.ofInt 0 = 0 := rfl
theorem iQMul_spec (a b : Rat) (ha : qm a < 2 ^ 34) (hb : qm b < 2 ^ 34) : Pr Tryz.prog 49 [QV a, QV b] (QV (a * b)) := by
  have m1 := zn_mul a.num b.num
  have m2 := nl_mul a.den b.den
  have m3 := zn_mul a.num b.den
  have m4 := zn_mul b.num a.den
  have m5 := zn_add (a.num * b.den) (b.num * a.den)
  have n1 := zn_nat a.den
  have n2 := zn_nat b.den
  have p1 := a.den_pos
  have p2 := b.den_pos
  have p3 := Nat.mul_pos p1 p2
  unfold qm at ha hb
  refine pv T_ok mixed Tryz.func49 rfl (by decide) _ (by simp [Tryz.ntmps49]) ⟨[0, 1, 2, 3, 4, 12], []⟩ (by kernel_rfl) _ ?_
  show vc T _ _ (Option.get! Tryz.f49.body) _ _
  simp only [Tryz.f49,Tryz.ntmps49,Option.get!,iS,iM,eO,J1]
  simp only [vx,T,K5,J0,K6,K7,↓reduceIte,J1,J2,J3,J4,J5,J6,J7,J8,J9,reduceCtorEq,K1,K2,K3,K4,QV,QC]
  refine Cg (iOne_spec a.den (by omega)) ?_
  simp only [vx,T,K5,J0,K6,K7,↓reduceIte,J1,J2,J3,J4,J5,J6,J7,J8,J9,reduceCtorEq,K1,K2,K3,K4,ZV]
  refine ⟨fun h1 => Lg ?_, fun h1 => Lg ?_⟩
  · simp only [vx,T,K5,J0,K6,K7,↓reduceIte,J1,J2,J3,J4,J5,J6,J7,J8,J9,reduceCtorEq,K1,K2,K3,K4,ZV]
    refine Cg (iOne_spec b.den (by omega)) ?_
    simp only [vx,T,K5,J0,K6,K7,↓reduceIte,J1,J2,J3,J4,J5,J6,J7,J8,J9,reduceCtorEq,K1,K2,K3,K4,ZV]
    refine ⟨fun h2 => Lg ?_, fun h2 => Lg ?_⟩
    · obtain ⟨k1, k2⟩ := mul_one' (a := a) (b := b) (by omega) (by omega)
      simp only [vx,T,K5,J0,K6,K7,↓reduceIte,J1,J2,J3,J4,J5,J6,J7,J8,J9,reduceCtorEq,K1,K2,K3,K4,ZV]
      refine Cg (iMul_spec a.num b.num (by omega) (by omega)) ?_
      simp only [vx,T,K5,J0,K6,K7,↓reduceIte,J1,J2,J3,J4,J5,J6,J7,J8,J9,reduceCtorEq,K1,K2,K3,K4,ZV]
      refine Cg iOne0_spec ?_
      simp only [vx,T,K5,J0,K6,K7,↓reduceIte,J1,J2,J3,J4,J5,J6,J7,J8,J9,reduceCtorEq,K1,K2,K3,K4,ZV]
      rw [k1, k2]
      refine Va ?_; simp only [vLe,vLeL,rx,Y0,Y1,Y2,Y3,Y4,Y5,Y6,Y7,ren,↓reduceIte,J1,J2,J3,J4,J5,J6,J7,J8,J9,reduceCtorEq,K1,K2,K3,K4,X3]
    · simp only [vx,T,K5,J0,K6,K7,↓reduceIte,J1,J2,J3,J4,J5,J6,J7,J8,J9,reduceCtorEq,K1,K2,K3,K4,ZV]
      refine Cg (iMul_spec a.num b.num (by omega) (by omega)) ?_
      simp only [vx,T,K5,J0,K6,K7,↓reduceIte,J1,J2,J3,J4,J5,J6,J7,J8,J9,reduceCtorEq,K1,K2,K3,K4,ZV]
      refine Cg (iMul_spec a.den b.den (by omega) (by omega)) ?_
      rw [← Int.natCast_mul]
      simp only [vx,T,K5,J0,K6,K7,↓reduceIte,J1,J2,J3,J4,J5,J6,J7,J8,J9,reduceCtorEq,K1,K2,K3,K4,ZV]
      refine Cg (iLowest_spec (a.num * b.num) (a.den * b.den) (by omega) (by omega) p3) ?_
      rw [← Rat.mul_def']
      simp only [vx,T,K5,J0,K6,K7,↓reduceIte,J1,J2,J3,J4,J5,J6,J7,J8,J9,reduceCtorEq,K1,K2,K3,K4,QV,QC]
      refine Va ?_; simp only [vLe,vLeL,rx,Y0,Y1,Y2,Y3,Y4,Y5,Y6,Y7,ren,↓reduceIte,J1,J2,J3,J4,J5,J6,J7,J8,J9,reduceCtorEq,K1,K2,K3,K4]
  · simp only [vx,T,K5,J0,K6,K7,↓reduceIte,J1,J2,J3,J4,J5,J6,J7,J8,J9,reduceCtorEq,K1,K2,K3,K4,ZV]
    refine Cg (iMul_spec a.num b.num (by omega) (by omega)) ?_
    simp only [vx,T,K5,J0,K6,K7,↓reduceIte,J1,J2,J3,J4,J5,J6,J7,J8,J9,reduceCtorEq,K1,K2,K3,K4,ZV]
    refine Cg (iMul_spec a.den b.den (by omega) (by omega)) ?_
    rw [← Int.natCast_mul]
    simp only [vx,T,K5,J0,K6,K7,↓reduceIte,J1,J2,J3,J4,J5,J6,J7,J8,J9,reduceCtorEq,K1,K2,K3,K4,ZV]
    refine Cg (iLowest_spec (a.num * b.num) (a.den * b.den) (by omega) (by omega) p3) ?_
    rw [← Rat.mul_def']
    simp only [vx,T,K5,J0,K6,K7,↓reduceIte,J1,J2,J3,J4,J5,J6,J7,J8,J9,reduceCtorEq,K1,K2,K3,K4,QV,QC]
    refine Va ?_; simp only [vLe,vLeL,rx,Y0,Y1,Y2,Y3,Y4,Y5,Y6,Y7,ren,↓reduceIte,J1,J2,J3,J4,J5,J6,J7,J8,J9,reduceCtorEq,K1,K2,K3,K4]
theorem iQAdd_spec (a b : Rat) (ha : qm a < 2 ^ 34) (hb : qm b < 2 ^ 34) : Pr Tryz.prog 79 [QV a, QV b] (QV (a + b)) := by
  have m1 := zn_mul a.num b.num
  have m2 := nl_mul a.den b.den
  have m3 := zn_mul a.num b.den
  have m4 := zn_mul b.num a.den
  have m5 := zn_add (a.num * b.den) (b.num * a.den)
  have n1 := zn_nat a.den
  have n2 := zn_nat b.den
  have p1 := a.den_pos
  have p2 := b.den_pos
  have p3 := Nat.mul_pos p1 p2
  unfold qm at ha hb
  refine pv T_ok mixed Tryz.func79 rfl (by decide) _ (by simp [Tryz.ntmps79]) ⟨[0, 1, 2, 3, 4, 5, 13], []⟩ (by kernel_rfl) _ ?_
  show vc T _ _ (Option.get! Tryz.f79.body) _ _
  simp only [Tryz.f79,Tryz.ntmps79,Option.get!,iS,iM,eO,J1]
  simp only [vx,T,K5,J0,K6,K7,↓reduceIte,J1,J2,J3,J4,J5,J6,J7,J8,J9,reduceCtorEq,K1,K2,K3,K4,QV,QC]
  refine Cg (iOne_spec a.den (by omega)) ?_
  simp only [vx,T,K5,J0,K6,K7,↓reduceIte,J1,J2,J3,J4,J5,J6,J7,J8,J9,reduceCtorEq,K1,K2,K3,K4,ZV]
  refine ⟨fun h1 => Lg ?_, fun h1 => Lg ?_⟩
  · simp only [vx,T,K5,J0,K6,K7,↓reduceIte,J1,J2,J3,J4,J5,J6,J7,J8,J9,reduceCtorEq,K1,K2,K3,K4,ZV]
    refine Cg (iOne_spec b.den (by omega)) ?_
    simp only [vx,T,K5,J0,K6,K7,↓reduceIte,J1,J2,J3,J4,J5,J6,J7,J8,J9,reduceCtorEq,K1,K2,K3,K4,ZV]
    refine ⟨fun h2 => Lg ?_, fun h2 => Lg ?_⟩
    · obtain ⟨k1, k2⟩ := add_one (a := a) (b := b) (by omega) (by omega)
      simp only [vx,T,K5,J0,K6,K7,↓reduceIte,J1,J2,J3,J4,J5,J6,J7,J8,J9,reduceCtorEq,K1,K2,K3,K4,ZV]
      refine Cg (iAdd_spec a.num b.num (by omega) (by omega)) ?_
      simp only [vx,T,K5,J0,K6,K7,↓reduceIte,J1,J2,J3,J4,J5,J6,J7,J8,J9,reduceCtorEq,K1,K2,K3,K4,ZV]
      refine Cg iOne0_spec ?_
      simp only [vx,T,K5,J0,K6,K7,↓reduceIte,J1,J2,J3,J4,J5,J6,J7,J8,J9,reduceCtorEq,K1,K2,K3,K4,ZV]
      rw [k1, k2]
      refine Va ?_; simp only [vLe,vLeL,rx,Y0,Y1,Y2,Y3,Y4,Y5,Y6,Y7,ren,↓reduceIte,J1,J2,J3,J4,J5,J6,J7,J8,J9,reduceCtorEq,K1,K2,K3,K4,X3]
    · simp only [vx,T,K5,J0,K6,K7,↓reduceIte,J1,J2,J3,J4,J5,J6,J7,J8,J9,reduceCtorEq,K1,K2,K3,K4,ZV]
      refine Cg (iMul_spec a.num b.den (by omega) (by omega)) ?_
      simp only [vx,T,K5,J0,K6,K7,↓reduceIte,J1,J2,J3,J4,J5,J6,J7,J8,J9,reduceCtorEq,K1,K2,K3,K4,ZV]
      refine Cg (iMul_spec b.num a.den (by omega) (by omega)) ?_
      simp only [vx,T,K5,J0,K6,K7,↓reduceIte,J1,J2,J3,J4,J5,J6,J7,J8,J9,reduceCtorEq,K1,K2,K3,K4,ZV]
      refine Cg (iAdd_spec (a.num * b.den) (b.num * a.den) (by omega) (by omega)) ?_
      simp only [vx,T,K5,J0,K6,K7,↓reduceIte,J1,J2,J3,J4,J5,J6,J7,J8,J9,reduceCtorEq,K1,K2,K3,K4,ZV]
      refine Cg (iMul_spec a.den b.den (by omega) (by omega)) ?_
      rw [← Int.natCast_mul]
      simp only [vx,T,K5,J0,K6,K7,↓reduceIte,J1,J2,J3,J4,J5,J6,J7,J8,J9,reduceCtorEq,K1,K2,K3,K4,ZV]
      refine Cg (iLowest_spec (a.num * b.den + b.num * a.den) (a.den * b.den) (by omega) (by omega) p3) ?_
      rw [← Rat.add_def']
      simp only [vx,T,K5,J0,K6,K7,↓reduceIte,J1,J2,J3,J4,J5,J6,J7,J8,J9,reduceCtorEq,K1,K2,K3,K4,QV,QC]
      refine Va ?_; simp only [vLe,vLeL,rx,Y0,Y1,Y2,Y3,Y4,Y5,Y6,Y7,ren,↓reduceIte,J1,J2,J3,J4,J5,J6,J7,J8,J9,reduceCtorEq,K1,K2,K3,K4]
  · simp only [vx,T,K5,J0,K6,K7,↓reduceIte,J1,J2,J3,J4,J5,J6,J7,J8,J9,reduceCtorEq,K1,K2,K3,K4,ZV]
    refine Cg (iMul_spec a.num b.den (by omega) (by omega)) ?_
    simp only [vx,T,K5,J0,K6,K7,↓reduceIte,J1,J2,J3,J4,J5,J6,J7,J8,J9,reduceCtorEq,K1,K2,K3,K4,ZV]
    refine Cg (iMul_spec b.num a.den (by omega) (by omega)) ?_
    simp only [vx,T,K5,J0,K6,K7,↓reduceIte,J1,J2,J3,J4,J5,J6,J7,J8,J9,reduceCtorEq,K1,K2,K3,K4,ZV]
    refine Cg (iAdd_spec (a.num * b.den) (b.num * a.den) (by omega) (by omega)) ?_
    simp only [vx,T,K5,J0,K6,K7,↓reduceIte,J1,J2,J3,J4,J5,J6,J7,J8,J9,reduceCtorEq,K1,K2,K3,K4,ZV]
    refine Cg (iMul_spec a.den b.den (by omega) (by omega)) ?_
    rw [← Int.natCast_mul]
    simp only [vx,T,K5,J0,K6,K7,↓reduceIte,J1,J2,J3,J4,J5,J6,J7,J8,J9,reduceCtorEq,K1,K2,K3,K4,ZV]
    refine Cg (iLowest_spec (a.num * b.den + b.num * a.den) (a.den * b.den) (by omega) (by omega) p3) ?_
    rw [← Rat.add_def']
    simp only [vx,T,K5,J0,K6,K7,↓reduceIte,J1,J2,J3,J4,J5,J6,J7,J8,J9,reduceCtorEq,K1,K2,K3,K4,QV,QC]
    refine Va ?_; simp only [vLe,vLeL,rx,Y0,Y1,Y2,Y3,Y4,Y5,Y6,Y7,ren,↓reduceIte,J1,J2,J3,J4,J5,J6,J7,J8,J9,reduceCtorEq,K1,K2,K3,K4]
theorem rQMul_spec (a b : Rat) (ha : qm a < 2 ^ 34) (hb : qm b < 2 ^ 34) : Pr Tryz.prog 68 [QV a, QV b] (QV (a * b)) := by
  have m1 := zn_mul a.num b.num
  have m2 := nl_mul a.den b.den
  have m3 := zn_mul a.num b.den
  have m4 := zn_mul b.num a.den
  have m5 := zn_add (a.num * b.den) (b.num * a.den)
  have n1 := zn_nat a.den
  have n2 := zn_nat b.den
  have p1 := a.den_pos
  have p2 := b.den_pos
  have p3 := Nat.mul_pos p1 p2
  unfold qm at ha hb
  obtain ⟨g, hg⟩ : ∃ g, g = a.num.natAbs.gcd b.den := ⟨_, rfl⟩
  obtain ⟨h, hh⟩ : ∃ h, h = b.num.natAbs.gcd a.den := ⟨_, rfl⟩
  have eg : Int.gcd a.num b.den = g := by rw [hg]; rfl
  have eh : Int.gcd b.num a.den = h := by rw [hh]; rfl
  have g0 : 0 < g := by rw [hg]; exact Nat.gcd_pos_of_pos_right _ p2
  have h0 : 0 < h := by rw [hh]; exact Nat.gcd_pos_of_pos_right _ p1
  have gl : nl g ≤ nl b.den := by rw [hg]; exact nl_mono (Nat.gcd_le_right _ p2)
  have hl : nl h ≤ nl a.den := by rw [hh]; exact nl_mono (Nat.gcd_le_right _ p1)
  have dl : nl (a.den / h) ≤ nl a.den := nl_mono (Nat.div_le_self _ _)
  have dl2 : nl (b.den / g) ≤ nl b.den := nl_mono (Nat.div_le_self _ _)
  obtain ⟨k1, k2⟩ := mul_gen a b hg hh
  refine pv T_ok mixed Tryz.func68 rfl (by decide) _ (by simp [Tryz.ntmps68]) ⟨[0, 1, 2, 3, 4, 5, 6, 18, 27], []⟩ (by kernel_rfl) _ ?_
  show vc T _ _ (Option.get! Tryz.f68.body) _ _
  simp only [Tryz.f68,Tryz.ntmps68,Option.get!,iS,iM,eO,J1]
  simp only [vx,T,K5,J0,K6,K7,↓reduceIte,J1,J2,J3,J4,J5,J6,J7,J8,J9,reduceCtorEq,K1,K2,K3,K4,QV,QC]
  refine ⟨fun h1 => Lg ?_, fun h1 => Lg ?_⟩
  · have ez : a * b = 0 := by rw [Rat.num_eq_zero.1 (zm_len0 h1), Rat.zero_mul]
    simp only [vx,T,K5,J0,K6,K7,↓reduceIte,J1,J2,J3,J4,J5,J6,J7,J8,J9,reduceCtorEq,K1,K2,K3,K4,ZV]
    refine Cg (rQFromInt_spec 0 (by omega) (by omega)) ?_
    rw [ez, ← ofInt0]
    simp only [vx,T,K5,J0,K6,K7,↓reduceIte,J1,J2,J3,J4,J5,J6,J7,J8,J9,reduceCtorEq,K1,K2,K3,K4,QV,QC]
    refine Va ?_; simp only [vLe,vLeL,rx,Y0,Y1,Y2,Y3,Y4,Y5,Y6,Y7,ren,↓reduceIte,J1,J2,J3,J4,J5,J6,J7,J8,J9,reduceCtorEq,K1,K2,K3,K4]
  simp only [vx,T,K5,J0,K6,K7,↓reduceIte,J1,J2,J3,J4,J5,J6,J7,J8,J9,reduceCtorEq,K1,K2,K3,K4,ZV]
  refine ⟨fun h2 => Lg ?_, fun h2 => Lg ?_⟩
  · have ez : a * b = 0 := by rw [Rat.num_eq_zero.1 (zm_len0 h2), Rat.mul_zero]
    simp only [vx,T,K5,J0,K6,K7,↓reduceIte,J1,J2,J3,J4,J5,J6,J7,J8,J9,reduceCtorEq,K1,K2,K3,K4,ZV]
    refine Cg (rQFromInt_spec 0 (by omega) (by omega)) ?_
    rw [ez, ← ofInt0]
    simp only [vx,T,K5,J0,K6,K7,↓reduceIte,J1,J2,J3,J4,J5,J6,J7,J8,J9,reduceCtorEq,K1,K2,K3,K4,QV,QC]
    refine Va ?_; simp only [vLe,vLeL,rx,Y0,Y1,Y2,Y3,Y4,Y5,Y6,Y7,ren,↓reduceIte,J1,J2,J3,J4,J5,J6,J7,J8,J9,reduceCtorEq,K1,K2,K3,K4]
  simp only [vx,T,K5,J0,K6,K7,↓reduceIte,J1,J2,J3,J4,J5,J6,J7,J8,J9,reduceCtorEq,K1,K2,K3,K4,ZV]
  refine Cg (rOne_spec a.den (by omega)) ?_
  simp only [vx,T,K5,J0,K6,K7,↓reduceIte,J1,J2,J3,J4,J5,J6,J7,J8,J9,reduceCtorEq,K1,K2,K3,K4,ZV]
  refine ⟨fun h3 => Lg ?_, fun h3 => Lg ?_⟩
  · simp only [vx,T,K5,J0,K6,K7,↓reduceIte,J1,J2,J3,J4,J5,J6,J7,J8,J9,reduceCtorEq,K1,K2,K3,K4,ZV]
    refine Cg (rOne_spec b.den (by omega)) ?_
    simp only [vx,T,K5,J0,K6,K7,↓reduceIte,J1,J2,J3,J4,J5,J6,J7,J8,J9,reduceCtorEq,K1,K2,K3,K4,ZV]
    refine ⟨fun h4 => Lg ?_, fun h4 => Lg ?_⟩
    · obtain ⟨k1, k2⟩ := mul_one' (a := a) (b := b) (by omega) (by omega)
      simp only [vx,T,K5,J0,K6,K7,↓reduceIte,J1,J2,J3,J4,J5,J6,J7,J8,J9,reduceCtorEq,K1,K2,K3,K4,ZV]
      refine Cg (rMul_spec a.num b.num (by omega) (by omega)) ?_
      simp only [vx,T,K5,J0,K6,K7,↓reduceIte,J1,J2,J3,J4,J5,J6,J7,J8,J9,reduceCtorEq,K1,K2,K3,K4,ZV]
      rw [k1, k2, h3]
      refine Va ?_; simp only [vLe,vLeL,rx,Y0,Y1,Y2,Y3,Y4,Y5,Y6,Y7,ren,↓reduceIte,J1,J2,J3,J4,J5,J6,J7,J8,J9,reduceCtorEq,K1,K2,K3,K4,X3]
    · simp only [vx,T,K5,J0,K6,K7,↓reduceIte,J1,J2,J3,J4,J5,J6,J7,J8,J9,reduceCtorEq,K1,K2,K3,K4,ZV]
      have hw1 : zn (a.num.fdiv g) ≤ zn a.num := zn_fdiv _ _
      have hw2 : zn (b.num.fdiv h) ≤ zn b.num := zn_fdiv _ _
      refine Cg (rGCD_spec a.num b.den (by omega) (by omega)) ?_
      rw [eg]
      simp only [vx,T,K5,J0,K6,K7,↓reduceIte,J1,J2,J3,J4,J5,J6,J7,J8,J9,reduceCtorEq,K1,K2,K3,K4,ZV]
      refine Cg (rGCD_spec b.num a.den (by omega) (by omega)) ?_
      rw [eh]
      simp only [vx,T,K5,J0,K6,K7,↓reduceIte,J1,J2,J3,J4,J5,J6,J7,J8,J9,reduceCtorEq,K1,K2,K3,K4,ZV]
      refine Cg (rQuo_spec a.num g (by omega) (by rw [zn_nat]; omega) (by omega)) ?_
      simp only [vx,T,K5,J0,K6,K7,↓reduceIte,J1,J2,J3,J4,J5,J6,J7,J8,J9,reduceCtorEq,K1,K2,K3,K4,ZV]
      refine Cg (rQuo_spec b.num h (by omega) (by rw [zn_nat]; omega) (by omega)) ?_
      simp only [vx,T,K5,J0,K6,K7,↓reduceIte,J1,J2,J3,J4,J5,J6,J7,J8,J9,reduceCtorEq,K1,K2,K3,K4,ZV]
      refine Cg (rMul_spec (a.num.fdiv g) (b.num.fdiv h) (by omega) (by omega)) ?_
      rw [k1]
      simp only [vx,T,K5,J0,K6,K7,↓reduceIte,J1,J2,J3,J4,J5,J6,J7,J8,J9,reduceCtorEq,K1,K2,K3,K4,ZV]
      refine Cg (rQuo_spec a.den h (by omega) (by rw [zn_nat]; omega) (by omega)) ?_
      rw [fdiv_nat]
      simp only [vx,T,K5,J0,K6,K7,↓reduceIte,J1,J2,J3,J4,J5,J6,J7,J8,J9,reduceCtorEq,K1,K2,K3,K4,ZV]
      refine Cg (rQuo_spec b.den g (by omega) (by rw [zn_nat]; omega) (by omega)) ?_
      rw [fdiv_nat]
      simp only [vx,T,K5,J0,K6,K7,↓reduceIte,J1,J2,J3,J4,J5,J6,J7,J8,J9,reduceCtorEq,K1,K2,K3,K4,ZV]
      refine Cg (rMul_spec ((a.den / h : Nat) : Int) ((b.den / g : Nat) : Int) (by rw [zn_nat]; omega) (by rw [zn_nat]; omega)) ?_
      rw [← Int.natCast_mul, k2]
      simp only [vx,T,K5,J0,K6,K7,↓reduceIte,J1,J2,J3,J4,J5,J6,J7,J8,J9,reduceCtorEq,K1,K2,K3,K4,ZV]
      refine Va ?_; simp only [vLe,vLeL,rx,Y0,Y1,Y2,Y3,Y4,Y5,Y6,Y7,ren,↓reduceIte,J1,J2,J3,J4,J5,J6,J7,J8,J9,reduceCtorEq,K1,K2,K3,K4]
  · simp only [vx,T,K5,J0,K6,K7,↓reduceIte,J1,J2,J3,J4,J5,J6,J7,J8,J9,reduceCtorEq,K1,K2,K3,K4,ZV]
    have hw1 : zn (a.num.fdiv g) ≤ zn a.num := zn_fdiv _ _
    have hw2 : zn (b.num.fdiv h) ≤ zn b.num := zn_fdiv _ _
    refine Cg (rGCD_spec a.num b.den (by omega) (by omega)) ?_
    rw [eg]
    simp only [vx,T,K5,J0,K6,K7,↓reduceIte,J1,J2,J3,J4,J5,J6,J7,J8,J9,reduceCtorEq,K1,K2,K3,K4,ZV]
    refine Cg (rGCD_spec b.num a.den (by omega) (by omega)) ?_
    rw [eh]
    simp only [vx,T,K5,J0,K6,K7,↓reduceIte,J1,J2,J3,J4,J5,J6,J7,J8,J9,reduceCtorEq,K1,K2,K3,K4,ZV]
    refine Cg (rQuo_spec a.num g (by omega) (by rw [zn_nat]; omega) (by omega)) ?_
    simp only [vx,T,K5,J0,K6,K7,↓reduceIte,J1,J2,J3,J4,J5,J6,J7,J8,J9,reduceCtorEq,K1,K2,K3,K4,ZV]
    refine Cg (rQuo_spec b.num h (by omega) (by rw [zn_nat]; omega) (by omega)) ?_
    simp only [vx,T,K5,J0,K6,K7,↓reduceIte,J1,J2,J3,J4,J5,J6,J7,J8,J9,reduceCtorEq,K1,K2,K3,K4,ZV]
    refine Cg (rMul_spec (a.num.fdiv g) (b.num.fdiv h) (by omega) (by omega)) ?_
    rw [k1]
    simp only [vx,T,K5,J0,K6,K7,↓reduceIte,J1,J2,J3,J4,J5,J6,J7,J8,J9,reduceCtorEq,K1,K2,K3,K4,ZV]
    refine Cg (rQuo_spec a.den h (by omega) (by rw [zn_nat]; omega) (by omega)) ?_
    rw [fdiv_nat]
    simp only [vx,T,K5,J0,K6,K7,↓reduceIte,J1,J2,J3,J4,J5,J6,J7,J8,J9,reduceCtorEq,K1,K2,K3,K4,ZV]
    refine Cg (rQuo_spec b.den g (by omega) (by rw [zn_nat]; omega) (by omega)) ?_
    rw [fdiv_nat]
    simp only [vx,T,K5,J0,K6,K7,↓reduceIte,J1,J2,J3,J4,J5,J6,J7,J8,J9,reduceCtorEq,K1,K2,K3,K4,ZV]
    refine Cg (rMul_spec ((a.den / h : Nat) : Int) ((b.den / g : Nat) : Int) (by rw [zn_nat]; omega) (by rw [zn_nat]; omega)) ?_
    rw [← Int.natCast_mul, k2]
    simp only [vx,T,K5,J0,K6,K7,↓reduceIte,J1,J2,J3,J4,J5,J6,J7,J8,J9,reduceCtorEq,K1,K2,K3,K4,ZV]
    refine Va ?_; simp only [vLe,vLeL,rx,Y0,Y1,Y2,Y3,Y4,Y5,Y6,Y7,ren,↓reduceIte,J1,J2,J3,J4,J5,J6,J7,J8,J9,reduceCtorEq,K1,K2,K3,K4]
theorem rQAdd_spec (a b : Rat) (ha : qm a < 2 ^ 34) (hb : qm b < 2 ^ 34) : Pr Tryz.prog 101 [QV a, QV b] (QV (a + b)) := by
  have m1 := zn_mul a.num b.num
  have m2 := nl_mul a.den b.den
  have m3 := zn_mul a.num b.den
  have m4 := zn_mul b.num a.den
  have m5 := zn_add (a.num * b.den) (b.num * a.den)
  have n1 := zn_nat a.den
  have n2 := zn_nat b.den
  have p1 := a.den_pos
  have p2 := b.den_pos
  have p3 := Nat.mul_pos p1 p2
  unfold qm at ha hb
  obtain ⟨g, hg⟩ : ∃ g, g = a.den.gcd b.den := ⟨_, rfl⟩
  have eg : Int.gcd (a.den : Int) b.den = g := by rw [hg]; rfl
  have g0 : 0 < g := by rw [hg]; exact Nat.gcd_pos_of_pos_right _ p2
  have gl : nl g ≤ nl b.den := by rw [hg]; exact nl_mono (Nat.gcd_le_right _ p2)
  obtain ⟨num, hn⟩ : ∃ num, num = a.num * ((b.den / g : Nat) : Int) + b.num * ((a.den / g : Nat) : Int) := ⟨_, rfl⟩
  obtain ⟨h, hh⟩ : ∃ h, h = num.natAbs.gcd g := ⟨_, rfl⟩
  have eh : Int.gcd num g = h := by rw [hh]; rfl
  have h0 : 0 < h := by rw [hh]; exact Nat.gcd_pos_of_pos_right _ g0
  have hl : nl h ≤ nl g := by rw [hh]; exact nl_mono (Nat.gcd_le_right _ g0)
  have dl : nl (a.den / g) ≤ nl a.den := nl_mono (Nat.div_le_self _ _)
  have dl2 : nl (b.den / g) ≤ nl b.den := nl_mono (Nat.div_le_self _ _)
  have dl3 : nl (b.den / h) ≤ nl b.den := nl_mono (Nat.div_le_self _ _)
  have w1 := zn_mul a.num ((b.den / g : Nat) : Int)
  have w2 := zn_mul b.num ((a.den / g : Nat) : Int)
  have w3 := zn_add (a.num * ((b.den / g : Nat) : Int)) (b.num * ((a.den / g : Nat) : Int))
  rw [zn_nat] at w1 w2
  rw [← hn] at w3
  have w4 : zn (num.fdiv h) ≤ zn num := zn_fdiv _ _
  obtain ⟨k1, k2⟩ := add_gen hg hn hh
  refine pv T_ok mixed Tryz.func101 rfl (by decide) _ (by simp [Tryz.ntmps101]) ⟨[0, 1, 2, 3, 4, 5, 6, 7, 8, 9, 10, 15, 21, 30, 45], []⟩ (by kernel_rfl) _ ?_
  show vc T _ _ (Option.get! Tryz.f101.body) _ _
  simp only [Tryz.f101,Tryz.ntmps101,Option.get!,iS,iM,eO,J1]
  simp only [vx,T,K5,J0,K6,K7,↓reduceIte,J1,J2,J3,J4,J5,J6,J7,J8,J9,reduceCtorEq,K1,K2,K3,K4,QV,QC]
  refine ⟨fun h1 => Lg ?_, fun h1 => Lg ?_⟩
  · have ez : a + b = b := by rw [Rat.num_eq_zero.1 (zm_len0 h1), Rat.zero_add]
    simp only [vx,T,K5,J0,K6,K7,↓reduceIte,J1,J2,J3,J4,J5,J6,J7,J8,J9,reduceCtorEq,K1,K2,K3,K4,ZV]
    rw [ez]
    refine Va ?_; simp only [vLe,vLeL,rx,Y0,Y1,Y2,Y3,Y4,Y5,Y6,Y7,ren,↓reduceIte,J1,J2,J3,J4,J5,J6,J7,J8,J9,reduceCtorEq,K1,K2,K3,K4]
  simp only [vx,T,K5,J0,K6,K7,↓reduceIte,J1,J2,J3,J4,J5,J6,J7,J8,J9,reduceCtorEq,K1,K2,K3,K4,ZV]
  refine ⟨fun h2 => Lg ?_, fun h2 => Lg ?_⟩
  · have ez : a + b = a := by rw [Rat.num_eq_zero.1 (zm_len0 h2), Rat.add_zero]
    simp only [vx,T,K5,J0,K6,K7,↓reduceIte,J1,J2,J3,J4,J5,J6,J7,J8,J9,reduceCtorEq,K1,K2,K3,K4,ZV]
    rw [ez]
    refine Va ?_; simp only [vLe,vLeL,rx,Y0,Y1,Y2,Y3,Y4,Y5,Y6,Y7,ren,↓reduceIte,J1,J2,J3,J4,J5,J6,J7,J8,J9,reduceCtorEq,K1,K2,K3,K4]
  simp only [vx,T,K5,J0,K6,K7,↓reduceIte,J1,J2,J3,J4,J5,J6,J7,J8,J9,reduceCtorEq,K1,K2,K3,K4,ZV]
  refine Cg (rOne_spec a.den (by omega)) ?_
  simp only [vx,T,K5,J0,K6,K7,↓reduceIte,J1,J2,J3,J4,J5,J6,J7,J8,J9,reduceCtorEq,K1,K2,K3,K4,ZV]
  refine ⟨fun h3 => Lg ?_, fun h3 => Lg ?_⟩
  · simp only [vx,T,K5,J0,K6,K7,↓reduceIte,J1,J2,J3,J4,J5,J6,J7,J8,J9,reduceCtorEq,K1,K2,K3,K4,ZV]
    refine Cg (rOne_spec b.den (by omega)) ?_
    simp only [vx,T,K5,J0,K6,K7,↓reduceIte,J1,J2,J3,J4,J5,J6,J7,J8,J9,reduceCtorEq,K1,K2,K3,K4,ZV]
    refine ⟨fun h4 => Lg ?_, fun h4 => Lg ?_⟩
    · obtain ⟨k1, k2⟩ := add_one (a := a) (b := b) (by omega) (by omega)
      simp only [vx,T,K5,J0,K6,K7,↓reduceIte,J1,J2,J3,J4,J5,J6,J7,J8,J9,reduceCtorEq,K1,K2,K3,K4,ZV]
      refine Cg (rAdd_spec a.num b.num (by omega) (by omega)) ?_
      simp only [vx,T,K5,J0,K6,K7,↓reduceIte,J1,J2,J3,J4,J5,J6,J7,J8,J9,reduceCtorEq,K1,K2,K3,K4,ZV]
      rw [k1, k2, h3]
      refine Va ?_; simp only [vLe,vLeL,rx,Y0,Y1,Y2,Y3,Y4,Y5,Y6,Y7,ren,↓reduceIte,J1,J2,J3,J4,J5,J6,J7,J8,J9,reduceCtorEq,K1,K2,K3,K4,X3]
    · simp only [vx,T,K5,J0,K6,K7,↓reduceIte,J1,J2,J3,J4,J5,J6,J7,J8,J9,reduceCtorEq,K1,K2,K3,K4,ZV]
      refine Cg (rGCD_spec a.den b.den (by omega) (by omega)) ?_
      rw [eg]
      simp only [vx,T,K5,J0,K6,K7,↓reduceIte,J1,J2,J3,J4,J5,J6,J7,J8,J9,reduceCtorEq,K1,K2,K3,K4,ZV]
      refine Cg (rOne_spec g (by rw [zn_nat]; omega)) ?_
      simp only [vx,T,K5,J0,K6,K7,↓reduceIte,J1,J2,J3,J4,J5,J6,J7,J8,J9,reduceCtorEq,K1,K2,K3,K4,ZV]
      refine ⟨fun h5 => Lg ?_, fun h5 => Lg ?_⟩
      · obtain ⟨k3, k4⟩ := add_cop (a := a) (b := b) (by rw [← hg]; omega)
        simp only [vx,T,K5,J0,K6,K7,↓reduceIte,J1,J2,J3,J4,J5,J6,J7,J8,J9,reduceCtorEq,K1,K2,K3,K4,ZV]
        refine Cg (rMul_spec a.num b.den (by omega) (by omega)) ?_
        simp only [vx,T,K5,J0,K6,K7,↓reduceIte,J1,J2,J3,J4,J5,J6,J7,J8,J9,reduceCtorEq,K1,K2,K3,K4,ZV]
        refine Cg (rMul_spec b.num a.den (by omega) (by omega)) ?_
        simp only [vx,T,K5,J0,K6,K7,↓reduceIte,J1,J2,J3,J4,J5,J6,J7,J8,J9,reduceCtorEq,K1,K2,K3,K4,ZV]
        refine Cg (rAdd_spec (a.num * b.den) (b.num * a.den) (by omega) (by omega)) ?_
        simp only [vx,T,K5,J0,K6,K7,↓reduceIte,J1,J2,J3,J4,J5,J6,J7,J8,J9,reduceCtorEq,K1,K2,K3,K4,ZV]
        refine Cg (rMul_spec a.den b.den (by omega) (by omega)) ?_
        simp only [vx,T,K5,J0,K6,K7,↓reduceIte,J1,J2,J3,J4,J5,J6,J7,J8,J9,reduceCtorEq,K1,K2,K3,K4,ZV]
        rw [k3, k4, Int.natCast_mul]
        refine Va ?_; simp only [vLe,vLeL,rx,Y0,Y1,Y2,Y3,Y4,Y5,Y6,Y7,ren,↓reduceIte,J1,J2,J3,J4,J5,J6,J7,J8,J9,reduceCtorEq,K1,K2,K3,K4]
      · simp only [vx,T,K5,J0,K6,K7,↓reduceIte,J1,J2,J3,J4,J5,J6,J7,J8,J9,reduceCtorEq,K1,K2,K3,K4,ZV]
        refine Cg (rQuo_spec a.den g (by omega) (by rw [zn_nat]; omega) (by omega)) ?_
        rw [fdiv_nat]
        simp only [vx,T,K5,J0,K6,K7,↓reduceIte,J1,J2,J3,J4,J5,J6,J7,J8,J9,reduceCtorEq,K1,K2,K3,K4,ZV]
        refine Cg (rQuo_spec b.den g (by omega) (by rw [zn_nat]; omega) (by omega)) ?_
        rw [fdiv_nat]
        simp only [vx,T,K5,J0,K6,K7,↓reduceIte,J1,J2,J3,J4,J5,J6,J7,J8,J9,reduceCtorEq,K1,K2,K3,K4,ZV]
        refine Cg (rMul_spec a.num ((b.den / g : Nat) : Int) (by omega) (by rw [zn_nat]; omega)) ?_
        simp only [vx,T,K5,J0,K6,K7,↓reduceIte,J1,J2,J3,J4,J5,J6,J7,J8,J9,reduceCtorEq,K1,K2,K3,K4,ZV]
        refine Cg (rMul_spec b.num ((a.den / g : Nat) : Int) (by omega) (by rw [zn_nat]; omega)) ?_
        simp only [vx,T,K5,J0,K6,K7,↓reduceIte,J1,J2,J3,J4,J5,J6,J7,J8,J9,reduceCtorEq,K1,K2,K3,K4,ZV]
        refine Cg (rAdd_spec _ _ (Nat.lt_of_le_of_lt w1 (by omega)) (Nat.lt_of_le_of_lt w2 (by omega))) ?_
        rw [← hn]
        simp only [vx,T,K5,J0,K6,K7,↓reduceIte,J1,J2,J3,J4,J5,J6,J7,J8,J9,reduceCtorEq,K1,K2,K3,K4,ZV]
        refine Cg (rGCD_spec num g (by omega) (by rw [zn_nat]; omega)) ?_
        rw [eh]
        simp only [vx,T,K5,J0,K6,K7,↓reduceIte,J1,J2,J3,J4,J5,J6,J7,J8,J9,reduceCtorEq,K1,K2,K3,K4,ZV]
        refine Cg (rQuo_spec num h (by omega) (by rw [zn_nat]; omega) (by omega)) ?_
        rw [k1]
        simp only [vx,T,K5,J0,K6,K7,↓reduceIte,J1,J2,J3,J4,J5,J6,J7,J8,J9,reduceCtorEq,K1,K2,K3,K4,ZV]
        refine Cg (rQuo_spec b.den h (by omega) (by rw [zn_nat]; omega) (by omega)) ?_
        rw [fdiv_nat]
        simp only [vx,T,K5,J0,K6,K7,↓reduceIte,J1,J2,J3,J4,J5,J6,J7,J8,J9,reduceCtorEq,K1,K2,K3,K4,ZV]
        refine Cg (rMul_spec ((a.den / g : Nat) : Int) ((b.den / h : Nat) : Int) (by rw [zn_nat]; omega) (by rw [zn_nat]; omega)) ?_
        rw [← Int.natCast_mul, k2]
        simp only [vx,T,K5,J0,K6,K7,↓reduceIte,J1,J2,J3,J4,J5,J6,J7,J8,J9,reduceCtorEq,K1,K2,K3,K4,ZV]
        refine Va ?_; simp only [vLe,vLeL,rx,Y0,Y1,Y2,Y3,Y4,Y5,Y6,Y7,ren,↓reduceIte,J1,J2,J3,J4,J5,J6,J7,J8,J9,reduceCtorEq,K1,K2,K3,K4]
  · simp only [vx,T,K5,J0,K6,K7,↓reduceIte,J1,J2,J3,J4,J5,J6,J7,J8,J9,reduceCtorEq,K1,K2,K3,K4,ZV]
    refine Cg (rGCD_spec a.den b.den (by omega) (by omega)) ?_
    rw [eg]
    simp only [vx,T,K5,J0,K6,K7,↓reduceIte,J1,J2,J3,J4,J5,J6,J7,J8,J9,reduceCtorEq,K1,K2,K3,K4,ZV]
    refine Cg (rOne_spec g (by rw [zn_nat]; omega)) ?_
    simp only [vx,T,K5,J0,K6,K7,↓reduceIte,J1,J2,J3,J4,J5,J6,J7,J8,J9,reduceCtorEq,K1,K2,K3,K4,ZV]
    refine ⟨fun h5 => Lg ?_, fun h5 => Lg ?_⟩
    · obtain ⟨k3, k4⟩ := add_cop (a := a) (b := b) (by rw [← hg]; omega)
      simp only [vx,T,K5,J0,K6,K7,↓reduceIte,J1,J2,J3,J4,J5,J6,J7,J8,J9,reduceCtorEq,K1,K2,K3,K4,ZV]
      refine Cg (rMul_spec a.num b.den (by omega) (by omega)) ?_
      simp only [vx,T,K5,J0,K6,K7,↓reduceIte,J1,J2,J3,J4,J5,J6,J7,J8,J9,reduceCtorEq,K1,K2,K3,K4,ZV]
      refine Cg (rMul_spec b.num a.den (by omega) (by omega)) ?_
      simp only [vx,T,K5,J0,K6,K7,↓reduceIte,J1,J2,J3,J4,J5,J6,J7,J8,J9,reduceCtorEq,K1,K2,K3,K4,ZV]
      refine Cg (rAdd_spec (a.num * b.den) (b.num * a.den) (by omega) (by omega)) ?_
      simp only [vx,T,K5,J0,K6,K7,↓reduceIte,J1,J2,J3,J4,J5,J6,J7,J8,J9,reduceCtorEq,K1,K2,K3,K4,ZV]
      refine Cg (rMul_spec a.den b.den (by omega) (by omega)) ?_
      simp only [vx,T,K5,J0,K6,K7,↓reduceIte,J1,J2,J3,J4,J5,J6,J7,J8,J9,reduceCtorEq,K1,K2,K3,K4,ZV]
      rw [k3, k4, Int.natCast_mul]
      refine Va ?_; simp only [vLe,vLeL,rx,Y0,Y1,Y2,Y3,Y4,Y5,Y6,Y7,ren,↓reduceIte,J1,J2,J3,J4,J5,J6,J7,J8,J9,reduceCtorEq,K1,K2,K3,K4]
    · simp only [vx,T,K5,J0,K6,K7,↓reduceIte,J1,J2,J3,J4,J5,J6,J7,J8,J9,reduceCtorEq,K1,K2,K3,K4,ZV]
      refine Cg (rQuo_spec a.den g (by omega) (by rw [zn_nat]; omega) (by omega)) ?_
      rw [fdiv_nat]
      simp only [vx,T,K5,J0,K6,K7,↓reduceIte,J1,J2,J3,J4,J5,J6,J7,J8,J9,reduceCtorEq,K1,K2,K3,K4,ZV]
      refine Cg (rQuo_spec b.den g (by omega) (by rw [zn_nat]; omega) (by omega)) ?_
      rw [fdiv_nat]
      simp only [vx,T,K5,J0,K6,K7,↓reduceIte,J1,J2,J3,J4,J5,J6,J7,J8,J9,reduceCtorEq,K1,K2,K3,K4,ZV]
      refine Cg (rMul_spec a.num ((b.den / g : Nat) : Int) (by omega) (by rw [zn_nat]; omega)) ?_
      simp only [vx,T,K5,J0,K6,K7,↓reduceIte,J1,J2,J3,J4,J5,J6,J7,J8,J9,reduceCtorEq,K1,K2,K3,K4,ZV]
      refine Cg (rMul_spec b.num ((a.den / g : Nat) : Int) (by omega) (by rw [zn_nat]; omega)) ?_
      simp only [vx,T,K5,J0,K6,K7,↓reduceIte,J1,J2,J3,J4,J5,J6,J7,J8,J9,reduceCtorEq,K1,K2,K3,K4,ZV]
      refine Cg (rAdd_spec _ _ (Nat.lt_of_le_of_lt w1 (by omega)) (Nat.lt_of_le_of_lt w2 (by omega))) ?_
      rw [← hn]
      simp only [vx,T,K5,J0,K6,K7,↓reduceIte,J1,J2,J3,J4,J5,J6,J7,J8,J9,reduceCtorEq,K1,K2,K3,K4,ZV]
      refine Cg (rGCD_spec num g (by omega) (by rw [zn_nat]; omega)) ?_
      rw [eh]
      simp only [vx,T,K5,J0,K6,K7,↓reduceIte,J1,J2,J3,J4,J5,J6,J7,J8,J9,reduceCtorEq,K1,K2,K3,K4,ZV]
      refine Cg (rQuo_spec num h (by omega) (by rw [zn_nat]; omega) (by omega)) ?_
      rw [k1]
      simp only [vx,T,K5,J0,K6,K7,↓reduceIte,J1,J2,J3,J4,J5,J6,J7,J8,J9,reduceCtorEq,K1,K2,K3,K4,ZV]
      refine Cg (rQuo_spec b.den h (by omega) (by rw [zn_nat]; omega) (by omega)) ?_
      rw [fdiv_nat]
      simp only [vx,T,K5,J0,K6,K7,↓reduceIte,J1,J2,J3,J4,J5,J6,J7,J8,J9,reduceCtorEq,K1,K2,K3,K4,ZV]
      refine Cg (rMul_spec ((a.den / g : Nat) : Int) ((b.den / h : Nat) : Int) (by rw [zn_nat]; omega) (by rw [zn_nat]; omega)) ?_
      rw [← Int.natCast_mul, k2]
      simp only [vx,T,K5,J0,K6,K7,↓reduceIte,J1,J2,J3,J4,J5,J6,J7,J8,J9,reduceCtorEq,K1,K2,K3,K4,ZV]
      refine Va ?_; simp only [vLe,vLeL,rx,Y0,Y1,Y2,Y3,Y4,Y5,Y6,Y7,ren,↓reduceIte,J1,J2,J3,J4,J5,J6,J7,J8,J9,reduceCtorEq,K1,K2,K3,K4]
open Go Go.Eng
theorem ne_false_iff {z w : Int} (h : zs z ≠ zs w ∨ zn z ≠ zn w) : decide (z = w) = false := by
  refine decide_eq_false ?_
  rintro rfl
  rcases h with h | h <;> exact h rfl
theorem rSameInt_spec (z w : Int) (hz : zn z < 2 ^ 40) (hw : zn w < 2 ^ 40) : Pr Tryz.prog 71 [ZV z, ZV w] (.one (.bool (decide (z = w)))) := by
  refine pv T_ok mixed Tryz.func71 rfl (by decide) _ (by simp [Tryz.ntmps71]) ⟨[0, 1, 2, 3, 4, 5, 19, 24, 37], []⟩ (by kernel_rfl) _ ?_
  show vc T _ _ (Option.get! Tryz.f71.body) _ _
  simp only [Tryz.f71,Tryz.ntmps71,Option.get!,iS,iM,eO,J1]
  simp only [vx,T,K5,J0,K6,K7,↓reduceIte,J1,J2,J3,J4,J5,J6,J7,J8,J9,reduceCtorEq,K1,K2,K3,K4,ZV]
  refine ⟨fun h1 => Lg ?_, fun h1 => Lg ?_⟩
  · have hb := ne_false_iff (z := z) (w := w) (.inl (by simpa using h1))
    simp only [vx,T,K5,J0,K6,K7,↓reduceIte,J1,J2,J3,J4,J5,J6,J7,J8,J9,reduceCtorEq,K1,K2,K3,K4,ZV]
    exact vb hb.symm
  · have h1 : zs z = zs w := by simpa using h1
    simp only [vx,T,K5,J0,K6,K7,↓reduceIte,J1,J2,J3,J4,J5,J6,J7,J8,J9,reduceCtorEq,K1,K2,K3,K4,ZV]
    refine ⟨fun h2 => Lg ?_, fun h2 => Lg ?_⟩
    · rw [zm_length, zm_length] at h2
      have hb := ne_false_iff (z := z) (w := w) (.inr (by omega))
      simp only [vx,T,K5,J0,K6,K7,↓reduceIte,J1,J2,J3,J4,J5,J6,J7,J8,J9,reduceCtorEq,K1,K2,K3,K4,ZV]
      exact vb hb.symm
    · rw [zm_length, zm_length] at h2
      have h2' : zn z = zn w := by omega
      simp only [vx,T,K5,J0,K6,K7,↓reduceIte,J1,J2,J3,J4,J5,J6,J7,J8,J9,reduceCtorEq,K1,K2,K3,K4,ZV]
      refine Lk (fun y : {i : Nat // i ≤ zn z ∧ z.natAbs % BB ^ i = w.natAbs % BB ^ i} => ⟨[(2, .one (.ptr 1 0)), (3, .one (.ptr 2 0)), (4, .one (.bool false)), (5, .one (.int .i64 y.1))], [(1, ⟨.var [.bool (zs z), .ints .u32 (zm z)], true⟩), (2, ⟨.var [.bool (zs w), .ints .u32 (zm w)], true⟩)], 3, 38⟩) (fun y => zn z - y.1) ⟨0, by omega, by rw [Nat.pow_zero, Nat.mod_one, Nat.mod_one]⟩ ?_ (fun ⟨i, hi, he⟩ => ?_)
      · refine Sa ?_; simp only [rx,Y0,Y1,Y2,Y3,Y4,Y5,Y6,Y7,ren,↓reduceIte,J1,J2,J3,J4,J5,J6,J7,J8,J9,reduceCtorEq,K1,K2,K3,K4,Y8,Y9,X2,X3,X4]
      simp only [vx,T,K5,J0,K6,K7,↓reduceIte,J1,J2,J3,J4,J5,J6,J7,J8,J9,reduceCtorEq,K1,K2,K3,K4,zm_length]
      refine ⟨fun h3 => Lg ?_, fun h3 => Lg ?_⟩
      · have g1 : (zm z).getD i 0 = ((z.natAbs / BB ^ i % BB : Nat) : Int) := lG _ _
        have g2 : (zm w).getD i 0 = ((w.natAbs / BB ^ i % BB : Nat) : Int) := lG _ _
        have i1 := wI i (by omega)
        simp only [vx,T,K5,J0,K6,K7,↓reduceIte,J1,J2,J3,J4,J5,J6,J7,J8,J9,reduceCtorEq,K1,K2,K3,K4,zm_length]
        simp only [Int.toNat_natCast,g1,g2]
        refine ⟨by omega, by omega, ?_⟩
        refine ⟨fun h4 => Lg ?_, fun h4 => Lg ?_⟩
        · have hb : decide (z = w) = false := decide_eq_false (by rintro rfl; exact h4 rfl)
          simp only [vx,T,K5,J0,K6,K7,↓reduceIte,J1,J2,J3,J4,J5,J6,J7,J8,J9,reduceCtorEq,K1,K2,K3,K4,ZV]
          exact vb hb.symm
        · simp only [vx,T,K5,J0,K6,K7,↓reduceIte,J1,J2,J3,J4,J5,J6,J7,J8,J9,reduceCtorEq,K1,K2,K3,K4,ZV]
          simp only [i1]
          refine Lq ⟨i + 1, by omega, ?_⟩ ?_ ?_
          · rw [mod_next', mod_next', he, show z.natAbs / BB ^ i % BB = w.natAbs / BB ^ i % BB by omega]
          · refine Sa ?_; simp only [rx,Y0,Y1,Y2,Y3,Y4,Y5,Y6,Y7,ren,↓reduceIte,J1,J2,J3,J4,J5,J6,J7,J8,J9,reduceCtorEq,K1,K2,K3,K4,Y8,Y9,X2,X3,X4,ZV]
          · simp only; omega
      · simp only [vx,T,K5,J0,K6,K7,↓reduceIte,J1,J2,J3,J4,J5,J6,J7,J8,J9,reduceCtorEq,K1,K2,K3,K4,ZV]
        have hi' : i = zn z := by omega
        refine vb (decide_eq_true ?_).symm
        have e1 : z.natAbs % BB ^ i = z.natAbs := Nat.mod_eq_of_lt (by rw [hi']; exact lt_of_nl _)
        have e2 : w.natAbs % BB ^ i = w.natAbs := Nat.mod_eq_of_lt (by rw [hi', h2']; exact lt_of_nl _)
        rw [e1, e2] at he
        rw [← zof_self z, ← zof_self w, h1, he]
theorem rQSame_spec (a b : Rat) (ha : qm a < 2 ^ 38) (hb : qm b < 2 ^ 38) : Pr Tryz.prog 46 [QV a, QV b] (.one (.bool (decide (a = b)))) := by
  have n1 := zn_nat a.den
  have n2 := zn_nat b.den
  unfold qm at ha hb
  refine pv T_ok mixed Tryz.func46 rfl (by decide) _ (by simp [Tryz.ntmps46]) ⟨[0, 1, 2, 3, 4], []⟩ (by kernel_rfl) _ ?_
  show vc T _ _ (Option.get! Tryz.f46.body) _ _
  simp only [Tryz.f46,Tryz.ntmps46,Option.get!,iS,iM,eO,J1]
  simp only [vx,T,K5,J0,K6,K7,↓reduceIte,J1,J2,J3,J4,J5,J6,J7,J8,J9,reduceCtorEq,K1,K2,K3,K4,QV,QC]
  refine Cg (rSameInt_spec a.num b.num (by omega) (by omega)) ?_
  simp only [vx,T,K5,J0,K6,K7,↓reduceIte,J1,J2,J3,J4,J5,J6,J7,J8,J9,reduceCtorEq,K1,K2,K3,K4,ZV]
  refine ⟨fun h1 => Lg ?_, fun h1 => Lg ?_⟩
  · simp only [vx,T,K5,J0,K6,K7,↓reduceIte,J1,J2,J3,J4,J5,J6,J7,J8,J9,reduceCtorEq,K1,K2,K3,K4,ZV]
    refine Cg (rSameInt_spec a.den b.den (by omega) (by omega)) ?_
    simp only [vx,T,K5,J0,K6,K7,↓reduceIte,J1,J2,J3,J4,J5,J6,J7,J8,J9,reduceCtorEq,K1,K2,K3,K4,ZV]
    refine vb (decide_eq_decide.2 ?_)
    exact ⟨fun h => Rat.ext h1 (by omega), fun h => by rw [h]⟩
  · simp only [vx,T,K5,J0,K6,K7,↓reduceIte,J1,J2,J3,J4,J5,J6,J7,J8,J9,reduceCtorEq,K1,K2,K3,K4,ZV]
    refine vb (decide_eq_false ?_).symm
    rintro rfl
    exact h1 rfl
end Go.Proofs.YtllnmicmblbfaaaGreat
/-
  The order of lists of variables.
-/
namespace Go.Eng
open Go
theorem drop_getD {xs : List Int} {i : Nat} (h : i < xs.length) : xs.drop i = xs.getD i 0 :: xs.drop (i + 1) := by
  rw [List.drop_eq_getElem_cons h, X7, X8 h]; rfl
def cmpZ (x y : Int) : Int := if x < y then -1 else if y < x then 1 else 0
def cmpL : List Int → List Int → Int
  | [], [] => 0
  | [], _ :: _ => -1
  | _ :: _, [] => 1
  | x :: xs, y :: ys => if cmpZ x y = 0 then cmpL xs ys else cmpZ x y
def cmpV (a b : List Int) : Int := if cmpZ a.length b.length = 0 then cmpL a b else cmpZ a.length b.length
def befL : List Int → List Int → Int
  | x :: xs, y :: ys => if x = y then befL xs ys else IntKind.i64.wrap (x - y)
  | _, _ => 0
def bef (a b : List Int) : Int := if a.length = b.length then befL a b else (a.length : Int) - b.length
theorem cmpZ_zero {x y : Int} : cmpZ x y = 0 ↔ x = y := by unfold cmpZ; (repeat' split) <;> omega
theorem cmpZ_neg {x y : Int} : cmpZ x y < 0 ↔ x < y := by unfold cmpZ; (repeat' split) <;> omega
theorem cmpZ_swap (x y : Int) : cmpZ y x = - cmpZ x y := by unfold cmpZ; (repeat' split) <;> omega
theorem cmpL_zero : ∀ {a b : List Int}, cmpL a b = 0 ↔ a = b
  | [], [] => by simp [cmpL]
  | [], _ :: _ => by simp [cmpL]
  | _ :: _, [] => by simp [cmpL]
  | x :: xs, y :: ys => by
    have ih := cmpL_zero (a := xs) (b := ys)
    have hz := cmpZ_zero (x := x) (y := y)
    simp only [cmpL,List.cons.injEq]
    split
    · rename_i h; rw [ih]; simp [hz.1 h]
    · rename_i h
      refine ⟨fun h2 => absurd h2 h, fun h2 => absurd (hz.2 h2.1) h⟩
theorem cmpL_swap : ∀ (a b : List Int), cmpL b a = - cmpL a b
  | [], [] => by simp [cmpL]
  | [], _ :: _ => by simp [cmpL]
  | _ :: _, [] => by simp [cmpL]
  | x :: xs, y :: ys => by
    have ih := cmpL_swap xs ys
    have hz := cmpZ_swap x y
    simp only [cmpL]
    split <;> split <;> omega
theorem cmpL_trans : ∀ {a b c : List Int}, cmpL a b ≤ 0 → cmpL b c ≤ 0 → cmpL a c ≤ 0
  | [], _, [], _, _ => by simp [cmpL]
  | [], _, _ :: _, _, _ => by simp [cmpL]
  | _ :: _, [], _, h, _ => by simp [cmpL] at h
  | _ :: _, _ :: _, [], _, h => by simp [cmpL] at h
  | x :: xs, y :: ys, z :: zs, h1, h2 => by
    have ih := cmpL_trans (a := xs) (b := ys) (c := zs)
    simp only [cmpL] at *
    unfold cmpZ at *
    (repeat' split at h1) <;> (repeat' split at h2) <;> (repeat' split) <;> first | omega | (exact ih h1 h2) | (subst_vars; omega)
theorem cmpV_zero {a b : List Int} : cmpV a b = 0 ↔ a = b := by
  unfold cmpV
  split
  · exact cmpL_zero
  · rename_i h
    refine ⟨fun h2 => absurd h2 h, fun h2 => ?_⟩
    subst h2
    exact absurd (cmpZ_zero.2 rfl) h
theorem cmpV_swap (a b : List Int) : cmpV b a = - cmpV a b := by
  unfold cmpV
  rw [cmpZ_swap (a.length : Int) b.length, cmpL_swap a b]
  split <;> split <;> omega
theorem cmpV_trans {a b c : List Int} (h1 : cmpV a b ≤ 0) (h2 : cmpV b c ≤ 0) : cmpV a c ≤ 0 := by
  have := cmpL_trans (a := a) (b := b) (c := c)
  unfold cmpV cmpZ at *
  (repeat' split at h1) <;> (repeat' split at h2) <;> (repeat' split) <;> first | omega | (exact this h1 h2)
def In63 (a : List Int) : Prop := ∀ x ∈ a, 0 ≤ x ∧ x < 9223372036854775808
theorem befL_sgn : ∀ {a b : List Int}, In63 a → In63 b → a.length = b.length → (befL a b < 0 ↔ cmpL a b < 0) ∧ (befL a b = 0 ↔ a = b)
  | [], [], _, _, _ => by simp [befL, cmpL]
  | x :: xs, y :: ys, ha, hb, hl => by
    have ih := befL_sgn (a := xs) (b := ys) (fun z hz => ha z (by simp [hz])) (fun z hz => hb z (by simp [hz])) (by simpa using hl)
    have h1 := ha x (by simp)
    have h2 := hb y (by simp)
    simp only [befL,cmpL,List.cons.injEq]
    by_cases h : x = y
    · rw [if_pos h, if_pos (cmpZ_zero.2 h), ih.2]
      exact ⟨ih.1, by simp [h]⟩
    · have hw : IntKind.i64.wrap (x - y) = x - y := IntWalk.i64_in _ (by omega)
      rw [if_neg h, if_neg (fun e => h (cmpZ_zero.1 e)), hw, cmpZ_neg]
      refine ⟨by omega, by omega⟩
theorem bef_sgn {a b : List Int} (ha : In63 a) (hb : In63 b) : (bef a b < 0 ↔ cmpV a b < 0) ∧ (bef a b = 0 ↔ a = b) := by
  unfold bef cmpV
  split
  · rename_i h
    rw [if_pos (cmpZ_zero.2 (by omega))]
    exact befL_sgn ha hb h
  · rename_i h
    rw [if_neg (fun e => h (by have := cmpZ_zero.1 e; omega)), cmpZ_neg]
    refine ⟨by omega, ⟨fun e => absurd e (by omega), fun e => absurd (by rw [e]) h⟩⟩
end Go.Eng
namespace Go.Proofs.YtllnmicmblbfaaaGreat
open Go Go.Eng
theorem cmpI_Z (x y : Int) : cmpI x y = cmpZ x y := rfl
theorem befL_nil (a b : List Int) (h : a = []) : befL a b = 0 := by subst h; rfl
theorem before_spec (a b : List Int) (ha : a.length < 2 ^ 40) (hb : b.length < 2 ^ 40) : Pr Tryz.prog 45 [.one (.ints .i64 a), .one (.ints .i64 b)] (.one (.int .i64 (bef a b))) := by
  refine pv T_ok mixed Tryz.func45 rfl (by decide) _ (by simp [Tryz.ntmps45]) ⟨[0, 1, 4, 5, 10, 19, 30], []⟩ (by kernel_rfl) _ ?_
  show vc T _ _ (Option.get! Tryz.f45.body) _ _
  simp only [Tryz.f45,Tryz.ntmps45,Option.get!,iS,iM,eO,J1]
  simp only [vx,T,K5,J0,K6,K7,↓reduceIte,J1,J2,J3,J4,J5,J6,J7,J8,J9,reduceCtorEq,K1,K2,K3,K4]
  refine ⟨fun h1 => Lg ?_, fun h1 => Lg ?_⟩
  · have e1 : bef a b = (a.length : Int) - b.length := by unfold bef; rw [if_neg (by omega)]
    have e2 : IntKind.i64.wrap ((a.length : Int) - b.length) = (a.length : Int) - b.length := IntWalk.i64_in _ (by omega)
    simp only [vx,T,K5,J0,K6,K7,↓reduceIte,J1,J2,J3,J4,J5,J6,J7,J8,J9,reduceCtorEq,K1,K2,K3,K4]
    rw [e1, e2]
    exact Ve rfl
  · have hl : a.length = b.length := by omega
    have e1 : bef a b = befL a b := by unfold bef; rw [if_pos hl]
    rw [e1]
    simp only [vx,T,K5,J0,K6,K7,↓reduceIte,J1,J2,J3,J4,J5,J6,J7,J8,J9,reduceCtorEq,K1,K2,K3,K4]
    refine Lk (fun y : {i : Nat // i ≤ a.length ∧ befL a b = befL (a.drop i) (b.drop i)} => ⟨[(0, .one (.ints .i64 a)), (1, .one (.ints .i64 b)), (4, .one (.int .i64 0)), (5, .one (.int .i64 y.1))], [], 1, 40⟩) (fun y => a.length - y.1) ⟨0, by omega, rfl⟩ ?_ (fun ⟨i, hi, he⟩ => ?_)
    · refine Sa ?_; simp only [rx,Y0,Y1,Y2,Y3,Y4,Y5,Y6,Y7,ren,↓reduceIte,J1,J2,J3,J4,J5,J6,J7,J8,J9,reduceCtorEq,K1,K2,K3,K4,Y8,Y9,X2,X3,X4]
    simp only [vx,T,K5,J0,K6,K7,↓reduceIte,J1,J2,J3,J4,J5,J6,J7,J8,J9,reduceCtorEq,K1,K2,K3,K4]
    refine ⟨fun h2 => Lg ?_, fun h2 => Lg ?_⟩
    · have hia : i < a.length := by omega
      have hib : i < b.length := by omega
      have i1 := wI i (by omega)
      rw [drop_getD hia, drop_getD hib] at he
      simp only [befL] at he
      simp only [vx,T,K5,J0,K6,K7,↓reduceIte,J1,J2,J3,J4,J5,J6,J7,J8,J9,reduceCtorEq,K1,K2,K3,K4]
      refine ⟨by omega, by omega, ?_⟩
      refine ⟨fun h3 => Lg ?_, fun h3 => Lg ?_⟩
      · rw [if_neg h3] at he
        simp only [vx,T,K5,J0,K6,K7,↓reduceIte,J1,J2,J3,J4,J5,J6,J7,J8,J9,reduceCtorEq,K1,K2,K3,K4]
        refine ⟨by omega, by omega, ?_⟩
        rw [he]
        exact Ve rfl
      · rw [if_pos (by omega)] at he
        simp only [vx,T,K5,J0,K6,K7,↓reduceIte,J1,J2,J3,J4,J5,J6,J7,J8,J9,reduceCtorEq,K1,K2,K3,K4]
        simp only [i1]
        refine Lq ⟨i + 1, by omega, he⟩ ?_ ?_
        · refine Sa ?_; simp only [rx,Y0,Y1,Y2,Y3,Y4,Y5,Y6,Y7,ren,↓reduceIte,J1,J2,J3,J4,J5,J6,J7,J8,J9,reduceCtorEq,K1,K2,K3,K4,Y8,Y9,X2,X3,X4]
        · simp only; omega
    · simp only [vx,T,K5,J0,K6,K7,↓reduceIte,J1,J2,J3,J4,J5,J6,J7,J8,J9,reduceCtorEq,K1,K2,K3,K4]
      rw [he, befL_nil _ _ (List.drop_eq_nil_of_le (by omega))]
      exact Ve rfl
theorem CompareL_spec (a b : List Int) (ha : a.length < 2 ^ 40) (hb : b.length < 2 ^ 40) : Pr Tryz.prog 65 [.one (.ints .i64 a), .one (.ints .i64 b)] (.one (.int .i64 (cmpL a b))) := by
  refine pv T_ok mixed Tryz.func65 rfl (by decide) _ (by simp [Tryz.ntmps65]) ⟨[0, 1, 4, 5, 6, 7, 8, 9, 10, 11, 12, 19, 28, 35], []⟩ (by kernel_rfl) _ ?_
  show vc T _ _ (Option.get! Tryz.f65.body) _ _
  simp only [Tryz.f65,Tryz.ntmps65,Option.get!,iS,iM,eO,J1]
  simp only [vx,T,K5,J0,K6,K7,↓reduceIte,J1,J2,J3,J4,J5,J6,J7,J8,J9,reduceCtorEq,K1,K2,K3,K4]
  refine Lk (fun y : {i : Nat // i ≤ a.length ∧ i ≤ b.length ∧ cmpL a b = cmpL (a.drop i) (b.drop i)} => ⟨[(0, .one (.ints .i64 a)), (1, .one (.ints .i64 b)), (4, .one (.int .i64 0)), (9, .one (.ints .i64 a)), (10, .one (.int .i64 a.length)), (11, .one (.int .i64 y.1))], [], 1, 36⟩) (fun y => a.length - y.1) ⟨0, by omega, by omega, rfl⟩ ?_ (fun ⟨i, hi, hi2, he⟩ => ?_)
  · refine Sa ?_; simp only [rx,Y0,Y1,Y2,Y3,Y4,Y5,Y6,Y7,ren,↓reduceIte,J1,J2,J3,J4,J5,J6,J7,J8,J9,reduceCtorEq,K1,K2,K3,K4,Y8,Y9,X2,X3,X4]
  simp only [vx,T,K5,J0,K6,K7,↓reduceIte,J1,J2,J3,J4,J5,J6,J7,J8,J9,reduceCtorEq,K1,K2,K3,K4]
  refine ⟨fun h2 => Lg ?_, fun h2 => Lg ?_⟩
  · have hia : i < a.length := by omega
    rw [drop_getD hia] at he
    simp only [vx,T,K5,J0,K6,K7,↓reduceIte,J1,J2,J3,J4,J5,J6,J7,J8,J9,reduceCtorEq,K1,K2,K3,K4]
    refine ⟨by omega, ?_⟩
    refine ⟨fun h3 => Lg ?_, fun h3 => Lg ?_⟩
    · rw [List.drop_eq_nil_of_le (show b.length ≤ i by omega)] at he
      simp only [vx,T,K5,J0,K6,K7,↓reduceIte,J1,J2,J3,J4,J5,J6,J7,J8,J9,reduceCtorEq,K1,K2,K3,K4]
      rw [he]
      exact Ve rfl
    · have hib : i < b.length := by omega
      have i1 := wI i (by omega)
      rw [drop_getD hib] at he
      simp only [cmpL] at he
      simp only [vx,T,K5,J0,K6,K7,↓reduceIte,J1,J2,J3,J4,J5,J6,J7,J8,J9,reduceCtorEq,K1,K2,K3,K4]
      refine ⟨by omega, Cg (Compare_i64_spec _ _) ?_⟩
      rw [cmpI_Z]
      simp only [vx,T,K5,J0,K6,K7,↓reduceIte,J1,J2,J3,J4,J5,J6,J7,J8,J9,reduceCtorEq,K1,K2,K3,K4]
      refine ⟨fun h4 => Lg ?_, fun h4 => Lg ?_⟩
      · rw [if_neg h4] at he
        simp only [vx,T,K5,J0,K6,K7,↓reduceIte,J1,J2,J3,J4,J5,J6,J7,J8,J9,reduceCtorEq,K1,K2,K3,K4]
        rw [he]
        exact Ve rfl
      · rw [if_pos (by omega)] at he
        simp only [vx,T,K5,J0,K6,K7,↓reduceIte,J1,J2,J3,J4,J5,J6,J7,J8,J9,reduceCtorEq,K1,K2,K3,K4]
        simp only [i1]
        refine Lq ⟨i + 1, by omega, by omega, he⟩ ?_ ?_
        · refine Sa ?_; simp only [rx,Y0,Y1,Y2,Y3,Y4,Y5,Y6,Y7,ren,↓reduceIte,J1,J2,J3,J4,J5,J6,J7,J8,J9,reduceCtorEq,K1,K2,K3,K4,Y8,Y9,X2,X3,X4]
        · simp only; omega
  · rw [List.drop_eq_nil_of_le (show a.length ≤ i by omega)] at he
    simp only [vx,T,K5,J0,K6,K7,↓reduceIte,J1,J2,J3,J4,J5,J6,J7,J8,J9,reduceCtorEq,K1,K2,K3,K4]
    refine ⟨fun h3 => Lg ?_, fun h3 => Lg ?_⟩
    · simp only [vx,T,K5,J0,K6,K7,↓reduceIte,J1,J2,J3,J4,J5,J6,J7,J8,J9,reduceCtorEq,K1,K2,K3,K4]
      rw [he]
      cases hd : b.drop i with
      | nil => have := List.drop_eq_nil_iff.1 hd; omega
      | cons y ys => exact Ve rfl
    · simp only [vx,T,K5,J0,K6,K7,↓reduceIte,J1,J2,J3,J4,J5,J6,J7,J8,J9,reduceCtorEq,K1,K2,K3,K4]
      rw [he, List.drop_eq_nil_of_le (by omega)]
      exact Ve rfl
theorem compareV_spec (a b : List Int) (ha : a.length < 2 ^ 40) (hb : b.length < 2 ^ 40) : Pr Tryz.prog 32 [.one (.ints .i64 a), .one (.ints .i64 b)] (.one (.int .i64 (cmpV a b))) := by
  refine pv T_ok mixed Tryz.func32 rfl (by decide) _ (by simp [Tryz.ntmps32]) ⟨[0, 1, 4, 5, 12], []⟩ (by kernel_rfl) _ ?_
  show vc T _ _ (Option.get! Tryz.f32.body) _ _
  simp only [Tryz.f32,Tryz.ntmps32,Option.get!,iS,iM,eO,J1]
  simp only [vx,T,K5,J0,K6,K7,↓reduceIte,J1,J2,J3,J4,J5,J6,J7,J8,J9,reduceCtorEq,K1,K2,K3,K4]
  refine Cg (Compare_i64_spec _ _) ?_
  rw [cmpI_Z]
  simp only [vx,T,K5,J0,K6,K7,↓reduceIte,J1,J2,J3,J4,J5,J6,J7,J8,J9,reduceCtorEq,K1,K2,K3,K4]
  refine ⟨fun h1 => Lg ?_, fun h1 => Lg ?_⟩
  · have e1 : cmpV a b = cmpZ a.length b.length := by unfold cmpV; rw [if_neg h1]
    simp only [vx,T,K5,J0,K6,K7,↓reduceIte,J1,J2,J3,J4,J5,J6,J7,J8,J9,reduceCtorEq,K1,K2,K3,K4]
    rw [e1]
    exact Ve rfl
  · have e1 : cmpV a b = cmpL a b := by unfold cmpV; rw [if_pos (by omega)]
    simp only [vx,T,K5,J0,K6,K7,↓reduceIte,J1,J2,J3,J4,J5,J6,J7,J8,J9,reduceCtorEq,K1,K2,K3,K4]
    refine Cg (CompareL_spec a b ha hb) ?_
    simp only [vx,T,K5,J0,K6,K7,↓reduceIte,J1,J2,J3,J4,J5,J6,J7,J8,J9,reduceCtorEq,K1,K2,K3,K4]
    rw [e1]
    exact Ve rfl
end Go.Proofs.YtllnmicmblbfaaaGreat
/-
  Polynomials as lists of monomials.
-/
namespace Go.Eng
open Go
abbrev Mono := Rat × List Int
structure MOk (m : Mono) : Prop where
  q : qm m.1 < 2 ^ 30
  len : m.2.length < 2 ^ 30
  inr : In63 m.2
def POk (p : List Mono) : Prop := p.length < 2 ^ 30 ∧ ∀ m ∈ p, MOk m
theorem qm_ofInt {z : Int} (h : z.natAbs < 18446744073709551616) : qm (Rat.ofInt z) ≤ 2 := by
  have h1 : zn z ≤ 2 := nl_le_of_lt (by unfold BB; omega)
  have h2 : nl 1 ≤ 1 := nl_le_of_lt (by decide)
  unfold qm
  rw [Rat.ofInt_num, Rat.ofInt_den]
  omega
theorem MOk.zero : MOk default := ⟨Nat.lt_of_le_of_lt (qm_ofInt (z := 0) (by decide)) (by decide), by decide, fun x hx => by cases hx⟩
theorem POk.get {p : List Mono} (h : POk p) (i : Nat) : MOk (p.getD i default) := by
  rw [X7]
  cases hg : p[i]? with
  | none => exact MOk.zero
  | some m => exact h.2 m (List.mem_of_getElem? hg)
theorem drop_getD' {α : Type} [Inhabited α] {xs : List α} {i : Nat} (h : i < xs.length) : xs.drop i = xs.getD i default :: xs.drop (i + 1) := by
  rw [List.drop_eq_getElem_cons h, X7, X8 h]; rfl
end Go.Eng
namespace Go.Proofs.YtllnmicmblbfaaaGreat
open Go Go.Eng
def mC (m : Mono) : Nat → C
  | 0 => .bool (zs m.1.num)
  | 1 => .ints .u32 (zm m.1.num)
  | 2 => .bool (zs (m.1.den : Int))
  | 3 => .ints .u32 (zm (m.1.den : Int))
  | 4 => .ints .i64 m.2
  | _ => .any
def MV (m : Mono) : V := .agg [mC m 0, mC m 1, mC m 2, mC m 3, mC m 4]
def PC (p : List Mono) : C := .rows 5 p.length (fun i => mC (p.getD i default))
def PV (p : List Mono) : V := .one (PC p)
theorem Same_spec (p q : List Mono) (hp : POk p) (hq : POk q) : Pr Tryz.prog 11 [PV p, PV q] (.one (.bool (decide (p = q)))) := by
  obtain ⟨hpl, hpm⟩ := id hp
  obtain ⟨hql, hqm⟩ := id hq
  refine pv T_ok mixed Tryz.func11 rfl (by decide) _ (by simp [Tryz.ntmps11]) ⟨[0, 1, 4, 5, 10, 14, 42], []⟩ (by kernel_rfl) _ ?_
  show vc T _ _ (Option.get! Tryz.f11.body) _ _
  simp only [Tryz.f11,Tryz.ntmps11,Option.get!,iS,iM,eO,J1]
  simp only [vx,T,K5,J0,K6,K7,↓reduceIte,J1,J2,J3,J4,J5,J6,J7,J8,J9,reduceCtorEq,K1,K2,K3,K4,PV,PC]
  refine ⟨fun h1 => Lg ?_, fun h1 => Lg ?_⟩
  · simp only [vx,T,K5,J0,K6,K7,↓reduceIte,J1,J2,J3,J4,J5,J6,J7,J8,J9,reduceCtorEq,K1,K2,K3,K4]
    refine vb (decide_eq_false ?_).symm
    rintro rfl
    exact h1 rfl
  · have hl : p.length = q.length := by omega
    simp only [vx,T,K5,J0,K6,K7,↓reduceIte,J1,J2,J3,J4,J5,J6,J7,J8,J9,reduceCtorEq,K1,K2,K3,K4,PV,PC]
    refine Lk (fun y : {i : Nat // i ≤ p.length ∧ (p = q ↔ p.drop i = q.drop i)} => ⟨[(0, PV p), (1, PV q), (4, .one (.bool false)), (5, .one (.int .i64 y.1))], [], 1, 43⟩) (fun y => p.length - y.1) ⟨0, by omega, Iff.rfl⟩ ?_ (fun ⟨i, hi, he⟩ => ?_)
    · refine Sa ?_; simp only [rx,Y0,Y1,Y2,Y3,Y4,Y5,Y6,Y7,ren,↓reduceIte,J1,J2,J3,J4,J5,J6,J7,J8,J9,reduceCtorEq,K1,K2,K3,K4,Y8,Y9,X2,X3,X4,PV,PC]
    simp only [vx,T,K5,J0,K6,K7,↓reduceIte,J1,J2,J3,J4,J5,J6,J7,J8,J9,reduceCtorEq,K1,K2,K3,K4,PV,PC]
    refine ⟨fun h2 => Lg ?_, fun h2 => Lg ?_⟩
    · have hip : i < p.length := by omega
      have hiq : i < q.length := by omega
      have i1 := wI i (by omega)
      rw [drop_getD' hip, drop_getD' hiq, List.cons.injEq] at he
      have m1 := hp.get i
      have m2 := hq.get i
      obtain ⟨a, ha⟩ : ∃ a, a = p.getD i default := ⟨_, rfl⟩
      obtain ⟨b, hb⟩ : ∃ b, b = q.getD i default := ⟨_, rfl⟩
      rw [← ha] at m1 he
      rw [← hb] at m2 he
      obtain ⟨e1, e2⟩ := bef_sgn m1.inr m2.inr
      simp only [vx,T,K5,J0,K6,K7,↓reduceIte,J1,J2,J3,J4,J5,J6,J7,J8,J9,reduceCtorEq,K1,K2,K3,K4,PV,PC,← ha,← hb,mC]
      refine ⟨by omega, by omega, Cg (before_spec a.2 b.2 (Nat.lt_trans m1.len (by decide)) (Nat.lt_trans m2.len (by decide))) ?_⟩
      simp only [vx,T,K5,J0,K6,K7,↓reduceIte,J1,J2,J3,J4,J5,J6,J7,J8,J9,reduceCtorEq,K1,K2,K3,K4]
      refine ⟨fun h3 => Lg ?_, fun h3 => Lg ?_⟩
      · rw [e2] at h3
        simp only [vx,T,K5,J0,K6,K7,↓reduceIte,J1,J2,J3,J4,J5,J6,J7,J8,J9,reduceCtorEq,K1,K2,K3,K4]
        refine vb (decide_eq_false ?_).symm
        rw [he]
        rintro ⟨rfl, _⟩
        exact h3 rfl
      · have h3 : a.2 = b.2 := e2.1 (by omega)
        simp only [vx,T,K5,J0,K6,K7,↓reduceIte,J1,J2,J3,J4,J5,J6,J7,J8,J9,reduceCtorEq,K1,K2,K3,K4,← ha,← hb,mC]
        refine ⟨by omega, by omega, Cg (rQSame_spec a.1 b.1 (Nat.lt_trans m1.q (by decide)) (Nat.lt_trans m2.q (by decide))) ?_⟩
        simp only [vx,T,K5,J0,K6,K7,↓reduceIte,J1,J2,J3,J4,J5,J6,J7,J8,J9,reduceCtorEq,K1,K2,K3,K4]
        refine ⟨fun h4 => Lg ?_, fun h4 => Lg ?_⟩
        · simp only [vx,T,K5,J0,K6,K7,↓reduceIte,J1,J2,J3,J4,J5,J6,J7,J8,J9,reduceCtorEq,K1,K2,K3,K4]
          refine vb (decide_eq_false ?_).symm
          rw [he]
          rintro ⟨rfl, _⟩
          simp at h4
        · have h4 : a = b := Prod.ext (by simpa using h4) h3
          simp only [vx,T,K5,J0,K6,K7,↓reduceIte,J1,J2,J3,J4,J5,J6,J7,J8,J9,reduceCtorEq,K1,K2,K3,K4]
          simp only [i1]
          refine Lq ⟨i + 1, by omega, by rw [he]; exact ⟨fun h => h.2, fun h => ⟨h4, h⟩⟩⟩ ?_ ?_
          · refine Sa ?_; simp only [rx,Y0,Y1,Y2,Y3,Y4,Y5,Y6,Y7,ren,↓reduceIte,J1,J2,J3,J4,J5,J6,J7,J8,J9,reduceCtorEq,K1,K2,K3,K4,Y8,Y9,X2,X3,X4,PV,PC]
          · simp only; omega
    · simp only [vx,T,K5,J0,K6,K7,↓reduceIte,J1,J2,J3,J4,J5,J6,J7,J8,J9,reduceCtorEq,K1,K2,K3,K4]
      refine vb (decide_eq_true ?_).symm
      rw [he, List.drop_eq_nil_of_le (show p.length ≤ i by omega), List.drop_eq_nil_of_le (show q.length ≤ i by omega)]
end Go.Proofs.YtllnmicmblbfaaaGreat
/-
  Monomials of any words: what the two Valid accept.
-/
namespace Go.Eng
open Go
structure Raw where
  s : Bool
  xs : List Int
  t : Bool
  ys : List Int
  vs : List Int
deriving Inhabited
def InI (a : List Int) : Prop := ∀ x ∈ a, -9223372036854775808 ≤ x ∧ x < 9223372036854775808
structure ROk (m : Raw) : Prop where
  x : InR m.xs
  y : InR m.ys
  xl : m.xs.length < 2 ^ 30
  yl : m.ys.length < 2 ^ 30
  v : InI m.vs
  vl : m.vs.length < 2 ^ 30
def RsOk (p : List Raw) : Prop := p.length < 2 ^ 30 ∧ ∀ m ∈ p, ROk m
theorem ROk.zero : ROk default := ⟨InR.nil, InR.nil, by decide, by decide, (fun x hx => by cases hx), by decide⟩
theorem RsOk.get {p : List Raw} (h : RsOk p) (i : Nat) : ROk (p.getD i default) := by
  rw [X7]
  cases hg : p[i]? with
  | none => exact ROk.zero
  | some m => exact h.2 m (List.mem_of_getElem? hg)
theorem all_range {n : Nat} {f : Nat → Bool} : (List.range n).all f = true ↔ ∀ i, i < n → f i = true := by
  simp [List.all_eq_true]
theorem all_range_f {n : Nat} {f : Nat → Bool} {i : Nat} (h : i < n) (hf : f i = false) : (List.range n).all f = false := by
  cases hr : (List.range n).all f with
  | false => rfl
  | true => have := all_range.1 hr i h; rw [hf] at this; cases this
def ascB (vs : List Int) : Bool := (List.range vs.length).all fun k => decide (0 ≤ vs.getD k 0) && (decide (k = 0) || decide (vs.getD (k - 1) 0 ≤ vs.getD k 0))
end Go.Eng
namespace Go.Proofs.YtllnmicmblbfaaaGreat
open Go Go.Eng
def rC (m : Raw) : Nat → C
  | 0 => .bool m.s
  | 1 => .ints .u32 m.xs
  | 2 => .bool m.t
  | 3 => .ints .u32 m.ys
  | 4 => .ints .i64 m.vs
  | _ => .any
def RC (p : List Raw) : C := .rows 5 p.length (fun i => rC (p.getD i default))
def RV (p : List Raw) : V := .one (RC p)
def okM (m : Raw) : Bool := okQ m.s m.xs m.t m.ys && decide (val m.xs ≠ 0)
def gB (p : List Raw) (i : Nat) : Bool := okM (p.getD i default) && (ascB (p.getD i default).vs && (decide (i = 0) || decide (cmpV (p.getD (i - 1) default).vs (p.getD i default).vs < 0)))
def vR (p : List Raw) : Bool := (List.range p.length).all (gB p)
theorem okQ_ex {s t : Bool} {xs ys : List Int} (h : okQ s xs t ys = true) : ∃ q : Rat, s = zs q.num ∧ xs = zm q.num ∧ t = zs (q.den : Int) ∧ ys = zm (q.den : Int) := by
  obtain ⟨q, hq⟩ := okQ_of h
  unfold QC at hq
  simp only [List.cons.injEq,C.bool.injEq,C.ints.injEq,and_true,true_and] at hq
  exact ⟨q, hq⟩
open Go Go.Eng
theorem sgn_zero {z : Int} : sgn z = 0 ↔ z = 0 := by unfold sgn; (repeat' split) <;> omega
open Go Go.Eng
def sortK (vs : List Int) (k : Nat) : Bool := decide (k = 0) || decide (vs.getD (k - 1) 0 ≤ vs.getD k 0)
def sortB (vs : List Int) : Bool := (List.range vs.length).all (sortK vs)
theorem sort_asc {vs : List Int} (h : sortB vs = true) (h0 : vs.length ≠ 0 → 0 ≤ vs.getD 0 0) : ascB vs = true := by
  have hs := all_range.1 h
  have key : ∀ k, k < vs.length → 0 ≤ vs.getD k 0 := by
    intro k
    induction k with
    | zero => intro hk; exact h0 (by omega)
    | succ k ih =>
      intro hk
      have h1 := ih (by omega)
      have h2 := hs (k + 1) hk
      unfold sortK at h2
      simp only [Nat.add_one_sub_one,Bool.or_eq_true,decide_eq_true_eq] at h2
      rcases h2 with h2 | h2 <;> omega
  refine all_range.2 fun k hk => ?_
  have h1 := key k hk
  have h2 := hs k hk
  unfold sortK at h2
  rw [h2, decide_eq_true h1]; rfl
theorem asc_sort {vs : List Int} (h : ascB vs = true) : sortB vs = true ∧ (vs.length ≠ 0 → 0 ≤ vs.getD 0 0) := by
  have hs := all_range.1 h
  refine ⟨all_range.2 fun k hk => ?_, fun h0 => ?_⟩
  · have := hs k hk
    rw [Bool.and_eq_true] at this
    exact this.2
  · have := hs 0 (by omega)
    rw [Bool.and_eq_true, decide_eq_true_eq] at this
    exact this.1
theorem Less_spec (x y : Int) : Pr Tryz.prog 63 [.one (.int .i64 x), .one (.int .i64 y)] (.one (.bool (decide (x < y)))) := by
  refine pv T_ok mixed Tryz.func63 rfl (by decide) _ (by simp [Tryz.ntmps63]) ⟨[0, 1, 4], []⟩ (by kernel_rfl) _ ?_
  show vc T _ _ (Option.get! Tryz.f63.body) _ _
  simp only [Tryz.f63,Tryz.ntmps63,Option.get!,iS,iM,eO,J1]
  simp only [vx,T,K5,J0,K6,K7,↓reduceIte,J1,J2,J3,J4,J5,J6,J7,J8,J9,reduceCtorEq,K1,K2,K3,K4]
  refine Cg (isNaN_i64_spec x) ?_
  simp only [vx,T,K5,J0,K6,K7,↓reduceIte,J1,J2,J3,J4,J5,J6,J7,J8,J9,reduceCtorEq,K1,K2,K3,K4]
  exact Ve rfl
theorem IsSorted_spec (vs : List Int) (hl : vs.length < 2 ^ 40) : Pr Tryz.prog 31 [.one (.ints .i64 vs)] (.one (.bool (sortB vs))) := by
  have i0 : IntKind.i64.wrap ((vs.length : Int) - 1) = (vs.length : Int) - 1 := IntWalk.i64_in _ (by omega)
  have hB : sortB vs = (List.range vs.length).all (sortK vs) := rfl
  refine pv T_ok mixed Tryz.func31 rfl (by decide) _ (by simp [Tryz.ntmps31]) ⟨[0, 2, 3, 8, 20], []⟩ (by kernel_rfl) _ ?_
  show vc T _ _ (Option.get! Tryz.f31.body) _ _
  simp only [Tryz.f31,Tryz.ntmps31,Option.get!,iS,iM,eO,J1]
  simp only [vx,T,K5,J0,K6,K7,↓reduceIte,J1,J2,J3,J4,J5,J6,J7,J8,J9,reduceCtorEq,K1,K2,K3,K4,i0]
  refine Lk (fun y : {i : Int // -1 ≤ i ∧ i < vs.length ∧ ∀ j : Nat, i < j → j < vs.length → sortK vs j = true} => ⟨[(0, .one (.ints .i64 vs)), (2, .one (.bool false)), (3, .one (.int .i64 y.1))], [], 1, 21⟩) (fun y => (y.1 + 1).toNat) ⟨(vs.length : Int) - 1, by omega, by omega, fun j h1 h2 => by omega⟩ ?_ (fun ⟨i, hi, hi2, he⟩ => ?_)
  · refine Sa ?_; simp only [rx,Y0,Y1,Y2,Y3,Y4,Y5,Y6,Y7,ren,↓reduceIte,J1,J2,J3,J4,J5,J6,J7,J8,J9,reduceCtorEq,K1,K2,K3,K4,Y8,Y9,X2,X3,X4]
  simp only [vx,T,K5,J0,K6,K7,↓reduceIte,J1,J2,J3,J4,J5,J6,J7,J8,J9,reduceCtorEq,K1,K2,K3,K4]
  refine ⟨fun h1 => Lg ?_, fun h1 => Lg ?_⟩
  · obtain ⟨k, rfl⟩ : ∃ k : Nat, i = k := ⟨i.toNat, by omega⟩
    have i1 : IntKind.i64.wrap ((k : Int) - 1) = ((k - 1 : Nat) : Int) := by rw [IntWalk.i64_in _ (by omega)]; omega
    have hk : sortK vs k = (decide (k = 0) || decide (vs.getD (k - 1) 0 ≤ vs.getD k 0)) := rfl
    simp only [vx,T,K5,J0,K6,K7,↓reduceIte,J1,J2,J3,J4,J5,J6,J7,J8,J9,reduceCtorEq,K1,K2,K3,K4,i1]
    refine ⟨by omega, by omega, Cg (Less_spec _ _) ?_⟩
    simp only [vx,T,K5,J0,K6,K7,↓reduceIte,J1,J2,J3,J4,J5,J6,J7,J8,J9,reduceCtorEq,K1,K2,K3,K4]
    refine ⟨fun h2 => Lg ?_, fun h2 => Lg ?_⟩
    · simp only [vx,T,K5,J0,K6,K7,↓reduceIte,J1,J2,J3,J4,J5,J6,J7,J8,J9,reduceCtorEq,K1,K2,K3,K4]
      refine vb (all_range_f (i := k) (by omega) ?_).symm
      rw [hk, decide_eq_false (by omega), decide_eq_false (p := vs.getD (k - 1) 0 ≤ vs.getD k 0) (by omega)]; rfl
    · simp only [vx,T,K5,J0,K6,K7,↓reduceIte,J1,J2,J3,J4,J5,J6,J7,J8,J9,reduceCtorEq,K1,K2,K3,K4,i1]
      refine Lq ⟨((k - 1 : Nat) : Int), by omega, by omega, fun j h3 h4 => ?_⟩ ?_ ?_
      · by_cases hj : j = k
        · subst hj
          rw [hk, decide_eq_true (p := vs.getD (j - 1) 0 ≤ vs.getD j 0) (by omega), Bool.or_true]
        · exact he j (by omega) h4
      · refine Sa ?_; simp only [rx,Y0,Y1,Y2,Y3,Y4,Y5,Y6,Y7,ren,↓reduceIte,J1,J2,J3,J4,J5,J6,J7,J8,J9,reduceCtorEq,K1,K2,K3,K4,Y8,Y9,X2,X3,X4]
      · simp only; omega
  · simp only [vx,T,K5,J0,K6,K7,↓reduceIte,J1,J2,J3,J4,J5,J6,J7,J8,J9,reduceCtorEq,K1,K2,K3,K4]
    refine vb (all_range.2 fun j hj => ?_).symm
    by_cases hj0 : j = 0
    · subst hj0; rfl
    · exact he j (by omega) hj
theorem ePValid_spec (p : List Raw) (hp : RsOk p) : Pr Tryz.prog 7 [RV p] (.one (.bool (vR p))) := by
  obtain ⟨hpl, hpm⟩ := id hp
  have hvR : vR p = (List.range p.length).all (gB p) := rfl
  refine pv T_ok mixed Tryz.func7 rfl (by decide) _ (by simp [Tryz.ntmps7]) ⟨[0, 2, 3, 4, 5, 6, 7, 8, 40, 54], []⟩ (by kernel_rfl) _ ?_
  show vc T _ _ (Option.get! Tryz.f7.body) _ _
  simp only [Tryz.f7,Tryz.ntmps7,Option.get!,iS,iM,eO,J1]
  simp only [vx,T,K5,J0,K6,K7,↓reduceIte,J1,J2,J3,J4,J5,J6,J7,J8,J9,reduceCtorEq,K1,K2,K3,K4,RV,RC]
  refine Lk (fun y : {i : Nat // i ≤ p.length ∧ ∀ j, j < i → gB p j = true} => ⟨[(0, RV p), (2, .one (.bool false)), (5, RV p), (6, .one (.int .i64 p.length)), (7, .one (.int .i64 y.1))], [], 1, 56⟩) (fun y => p.length - y.1) ⟨0, by omega, fun j hj => by omega⟩ ?_ (fun ⟨i, hi, he⟩ => ?_)
  · refine Sa ?_; simp only [rx,Y0,Y1,Y2,Y3,Y4,Y5,Y6,Y7,ren,↓reduceIte,J1,J2,J3,J4,J5,J6,J7,J8,J9,reduceCtorEq,K1,K2,K3,K4,Y8,Y9,X2,X3,X4,RV,RC]
  simp only [vx,T,K5,J0,K6,K7,↓reduceIte,J1,J2,J3,J4,J5,J6,J7,J8,J9,reduceCtorEq,K1,K2,K3,K4,RV,RC]
  refine ⟨fun h2 => Lg ?_, fun h2 => Lg ?_⟩
  · have hip : i < p.length := by omega
    have i1 := wI i (by omega)
    have m1 := hp.get i
    have m0 := hp.get (i - 1)
    have hgi : gB p i = (okM (p.getD i default) && (ascB (p.getD i default).vs && (decide (i = 0) || decide (cmpV (p.getD (i - 1) default).vs (p.getD i default).vs < 0)))) := rfl
    obtain ⟨a, ha⟩ : ∃ a, a = p.getD i default := ⟨_, rfl⟩
    obtain ⟨b, hb⟩ : ∃ b, b = p.getD (i - 1) default := ⟨_, rfl⟩
    rw [← ha] at m1 hgi
    rw [← hb] at m0 hgi
    have i2 : i ≠ 0 → IntKind.i64.wrap ((i : Int) - 1) = ((i - 1 : Nat) : Int) := fun h0 => by rw [IntWalk.i64_in _ (by omega)]; omega
    have hbad : okM a = false → gB p i = false := fun h => by rw [hgi, h]; rfl
    have hbad2 : ascB a.vs = false → gB p i = false := fun h => by rw [hgi, h, Bool.false_and, Bool.and_false]
    have hbad3 : i ≠ 0 → ¬ cmpV b.vs a.vs < 0 → gB p i = false := fun h0 h => by rw [hgi, decide_eq_false h0, decide_eq_false h]; simp
    simp only [vx,T,K5,J0,K6,K7,↓reduceIte,J1,J2,J3,J4,J5,J6,J7,J8,J9,reduceCtorEq,K1,K2,K3,K4,RV,RC,← ha,rC]
    refine ⟨by omega, Cg (iQValid_spec a.s a.t a.xs a.ys m1.x m1.y (Nat.lt_trans m1.xl (by decide)) (Nat.lt_trans m1.yl (by decide))) ?_⟩
    simp only [vx,T,K5,J0,K6,K7,↓reduceIte,J1,J2,J3,J4,J5,J6,J7,J8,J9,reduceCtorEq,K1,K2,K3,K4]
    refine ⟨fun h3 => Lg ?_, fun h3 => Lg ?_⟩
    · simp only [vx,T,K5,J0,K6,K7,↓reduceIte,J1,J2,J3,J4,J5,J6,J7,J8,J9,reduceCtorEq,K1,K2,K3,K4]
      exact vb (all_range_f hip (hbad (by unfold okM; rw [show okQ a.s a.xs a.t a.ys = false by simpa using h3]; rfl))).symm
    · have h3 : okQ a.s a.xs a.t a.ys = true := by simpa using h3
      obtain ⟨q, e1, e2, e3, e4⟩ := okQ_ex h3
      have hq : qm q < 2 ^ 30 := by
        have h5 := m1.xl
        have h6 := m1.yl
        rw [e2, zm_length] at h5
        rw [e4, zm_length, zn_nat] at h6
        unfold qm; omega
      have hokM : okM a = decide (q.num ≠ 0) := by
        unfold okM
        rw [h3, e2, val_zm]
        simp
      simp only [vx,T,K5,J0,K6,K7,↓reduceIte,J1,J2,J3,J4,J5,J6,J7,J8,J9,reduceCtorEq,K1,K2,K3,K4,e1,e2,e3,e4]
      refine Cg (iQSign_spec q (by omega)) ?_
      simp only [vx,T,K5,J0,K6,K7,↓reduceIte,J1,J2,J3,J4,J5,J6,J7,J8,J9,reduceCtorEq,K1,K2,K3,K4]
      refine ⟨fun h4 => Lg ?_, fun h4 => Lg ?_⟩
      · simp only [vx,T,K5,J0,K6,K7,↓reduceIte,J1,J2,J3,J4,J5,J6,J7,J8,J9,reduceCtorEq,K1,K2,K3,K4]
        refine vb (all_range_f hip (hbad ?_)).symm
        rw [hokM, decide_eq_false]
        rw [sgn_zero] at h4
        exact fun h => h h4
      · rw [sgn_zero] at h4
        have hok : okM a = true := by rw [hokM, decide_eq_true h4]
        have hvl := m1.vl
        simp only [vx,T,K5,J0,K6,K7,↓reduceIte,J1,J2,J3,J4,J5,J6,J7,J8,J9,reduceCtorEq,K1,K2,K3,K4]
        refine Cg (IsSorted_spec a.vs (by omega)) ?_
        simp only [vx,T,K5,J0,K6,K7,↓reduceIte,J1,J2,J3,J4,J5,J6,J7,J8,J9,reduceCtorEq,K1,K2,K3,K4]
        refine ⟨fun h5 => Lg ?_, fun h5 => Lg ?_⟩
        · simp only [vx,T,K5,J0,K6,K7,↓reduceIte,J1,J2,J3,J4,J5,J6,J7,J8,J9,reduceCtorEq,K1,K2,K3,K4]
          refine vb (all_range_f hip (hbad2 ?_)).symm
          cases hab : ascB a.vs with
          | false => rfl
          | true => rw [(asc_sort hab).1] at h5; cases h5
        · have h5 : sortB a.vs = true := by simpa using h5
          simp only [vx,T,K5,J0,K6,K7,↓reduceIte,J1,J2,J3,J4,J5,J6,J7,J8,J9,reduceCtorEq,K1,K2,K3,K4]
          refine ⟨fun h6 => Lg ?_, fun h6 => Lg ?_⟩
          · simp only [vx,T,K5,J0,K6,K7,↓reduceIte,J1,J2,J3,J4,J5,J6,J7,J8,J9,reduceCtorEq,K1,K2,K3,K4]
            refine ⟨by omega, ?_⟩
            refine ⟨fun h7 => Lg ?_, fun h7 => Lg ?_⟩
            · simp only [vx,T,K5,J0,K6,K7,↓reduceIte,J1,J2,J3,J4,J5,J6,J7,J8,J9,reduceCtorEq,K1,K2,K3,K4]
              refine vb (all_range_f hip (hbad2 ?_)).symm
              cases hab : ascB a.vs with
              | false => rfl
              | true => have := (asc_sort hab).2 (by omega); omega
            · have hab := sort_asc h5 (fun _ => by omega)
              simp only [vx,T,K5,J0,K6,K7,↓reduceIte,J1,J2,J3,J4,J5,J6,J7,J8,J9,reduceCtorEq,K1,K2,K3,K4,RV,RC]
              refine ⟨fun h8 => Lg ?_, fun h8 => Lg ?_⟩
              · have h80 : i ≠ 0 := by omega
                have i3 := i2 h80
                simp only [vx,T,K5,J0,K6,K7,↓reduceIte,J1,J2,J3,J4,J5,J6,J7,J8,J9,reduceCtorEq,K1,K2,K3,K4,RV,RC,← hb,rC,i3]
                refine ⟨by omega, Cg (compareV_spec b.vs a.vs (Nat.lt_trans m0.vl (by decide)) (by omega)) ?_⟩
                simp only [vx,T,K5,J0,K6,K7,↓reduceIte,J1,J2,J3,J4,J5,J6,J7,J8,J9,reduceCtorEq,K1,K2,K3,K4]
                refine ⟨fun h9 => Lg ?_, fun h9 => Lg ?_⟩
                · simp only [vx,T,K5,J0,K6,K7,↓reduceIte,J1,J2,J3,J4,J5,J6,J7,J8,J9,reduceCtorEq,K1,K2,K3,K4]
                  exact vb (all_range_f hip (hbad3 h80 (by omega))).symm
                · simp only [vx,T,K5,J0,K6,K7,↓reduceIte,J1,J2,J3,J4,J5,J6,J7,J8,J9,reduceCtorEq,K1,K2,K3,K4,RV,RC]
                  simp only [i1]
                  refine Lq ⟨i + 1, by omega, fun j hj => ?_⟩ ?_ ?_
                  · by_cases hji : j = i
                    · subst hji
                      rw [hgi, hok, hab, decide_eq_true (p := cmpV b.vs a.vs < 0) (by omega), Bool.or_true]; rfl
                    · exact he j (by omega)
                  · refine Sa ?_; simp only [rx,Y0,Y1,Y2,Y3,Y4,Y5,Y6,Y7,ren,↓reduceIte,J1,J2,J3,J4,J5,J6,J7,J8,J9,reduceCtorEq,K1,K2,K3,K4,Y8,Y9,X2,X3,X4,RV,RC]
                  · simp only; omega
              · have h80 : i = 0 := by omega
                simp only [vx,T,K5,J0,K6,K7,↓reduceIte,J1,J2,J3,J4,J5,J6,J7,J8,J9,reduceCtorEq,K1,K2,K3,K4,RV,RC]
                simp only [i1]
                refine Lq ⟨i + 1, by omega, fun j hj => ?_⟩ ?_ ?_
                · by_cases hji : j = i
                  · subst hji
                    rw [hgi, hok, hab, decide_eq_true h80]; rfl
                  · exact he j (by omega)
                · refine Sa ?_; simp only [rx,Y0,Y1,Y2,Y3,Y4,Y5,Y6,Y7,ren,↓reduceIte,J1,J2,J3,J4,J5,J6,J7,J8,J9,reduceCtorEq,K1,K2,K3,K4,Y8,Y9,X2,X3,X4,RV,RC]
                · simp only; omega
          · have hab := sort_asc h5 (fun h => by omega)
            simp only [vx,T,K5,J0,K6,K7,↓reduceIte,J1,J2,J3,J4,J5,J6,J7,J8,J9,reduceCtorEq,K1,K2,K3,K4,RV,RC]
            refine ⟨fun h8 => Lg ?_, fun h8 => Lg ?_⟩
            · have h80 : i ≠ 0 := by omega
              have i3 := i2 h80
              simp only [vx,T,K5,J0,K6,K7,↓reduceIte,J1,J2,J3,J4,J5,J6,J7,J8,J9,reduceCtorEq,K1,K2,K3,K4,RV,RC,← hb,rC,i3]
              refine ⟨by omega, Cg (compareV_spec b.vs a.vs (Nat.lt_trans m0.vl (by decide)) (by omega)) ?_⟩
              simp only [vx,T,K5,J0,K6,K7,↓reduceIte,J1,J2,J3,J4,J5,J6,J7,J8,J9,reduceCtorEq,K1,K2,K3,K4]
              refine ⟨fun h9 => Lg ?_, fun h9 => Lg ?_⟩
              · simp only [vx,T,K5,J0,K6,K7,↓reduceIte,J1,J2,J3,J4,J5,J6,J7,J8,J9,reduceCtorEq,K1,K2,K3,K4]
                exact vb (all_range_f hip (hbad3 h80 (by omega))).symm
              · simp only [vx,T,K5,J0,K6,K7,↓reduceIte,J1,J2,J3,J4,J5,J6,J7,J8,J9,reduceCtorEq,K1,K2,K3,K4,RV,RC]
                simp only [i1]
                refine Lq ⟨i + 1, by omega, fun j hj => ?_⟩ ?_ ?_
                · by_cases hji : j = i
                  · subst hji
                    rw [hgi, hok, hab, decide_eq_true (p := cmpV b.vs a.vs < 0) (by omega), Bool.or_true]; rfl
                  · exact he j (by omega)
                · refine Sa ?_; simp only [rx,Y0,Y1,Y2,Y3,Y4,Y5,Y6,Y7,ren,↓reduceIte,J1,J2,J3,J4,J5,J6,J7,J8,J9,reduceCtorEq,K1,K2,K3,K4,Y8,Y9,X2,X3,X4,RV,RC]
                · simp only; omega
            · have h80 : i = 0 := by omega
              simp only [vx,T,K5,J0,K6,K7,↓reduceIte,J1,J2,J3,J4,J5,J6,J7,J8,J9,reduceCtorEq,K1,K2,K3,K4,RV,RC]
              simp only [i1]
              refine Lq ⟨i + 1, by omega, fun j hj => ?_⟩ ?_ ?_
              · by_cases hji : j = i
                · subst hji
                  rw [hgi, hok, hab, decide_eq_true h80]; rfl
                · exact he j (by omega)
              · refine Sa ?_; simp only [rx,Y0,Y1,Y2,Y3,Y4,Y5,Y6,Y7,ren,↓reduceIte,J1,J2,J3,J4,J5,J6,J7,J8,J9,reduceCtorEq,K1,K2,K3,K4,Y8,Y9,X2,X3,X4,RV,RC]
              · simp only; omega
  · simp only [vx,T,K5,J0,K6,K7,↓reduceIte,J1,J2,J3,J4,J5,J6,J7,J8,J9,reduceCtorEq,K1,K2,K3,K4]
    refine vb ?_
    exact (all_range.2 fun j hj => he j (by omega)).symm
end Go.Proofs.YtllnmicmblbfaaaGreat
/-
  Insertion sort in place, on a part of a list.
-/
namespace Go.Eng
variable {α : Type} [Inhabited α]
theorem getD_set_same {xs : List α} {i : Nat} {x : α} (h : i < xs.length) : (xs.set i x).getD i default = x := by
  rw [X7, List.getElem?_set_self h]; rfl
theorem getD_set_other {xs : List α} {i j : Nat} {x : α} (h : i ≠ j) : (xs.set i x).getD j default = xs.getD j default := by
  rw [X7, List.getElem?_set_ne h, X7]
def swp (xs : List α) (i j : Nat) : List α := (xs.set i (xs.getD j default)).set j (xs.getD i default)
theorem swp_length (xs : List α) (i j : Nat) : (swp xs i j).length = xs.length := by simp [swp]
theorem swp_get {xs : List α} {i j k : Nat} (hi : i < xs.length) (hj : j < xs.length) :
    (swp xs i j).getD k default = if k = j then xs.getD i default else if k = i then xs.getD j default else xs.getD k default := by
  unfold swp
  by_cases h1 : k = j
  · subst h1
    rw [if_pos rfl, getD_set_same (by simpa using hj)]
  · rw [if_neg h1, getD_set_other (fun e => h1 e.symm)]
    by_cases h2 : k = i
    · subst h2
      rw [if_pos rfl, getD_set_same hi]
    · rw [if_neg h2, getD_set_other (fun e => h2 e.symm)]
theorem getD_eq {xs : List α} {i : Nat} (h : i < xs.length) : xs.getD i default = xs[i] := by
  rw [X7, X8 h]; rfl
theorem swp_perm {xs : List α} {i j : Nat} (hi : i < xs.length) (hj : j < xs.length) : (swp xs i j).Perm xs := by
  unfold swp
  rw [getD_eq hi, getD_eq hj]
  exact List.set_set_perm hi hj
def Srt (le : α → α → Prop) (xs : List α) (lo hi : Nat) : Prop := ∀ a b, lo ≤ a → a < b → b < hi → le (xs.getD a default) (xs.getD b default)
def Out (xs0 xs : List α) (lo hi : Nat) : Prop := xs.length = xs0.length ∧ xs.Perm xs0 ∧ ∀ j, (j < lo ∨ hi ≤ j) → xs.getD j default = xs0.getD j default
theorem Out.refl (xs : List α) (lo hi : Nat) : Out xs xs lo hi := ⟨rfl, .refl _, fun _ _ => rfl⟩
theorem Out.trans {xs ys zs : List α} {lo hi : Nat} (h1 : Out xs ys lo hi) (h2 : Out ys zs lo hi) : Out xs zs lo hi :=
  ⟨h2.1.trans h1.1, h2.2.1.trans h1.2.1, fun j hj => (h2.2.2 j hj).trans (h1.2.2 j hj)⟩
theorem Out.mono {xs ys : List α} {lo hi lo' hi' : Nat} (h : Out xs ys lo hi) (h1 : lo' ≤ lo) (h2 : hi ≤ hi') : Out xs ys lo' hi' :=
  ⟨h.1, h.2.1, fun j hj => h.2.2 j (by omega)⟩
theorem Out.swp {xs0 xs : List α} {lo hi i j : Nat} (h : Out xs0 xs lo hi) (hi1 : lo ≤ i) (hi2 : i < hi) (hj1 : lo ≤ j) (hj2 : j < hi) (hl : hi ≤ xs.length) : Out xs0 (swp xs i j) lo hi := by
  refine ⟨by rw [swp_length]; exact h.1, (swp_perm (by omega) (by omega)).trans h.2.1, fun k hk => ?_⟩
  rw [swp_get (by omega) (by omega), if_neg (by omega), if_neg (by omega)]
  exact h.2.2 k hk
theorem Srt.mono {le : α → α → Prop} {xs : List α} {lo hi lo' hi' : Nat} (h : Srt le xs lo hi) (h1 : lo ≤ lo') (h2 : hi' ≤ hi) : Srt le xs lo' hi' :=
  fun a b ha hab hb => h a b (by omega) hab (by omega)
theorem Srt.out {le : α → α → Prop} {xs ys : List α} {lo hi l h : Nat} (hs : Srt le xs l h) (ho : Out xs ys lo hi) (hd : h ≤ lo ∨ hi ≤ l) : Srt le ys l h := by
  intro a b ha hab hb
  rw [ho.2.2 a (by omega), ho.2.2 b (by omega)]
  exact hs a b ha hab hb
structure Ins (le : α → α → Prop) (lo i k : Nat) (xs : List α) : Prop where
  lok : lo ≤ k
  ki : k ≤ i
  rest : ∀ a b, lo ≤ a → a < b → b ≤ i → a ≠ k → b ≠ k → le (xs.getD a default) (xs.getD b default)
  up : ∀ b, k < b → b ≤ i → le (xs.getD k default) (xs.getD b default)
theorem Ins.init {le : α → α → Prop} {lo i : Nat} {xs : List α} (h : Srt le xs lo i) (hl : lo ≤ i) : Ins le lo i i xs :=
  ⟨hl, Nat.le_refl _, fun a b ha hab hb h1 h2 => h a b ha hab (by omega), fun b h1 h2 => by omega⟩
theorem Ins.step {le : α → α → Prop} {lo i k : Nat} {xs : List α} (h : Ins le lo i k xs) (hk : lo < k) (hl : i < xs.length) (hle : le (xs.getD k default) (xs.getD (k - 1) default)) : Ins le lo i (k - 1) (swp xs (k - 1) k) := by
  have hki := h.ki
  have g : ∀ j, (swp xs (k - 1) k).getD j default = if j = k then xs.getD (k - 1) default else if j = k - 1 then xs.getD k default else xs.getD j default := fun j => swp_get (by omega) (by omega)
  refine ⟨by omega, by omega, fun a b ha hab hb h1 h2 => ?_, fun b h1 h2 => ?_⟩
  · rw [g a, g b, if_neg h1, if_neg h2]
    by_cases hak : a = k
    · rw [if_pos hak, if_neg (by omega)]
      exact h.rest (k - 1) b (by omega) (by omega) hb (by omega) (by omega)
    · rw [if_neg hak]
      by_cases hbk : b = k
      · rw [if_pos hbk]
        exact h.rest a (k - 1) ha (by omega) (by omega) hak (by omega)
      · rw [if_neg hbk]
        exact h.rest a b ha hab hb hak hbk
  · rw [g (k - 1), g b, if_neg (by omega), if_pos rfl]
    by_cases hbk : b = k
    · rw [if_pos hbk]; exact hle
    · rw [if_neg hbk, if_neg (by omega)]
      exact h.up b (by omega) h2
theorem Ins.done {le : α → α → Prop} (tr : ∀ {x y z}, le x y → le y z → le x z) {lo i k : Nat} {xs : List α} (h : Ins le lo i k xs) (hk : k = lo ∨ le (xs.getD (k - 1) default) (xs.getD k default)) : Srt le xs lo (i + 1) := by
  intro a b ha hab hb
  have h1 := h.lok
  have h2 := h.ki
  by_cases hak : a = k
  · subst hak; exact h.up b hab (by omega)
  · by_cases hbk : b = k
    · subst hbk
      rcases hk with hk | hk
      · omega
      · by_cases hab2 : a = b - 1
        · subst hab2; exact hk
        · exact tr (h.rest a (b - 1) ha (by omega) (by omega) hak (by omega)) hk
    · exact h.rest a b ha hab (by omega) hak hbk
theorem srt_pairwise {le : α → α → Prop} {xs : List α} (h : Srt le xs 0 xs.length) : xs.Pairwise le := by
  rw [List.pairwise_iff_getElem]
  intro i j hi hj hij
  have := h i j (Nat.zero_le _) hij hj
  rwa [getD_eq hi, getD_eq hj] at this
end Go.Eng
/-
  Sorted lists of integers.
-/
namespace Go.Eng
def srtZ (l : List Int) : List Int := l.mergeSort (fun a b => decide (a ≤ b))
theorem srtZ_perm (l : List Int) : (srtZ l).Perm l := List.mergeSort_perm _ _
theorem srtZ_pair (l : List Int) : (srtZ l).Pairwise (· ≤ ·) := by
  have h := List.pairwise_mergeSort (le := fun a b : Int => decide (a ≤ b)) (by intro a b c; simp; omega) (by intro a b; simp; omega) l
  exact h.imp (by intro a b h; simpa using h)
theorem srtZ_length (l : List Int) : (srtZ l).length = l.length := (srtZ_perm l).length_eq
theorem srtZ_of {l xs : List Int} (h : Srt (· ≤ ·) xs 0 xs.length) (hp : xs.Perm l) : xs = srtZ l :=
  List.Perm.eq_of_pairwise (le := (· ≤ ·)) (fun a b _ _ h1 h2 => by omega) (srt_pairwise h) (srtZ_pair l) (hp.trans (srtZ_perm l).symm)
theorem srtZ_self {l : List Int} (h : l.Pairwise (· ≤ ·)) : srtZ l = l :=
  List.Perm.eq_of_pairwise (le := (· ≤ ·)) (fun a b _ _ h1 h2 => by omega) (srtZ_pair l) h (srtZ_perm l)
theorem srtZ_congr {a b : List Int} (h : a.Perm b) : srtZ a = srtZ b :=
  List.Perm.eq_of_pairwise (le := (· ≤ ·)) (fun a b _ _ h1 h2 => by omega) (srtZ_pair a) (srtZ_pair b) ((srtZ_perm a).trans (h.trans (srtZ_perm b).symm))
end Go.Eng
namespace Go.Proofs.YtllnmicmblbfaaaGreat
open Go Go.Eng
theorem leZ_tr {x y z : Int} (h1 : (fun a b : Int => a ≤ b) x y) (h2 : (fun a b : Int => a ≤ b) y z) : (fun a b : Int => a ≤ b) x z := Int.le_trans h1 h2
theorem sorted_spec (l : List Int) (hl : l.length < 2 ^ 40) : Pr Tryz.prog 100 [.one (.ints .i64 l)] (.one (.ints .i64 (srtZ l))) := by
  refine pv T_ok mixed Tryz.func100 rfl (by decide) _ (by simp [Tryz.ntmps100]) ⟨[0, 2, 3, 4, 5, 12, 29], [(8, (.cons 15 [3, 4, 16] (.cons 17 [] .nil .nil) .nil))]⟩ (by kernel_rfl) _ ?_
  show vc T _ _ (Option.get! Tryz.f100.body) _ _
  simp only [Tryz.f100,Tryz.ntmps100,Option.get!,iS,iM,eO,J1]
  simp only [vx,T,K5,J0,K6,K7,↓reduceIte,J1,J2,J3,J4,J5,J6,J7,J8,J9,reduceCtorEq,K1,K2,K3,K4]
  refine ⟨by omega, Lk (fun y : {y : Nat × List Int // y.1 ≤ l.length ∧ y.2.length = l.length ∧ y.2.Perm l ∧ Srt (· ≤ ·) y.2 0 y.1} => ⟨[(0, .one (.ints .i64 l)), (2, .one .nil), (3, .one (.own 1 1 0 l.length)), (4, .one (.int .i64 y.1.1))], [(1, ⟨.ints 3 .i64 y.1.2, true⟩)], 2, 49⟩) (fun y => l.length - y.1.1) ⟨(0, l), by omega, rfl, .refl _, fun a b _ _ _ => by omega⟩ ?_ (fun ⟨⟨i, xs⟩, hi, hxl, hp, hs⟩ => ?_)⟩
  · refine Sa ?_; simp only [rx,Y0,Y1,Y2,Y3,Y4,Y5,Y6,Y7,ren,↓reduceIte,J1,J2,J3,J4,J5,J6,J7,J8,J9,reduceCtorEq,K1,K2,K3,K4,Y8,Y9,X2,X3,X4]
  simp only at hi hxl hp hs
  simp only [vx,T,K5,J0,K6,K7,↓reduceIte,J1,J2,J3,J4,J5,J6,J7,J8,J9,reduceCtorEq,K1,K2,K3,K4]
  refine ⟨fun h1 => Lg ?_, fun h1 => Lg ?_⟩
  · simp only [vx,T,K5,J0,K6,K7,↓reduceIte,J1,J2,J3,J4,J5,J6,J7,J8,J9,reduceCtorEq,K1,K2,K3,K4]
    have hil : i < l.length := by omega
    refine Lk (fun y : {y : Nat × List Int // y.2.length = l.length ∧ y.2.Perm l ∧ Ins (· ≤ ·) 0 i y.1 y.2} => ⟨[(0, .one (.ints .i64 l)), (2, .one .nil), (3, .one (.own 1 1 0 l.length)), (4, .one (.int .i64 i)), (5, .one (.int .i64 y.1.1))], [(1, ⟨.ints 3 .i64 y.1.2, true⟩)], 2, 49⟩) (fun y => y.1.1) ⟨(i, xs), hxl, hp, Ins.init hs (by omega)⟩ ?_ (fun ⟨⟨k, ys⟩, hyl, hyp, hI⟩ => ?_)
    · refine Sa ?_; simp only [rx,Y0,Y1,Y2,Y3,Y4,Y5,Y6,Y7,ren,↓reduceIte,J1,J2,J3,J4,J5,J6,J7,J8,J9,reduceCtorEq,K1,K2,K3,K4,Y8,Y9,X2,X3,X4]
    simp only at hyl hyp hI
    have hki := hI.ki
    have hz : (default : Int) = 0 := rfl
    have i1 := wI i (by omega)
    have k1 : 0 < k → IntKind.i64.wrap ((k : Int) - 1) = ((k - 1 : Nat) : Int) := fun h0 => by rw [IntWalk.i64_in _ (by omega)]; omega
    simp only [vx,T,K5,J0,K6,K7,↓reduceIte,J1,J2,J3,J4,J5,J6,J7,J8,J9,reduceCtorEq,K1,K2,K3,K4]
    refine ⟨fun h2 => Lg ?_, fun h2 => Lg ?_⟩
    · have k2 := k1 (by omega)
      have e1 : ys.getD (k - 1) default = ys.getD (k - 1) 0 := rfl
      have e2 : ys.getD k default = ys.getD k 0 := rfl
      simp only [vx,T,K5,J0,K6,K7,↓reduceIte,J1,J2,J3,J4,J5,J6,J7,J8,J9,reduceCtorEq,K1,K2,K3,K4,k2]
      refine ⟨by omega, by omega, ?_⟩
      refine ⟨fun h3 => Lg ?_, fun h3 => Lg ?_⟩
      · have hst := hI.step (by omega) (by omega) (show ys.getD k default ≤ ys.getD (k - 1) default by rw [e1, e2]; omega)
        have hsp := (swp_perm (xs := ys) (i := k - 1) (j := k) (by omega) (by omega)).trans hyp
        have hsl := swp_length ys (k - 1) k
        have hsw : swp ys (k - 1) k = (ys.set (k - 1) (ys.getD k 0)).set k (ys.getD (k - 1) 0) := rfl
        rw [hsw] at hst hsp hsl
        simp only [vx,T,K5,J0,K6,K7,↓reduceIte,J1,J2,J3,J4,J5,J6,J7,J8,J9,reduceCtorEq,K1,K2,K3,K4,k2]
        refine ⟨by omega, by omega, by omega, by omega, by omega, Lq ⟨(k - 1, _), hsl.trans hyl, hsp, hst⟩ ?_ ?_⟩
        · refine Sa ?_; simp only [rx,Y0,Y1,Y2,Y3,Y4,Y5,Y6,Y7,ren,↓reduceIte,J1,J2,J3,J4,J5,J6,J7,J8,J9,reduceCtorEq,K1,K2,K3,K4,Y8,Y9,X2,X3,X4]
        · simp only; omega
      · have hd := Ins.done (le := fun a b : Int => a ≤ b) (fun {_ _ _} h1 h2 => leZ_tr h1 h2) hI (.inr (show ys.getD (k - 1) default ≤ ys.getD k default by rw [e1, e2]; omega))
        simp only [vx,T,K5,J0,K6,K7,↓reduceIte,J1,J2,J3,J4,J5,J6,J7,J8,J9,reduceCtorEq,K1,K2,K3,K4]
        simp only [i1]
        refine Lq ⟨(i + 1, ys), by omega, hyl, hyp, hd⟩ ?_ ?_
        · refine Sa ?_; simp only [rx,Y0,Y1,Y2,Y3,Y4,Y5,Y6,Y7,ren,↓reduceIte,J1,J2,J3,J4,J5,J6,J7,J8,J9,reduceCtorEq,K1,K2,K3,K4,Y8,Y9,X2,X3,X4]
        · simp only; omega
    · have hd := Ins.done (le := fun a b : Int => a ≤ b) (fun {_ _ _} h1 h2 => leZ_tr h1 h2) hI (.inl (by omega))
      simp only [vx,T,K5,J0,K6,K7,↓reduceIte,J1,J2,J3,J4,J5,J6,J7,J8,J9,reduceCtorEq,K1,K2,K3,K4]
      simp only [i1]
      refine Lq ⟨(i + 1, ys), by omega, hyl, hyp, hd⟩ ?_ ?_
      · refine Sa ?_; simp only [rx,Y0,Y1,Y2,Y3,Y4,Y5,Y6,Y7,ren,↓reduceIte,J1,J2,J3,J4,J5,J6,J7,J8,J9,reduceCtorEq,K1,K2,K3,K4,Y8,Y9,X2,X3,X4]
      · simp only; omega
  · have hil : i = l.length := by omega
    have he := srtZ_of (l := l) (xs := xs) (by rw [hxl, ← hil]; exact hs) hp
    simp only [vx,T,K5,J0,K6,K7,↓reduceIte,J1,J2,J3,J4,J5,J6,J7,J8,J9,reduceCtorEq,K1,K2,K3,K4]
    rw [List.take_of_length_le (by omega), he]
    exact Ve rfl
end Go.Proofs.YtllnmicmblbfaaaGreat
/-
  Sums of monomials: coefficient functions, canonical forms.
-/
namespace Go.Eng
def co : List Mono → List Int → Rat
  | [], _ => 0
  | m :: r, v => (if m.2 = v then m.1 else 0) + co r v
theorem co_perm {a b : List Mono} (h : a.Perm b) (v : List Int) : co a v = co b v := by
  induction h with
  | nil => rfl
  | cons x _ ih => simp only [co,ih]
  | swap x y l => simp only [co]; rw [← Rat.add_assoc, ← Rat.add_assoc, Rat.add_comm (if y.2 = v then y.1 else 0)]
  | trans _ _ h1 h2 => exact h1.trans h2
theorem co_filter (l : List Mono) (v : List Int) : co (l.filter fun m => decide (m.1 ≠ 0)) v = co l v := by
  induction l with
  | nil => rfl
  | cons m r ih =>
    simp only [List.filter_cons]
    split
    · simp only [co,ih]
    · rename_i h
      have h : m.1 = 0 := by simpa using h
      simp only [co,ih,h]
      split <;> rw [Rat.zero_add]
def Asc (l : List Mono) : Prop := l.Pairwise fun a b => cmpV a.2 b.2 < 0
def Can (l : List Mono) : Prop := Asc l ∧ ∀ m ∈ l, m.1 ≠ 0
theorem cmpV_lt_trans {a b c : List Int} (h1 : cmpV a b < 0) (h2 : cmpV b c < 0) : cmpV a c < 0 := by
  have h3 := cmpV_trans (a := a) (b := b) (c := c) (by omega) (by omega)
  have h4 : cmpV a c ≠ 0 := by
    intro e
    have e := cmpV_zero.1 e
    subst e
    have := cmpV_swap a b
    omega
  omega
theorem cmpV_irrefl (a : List Int) : ¬ cmpV a a < 0 := by rw [cmpV_zero.2 rfl]; omega
theorem co_low {l : List Mono} {v : List Int} (h : ∀ m ∈ l, cmpV v m.2 < 0) : co l v = 0 := by
  induction l with
  | nil => rfl
  | cons m r ih =>
    simp only [co, ih fun x hx => h x (by simp [hx])]
    rw [if_neg, Rat.zero_add]
    rintro rfl
    exact cmpV_irrefl _ (h m (by simp))
theorem Asc.tail {m : Mono} {r : List Mono} (h : Asc (m :: r)) : Asc r := (List.pairwise_cons.1 h).2
theorem Asc.head {m : Mono} {r : List Mono} (h : Asc (m :: r)) : ∀ x ∈ r, cmpV m.2 x.2 < 0 := (List.pairwise_cons.1 h).1
theorem can_ext : ∀ {a b : List Mono}, Can a → Can b → (∀ v, co a v = co b v) → a = b
  | [], [], _, _, _ => rfl
  | [], m :: r, _, hb, h => by
    have h1 := h m.2
    simp only [co,if_true] at h1
    rw [co_low hb.1.head, Rat.add_zero] at h1
    exact absurd h1.symm (hb.2 m (by simp))
  | m :: r, [], ha, _, h => by
    have h1 := h m.2
    simp only [co,if_true] at h1
    rw [co_low ha.1.head, Rat.add_zero] at h1
    exact absurd h1 (ha.2 m (by simp))
  | m :: r, n :: s, ha, hb, h => by
    have hm : co (m :: r) m.2 = m.1 := by simp only [co,if_true]; rw [co_low ha.1.head, Rat.add_zero]
    have hn : co (n :: s) n.2 = n.1 := by simp only [co,if_true]; rw [co_low hb.1.head, Rat.add_zero]
    have hmn : m.2 = n.2 := by
      rcases Int.lt_trichotomy (cmpV m.2 n.2) 0 with hc | hc | hc
      · have : co (n :: s) m.2 = 0 := co_low (fun x hx => by
          rcases List.mem_cons.1 hx with rfl | hx
          · exact hc
          · exact cmpV_lt_trans hc (hb.1.head x hx))
        rw [← h, hm] at this
        exact absurd this (ha.2 m (by simp))
      · exact cmpV_zero.1 hc
      · have hc : cmpV n.2 m.2 < 0 := by rw [cmpV_swap m.2 n.2]; omega
        have : co (m :: r) n.2 = 0 := co_low (fun x hx => by
          rcases List.mem_cons.1 hx with rfl | hx
          · exact hc
          · exact cmpV_lt_trans hc (ha.1.head x hx))
        rw [h, hn] at this
        exact absurd this (hb.2 n (by simp))
    have h1 : m.1 = n.1 := by rw [← hm, ← hn, h, hmn]
    have hmn2 : m = n := Prod.ext h1 hmn
    subst hmn2
    congr 1
    refine can_ext ⟨ha.1.tail, fun x hx => ha.2 x (by simp [hx])⟩ ⟨hb.1.tail, fun x hx => hb.2 x (by simp [hx])⟩ fun v => ?_
    have h2 := h v
    simp only [co] at h2
    exact Rat.add_left_cancel _ h2
def insM (c : Rat) (v : List Int) : List Mono → List Mono
  | [] => [(c, v)]
  | m :: r => if cmpV m.2 v < 0 then m :: insM c v r else if m.2 = v then (m.1 + c, v) :: r else (c, v) :: m :: r
theorem insM_co (c : Rat) (v : List Int) (l : List Mono) (w : List Int) : co (insM c v l) w = co l w + (if v = w then c else 0) := by
  induction l with
  | nil => simp only [insM,co]; rw [Rat.add_comm]
  | cons m r ih =>
    simp only [insM]
    split
    · simp only [co,ih,Rat.add_assoc]
    · split
      · rename_i h
        simp only [co]
        by_cases hv : v = w
        · rw [if_pos hv, if_pos hv, if_pos (h.trans hv), Rat.add_assoc, Rat.add_assoc, Rat.add_comm c]
        · rw [if_neg hv, if_neg hv, if_neg (by rw [h]; exact hv), Rat.add_zero]
      · simp only [co]
        rw [Rat.add_comm]
theorem insM_mem {c : Rat} {v : List Int} {l : List Mono} {x : Mono} (h : x ∈ insM c v l) : x.2 = v ∨ x ∈ l := by
  induction l with
  | nil => simp [insM] at h; rw [h]; exact .inl rfl
  | cons m r ih =>
    simp only [insM] at h
    split at h
    · rcases List.mem_cons.1 h with rfl | h
      · exact .inr (by simp)
      · rcases ih h with h | h
        · exact .inl h
        · exact .inr (by simp [h])
    · split at h
      · rcases List.mem_cons.1 h with rfl | h
        · exact .inl rfl
        · exact .inr (by simp [h])
      · rcases List.mem_cons.1 h with rfl | h
        · exact .inl rfl
        · exact .inr h
theorem insM_asc (c : Rat) (v : List Int) : ∀ {l : List Mono}, Asc l → Asc (insM c v l)
  | [], _ => by simp [insM, Asc]
  | m :: r, h => by
    simp only [insM]
    split
    · rename_i hc
      refine List.pairwise_cons.2 ⟨fun x hx => ?_, insM_asc c v h.tail⟩
      rcases insM_mem hx with hx | hx
      · rw [hx]; exact hc
      · exact h.head x hx
    · rename_i hc
      split
      · rename_i he
        refine List.pairwise_cons.2 ⟨fun x hx => ?_, h.tail⟩
        simp only; rw [← he]; exact h.head x hx
      · rename_i he
        have h1 : cmpV v m.2 < 0 := by
          have h2 : cmpV m.2 v ≠ 0 := fun e => he (cmpV_zero.1 e)
          rw [cmpV_swap m.2 v]; omega
        refine List.pairwise_cons.2 ⟨fun x hx => ?_, h⟩
        rcases List.mem_cons.1 hx with rfl | hx
        · exact h1
        · exact cmpV_lt_trans h1 (h.head x hx)
theorem insM_mem' {c : Rat} {v : List Int} {l : List Mono} {x : Mono} (h : x ∈ insM c v l) : x ∈ l ∨ x = (c, v) ∨ ∃ m ∈ l, x = (m.1 + c, v) := by
  induction l with
  | nil => simp [insM] at h; exact .inr (.inl h)
  | cons m r ih =>
    simp only [insM] at h
    split at h
    · rcases List.mem_cons.1 h with rfl | h
      · exact .inl (by simp)
      · rcases ih h with h | h | ⟨n, h1, h2⟩
        · exact .inl (by simp [h])
        · exact .inr (.inl h)
        · exact .inr (.inr ⟨n, by simp [h1], h2⟩)
    · split at h
      · rcases List.mem_cons.1 h with rfl | h
        · exact .inr (.inr ⟨m, by simp, rfl⟩)
        · exact .inl (by simp [h])
      · rcases List.mem_cons.1 h with rfl | h
        · exact .inr (.inl rfl)
        · exact .inl h
def SB (B i : Nat) (os : List Mono) : Prop := os.length ≤ i ∧ ∀ m ∈ os, qm m.1 ≤ i * (B + 1) ∧ In63 m.2 ∧ m.2.length < 2 ^ 30
theorem SB.ins {B i : Nat} {os : List Mono} {c : Rat} {v : List Int} (h : SB B i os) (hc : qm c ≤ B) (hv : In63 v) (hvl : v.length < 2 ^ 30) : SB B (i + 1) (insM c v os) := by
  have e : (i + 1) * (B + 1) = i * (B + 1) + B + 1 := by rw [Nat.add_mul]; omega
  refine ⟨?_, fun m hm => ?_⟩
  · have : (insM c v os).length ≤ os.length + 1 := by
      clear h
      induction os with
      | nil => simp [insM]
      | cons m r ih =>
        simp only [insM]
        split
        · simp only [List.length_cons]; omega
        · split <;> simp
    have := h.1
    omega
  · rw [e]
    rcases insM_mem' hm with hm | rfl | ⟨n, hn, rfl⟩
    · have := h.2 m hm
      exact ⟨by omega, this.2⟩
    · exact ⟨by simp only; omega, hv, hvl⟩
    · have h1 := h.2 n hn
      have h2 := qm_add n.1 c
      exact ⟨by simp only; omega, hv, hvl⟩
theorem SB.get {B i : Nat} {os : List Mono} (h : SB B i os) (k : Nat) : qm (os.getD k default).1 ≤ i * (B + 1) + 2 ∧ In63 (os.getD k default).2 ∧ (os.getD k default).2.length < 2 ^ 30 := by
  rw [X7]
  cases hg : os[k]? with
  | none => exact ⟨Nat.le_trans (qm_ofInt (z := 0) (by decide)) (by omega), (fun x hx => by cases hx), by decide⟩
  | some m => have := h.2 m (List.mem_of_getElem? hg); exact ⟨by have := this.1; simp only [Option.getD_some]; omega, this.2⟩
theorem take_step {l : List Mono} {k : Nat} (h : k < l.length) : l.take (k + 1) = l.take k ++ [l.getD k default] := by
  rw [List.take_add_one, X7, X8 h]; rfl
theorem insM_step {c : Rat} {v : List Int} {l : List Mono} {k : Nat} (h : insM c v l = l.take k ++ insM c v (l.drop k)) (hk : k < l.length) (hc : cmpV (l.getD k default).2 v < 0) :
    insM c v l = l.take (k + 1) ++ insM c v (l.drop (k + 1)) := by
  rw [h, drop_getD' hk, take_step hk, List.append_assoc]
  simp only [insM,if_pos hc,List.singleton_append]
theorem insM_ins {c : Rat} {v : List Int} {l : List Mono} {k : Nat} (h : insM c v l = l.take k ++ insM c v (l.drop k)) (hc : k < l.length → ¬ cmpV (l.getD k default).2 v < 0 ∧ (l.getD k default).2 ≠ v) :
    insM c v l = l.take k ++ (c, v) :: l.drop k := by
  rw [h]
  congr 1
  by_cases hk : k < l.length
  · obtain ⟨h1, h2⟩ := hc hk
    rw [drop_getD' hk]
    simp only [insM,if_neg h1,if_neg h2]
  · rw [List.drop_eq_nil_of_le (by omega)]; rfl
theorem insM_set {c : Rat} {v : List Int} {l : List Mono} {k : Nat} (h : insM c v l = l.take k ++ insM c v (l.drop k)) (hk : k < l.length) (hc : (l.getD k default).2 = v) :
    insM c v l = l.set k ((l.getD k default).1 + c, v) := by
  rw [h, drop_getD' hk, List.set_eq_take_append_cons_drop, if_pos hk]
  congr 1
  simp only [insM]
  rw [if_neg (by rw [hc]; exact cmpV_irrefl v), if_pos hc]
def sumL (l : List Mono) (os : List Mono) : List Mono := l.foldl (fun os m => insM m.1 (srtZ m.2) os) os
def sumM (l : List Mono) : List Mono := (sumL l []).filter fun m => decide (m.1 ≠ 0)
def srtM (l : List Mono) : List Mono := l.map fun m => (m.1, srtZ m.2)
theorem sumL_co (l os : List Mono) (v : List Int) : co (sumL l os) v = co os v + co (srtM l) v := by
  induction l generalizing os with
  | nil => show co os v = co os v + 0; rw [Rat.add_zero]
  | cons m r ih =>
    have e : sumL (m :: r) os = sumL r (insM m.1 (srtZ m.2) os) := rfl
    rw [e, ih, insM_co]
    simp only [srtM,List.map_cons,co]
    rw [Rat.add_assoc]
theorem sumL_asc (l : List Mono) {os : List Mono} (h : Asc os) : Asc (sumL l os) := by
  induction l generalizing os with
  | nil => exact h
  | cons m r ih => exact ih (insM_asc _ _ h)
theorem can_filter {l : List Mono} (h : Asc l) : Can (l.filter fun m => decide (m.1 ≠ 0)) := by
  refine ⟨List.Pairwise.filter _ h, fun m hm => ?_⟩
  have := (List.mem_filter.1 hm).2
  simpa using this
theorem sumM_can (l : List Mono) : Can (sumM l) := can_filter (sumL_asc l List.Pairwise.nil)
theorem sumM_co (l : List Mono) (v : List Int) : co (sumM l) v = co (srtM l) v := by
  unfold sumM
  rw [co_filter, sumL_co]
  show 0 + _ = _
  rw [Rat.zero_add]
end Go.Eng
namespace Go.Proofs.YtllnmicmblbfaaaGreat
open Go Go.Eng
def fR (os : List Mono) (i : Nat) : Nat → C := mC (os.getD i default)
theorem getD_ins {os : List Mono} {k i : Nat} {x : Mono} (hk : k ≤ os.length) : (os.take k ++ x :: os.drop k).getD i default = if i < k then os.getD i default else if i = k then x else os.getD (i - 1) default := by
  have hl : (os.take k).length = k := by rw [X5]; omega
  rw [X7, X7, X7]
  by_cases h1 : i < k
  · rw [if_pos h1, List.getElem?_append_left (by omega), List.getElem?_take_of_lt h1]
  · rw [if_neg h1, List.getElem?_append_right (by omega), hl]
    by_cases h2 : i = k
    · rw [if_pos h2, h2, Nat.sub_self]; rfl
    · rw [if_neg h2, show i - k = (i - 1 - k) + 1 by omega, List.getElem?_cons_succ, List.getElem?_drop, show k + (i - 1 - k) = i - 1 by omega]
theorem mC_list (m : Mono) {j : Nat} (hj : j < 5) : [C.bool (zs m.1.num), C.ints .u32 (zm m.1.num), C.bool (zs (m.1.den : Int)), C.ints .u32 (zm (m.1.den : Int)), C.ints .i64 m.2].getD j C.any = mC m j := by
  match j, hj with
  | 0, _ => rfl
  | 1, _ => rfl
  | 2, _ => rfl
  | 3, _ => rfl
  | 4, _ => rfl
theorem ins_rows {os : List Mono} {c : Rat} {v : List Int} {k : Nat} (hk : k ≤ os.length) (hins : insM c v os = os.take k ++ (c, v) :: os.drop k) : ∀ (i j : Nat), i < k + 1 + (os.length - k) → j < 5 →
    (if i < k + 1 then
      if i < k then if i < 0 then ([] : List C).getD (i * 5 + j) C.any else fR os (i - 0) j
      else [C.bool (zs c.num), C.ints .u32 (zm c.num), C.bool (zs (c.den : Int)), C.ints .u32 (zm (c.den : Int)), C.ints .i64 v].getD ((i - k) * 5 + j) C.any
    else fR os (k + (i - (k + 1))) j) = fR (insM c v os) i j := by
  intro i j hi hj
  unfold fR
  rw [hins, getD_ins hk]
  by_cases h1 : i < k
  · rw [if_pos (by omega), if_pos h1, if_pos h1, if_neg (by omega), Nat.sub_zero]
  · rw [if_neg h1, if_neg h1]
    by_cases h2 : i = k
    · subst h2
      rw [if_pos (by omega), if_pos rfl, Nat.sub_self, Nat.zero_mul, Nat.zero_add]
      exact mC_list (c, v) hj
    · rw [if_neg (by omega), if_neg h2, show k + (i - (k + 1)) = i - 1 by omega]
theorem snoc_rows (ks : List Mono) (b : Mono) : ∀ (i j : Nat), i < ks.length + 1 → j < 5 →
    (if i < ks.length then fR ks i j
    else [C.bool (zs b.1.num), C.ints .u32 (zm b.1.num), C.bool (zs (b.1.den : Int)), C.ints .u32 (zm (b.1.den : Int)), C.ints .i64 b.2].getD ((i - ks.length) * 5 + j) C.any) = fR (ks ++ [b]) i j := by
  intro i j hi hj
  unfold fR
  by_cases h : i < ks.length
  · rw [if_pos h, X7, X7, List.getElem?_append_left h]
  · have : i = ks.length := by omega
    subst this
    rw [if_neg h, Nat.sub_self, Nat.zero_mul, Nat.zero_add, mC_list b hj, X7, List.getElem?_append_right (Nat.le_refl _), Nat.sub_self]; rfl
theorem set_rows {os : List Mono} {c : Rat} {k : Nat} (hk : k < os.length) (i j : Nat) (hi : i < os.length) (hj : j < 5) :
    setElt (fR os) k 0 [C.bool (zs c.num), C.ints .u32 (zm c.num), C.bool (zs (c.den : Int)), C.ints .u32 (zm (c.den : Int))] i j = fR (os.set k (c, (os.getD k default).2)) i j := by
  unfold setElt fR
  by_cases h : i = k
  · subst h
    rw [if_pos rfl, getD_set_same hk]
    match j, hj with
    | 0, _ => rfl
    | 1, _ => rfl
    | 2, _ => rfl
    | 3, _ => rfl
    | 4, _ => rfl
  · rw [if_neg h, getD_set_other (fun e => h e.symm)]
theorem Sum_spec (l : List Mono) (B : Nat) (hl : POk l) (hB : ∀ m ∈ l, qm m.1 ≤ B) (hLB : l.length * (B + 1) < 2 ^ 30) : Pr Tryz.prog 66 [PV l] (PV (sumM l)) := by
  obtain ⟨hll, hlm⟩ := id hl
  refine pv T_ok mixed Tryz.func66 rfl (by decide) _ (by simp [Tryz.ntmps66]) ⟨[0, 2, 3, 4, 5, 6, 7, 8, 9, 14, 36, 52, 92, 101], []⟩ (by kernel_rfl) _ ?_
  show vc T _ _ (Option.get! Tryz.f66.body) _ _
  simp only [Tryz.f66,Tryz.ntmps66,Option.get!,iS,iM,eO,J1]
  simp only [vx,T,K5,J0,K6,K7,↓reduceIte,J1,J2,J3,J4,J5,J6,J7,J8,J9,reduceCtorEq,K1,K2,K3,K4,PV,PC]
  refine Lk (fun y : {y : Nat × List Mono // y.1 ≤ l.length ∧ sumL l [] = sumL (l.drop y.1) y.2 ∧ SB B y.1 y.2} => ⟨[(0, PV l), (2, .one .nil), (3, .one (.own 1 5 0 y.1.2.length)), (4, .one (.int .i64 y.1.1))], [(1, ⟨.rows 47 5 y.1.2.length (fR y.1.2), true⟩)], 2, 110⟩) (fun y => l.length - y.1.1) ⟨(0, []), by omega, rfl, by simp, fun m hm => by cases hm⟩ ?_ (fun ⟨⟨i, os⟩, hi, he, hom⟩ => ?_)
  · refine Sa ?_; simp only [rx,Y0,Y1,Y2,Y3,Y4,Y5,Y6,Y7,ren,↓reduceIte,J1,J2,J3,J4,J5,J6,J7,J8,J9,reduceCtorEq,K1,K2,K3,K4,Y8,Y9,X2,X3,X4,PV,PC]
    intro i j hi
    omega
  simp only at hi he hom
  have hol := hom.1
  simp only [vx,T,K5,J0,K6,K7,↓reduceIte,J1,J2,J3,J4,J5,J6,J7,J8,J9,reduceCtorEq,K1,K2,K3,K4,PV,PC]
  refine ⟨fun h1 => Lg ?_, fun h1 => Lg ?_⟩
  · have hil : i < l.length := by omega
    have m1 := hl.get i
    obtain ⟨a, ha⟩ : ∃ a, a = l.getD i default := ⟨_, rfl⟩
    rw [← ha] at m1
    simp only [vx,T,K5,J0,K6,K7,↓reduceIte,J1,J2,J3,J4,J5,J6,J7,J8,J9,reduceCtorEq,K1,K2,K3,K4,PV,PC,← ha,mC]
    refine ⟨by omega, Cg (sorted_spec a.2 (Nat.lt_trans m1.len (by decide))) ?_⟩
    obtain ⟨v, hv⟩ : ∃ v, v = srtZ a.2 := ⟨_, rfl⟩
    rw [← hv]
    have hvl : v.length < 2 ^ 30 := by rw [hv, srtZ_length]; exact m1.len
    have hvi : In63 v := fun x hx => m1.inr x (by rw [hv] at hx; exact (srtZ_perm a.2).mem_iff.1 hx)
    have hbo : i * (B + 1) + B + 1 < 2 ^ 30 + 1 := by
      have : (i + 1) * (B + 1) ≤ l.length * (B + 1) := Nat.mul_le_mul_right _ hil
      rw [Nat.add_mul] at this
      omega
    have hqa : qm a.1 ≤ B := by
      refine hB a ?_
      rw [ha, X7, X8 hil]
      exact List.getElem_mem hil
    have hSB := hom.ins (c := a.1) hqa hvi hvl
    have hnext : sumL l [] = sumL (l.drop (i + 1)) (insM a.1 v os) := by
      rw [he, drop_getD' hil, ← ha, hv]; rfl
    have hget := hom.get
    have i1 := wI i (by omega)
    simp only [vx,T,K5,J0,K6,K7,↓reduceIte,J1,J2,J3,J4,J5,J6,J7,J8,J9,reduceCtorEq,K1,K2,K3,K4]
    refine Lk (fun y : {k : Nat // k ≤ os.length ∧ insM a.1 v os = os.take k ++ insM a.1 v (os.drop k)} => ⟨[(0, PV l), (2, .one .nil), (3, .one (.own 1 5 0 os.length)), (4, .one (.int .i64 i)), (5, .one (.ints .i64 v)), (6, .one (.int .i64 y.1))], [(1, ⟨.rows 47 5 os.length (fR os), true⟩)], 2, 110⟩) (fun y => os.length - y.1) ⟨0, by omega, rfl⟩ ?_ (fun ⟨k, hk, hke⟩ => ?_)
    · refine Sa ?_; simp only [rx,Y0,Y1,Y2,Y3,Y4,Y5,Y6,Y7,ren,↓reduceIte,J1,J2,J3,J4,J5,J6,J7,J8,J9,reduceCtorEq,K1,K2,K3,K4,Y8,Y9,X2,X3,X4,PV,PC]
    have k1 : IntKind.i64.wrap ((k : Int) + 1) = ((k + 1 : Nat) : Int) := by rw [IntWalk.i64_in _ (by omega)]; omega
    obtain ⟨g1, g2, g3⟩ := hget k
    have hmC : fR os k 4 = .ints .i64 (os.getD k default).2 := rfl
    obtain ⟨b, hb⟩ : ∃ b, b = os.getD k default := ⟨_, rfl⟩
    rw [← hb] at g1 g2 g3 hmC
    obtain ⟨s1, s2⟩ := bef_sgn g2 hvi
    simp only [vx,T,K5,J0,K6,K7,↓reduceIte,J1,J2,J3,J4,J5,J6,J7,J8,J9,reduceCtorEq,K1,K2,K3,K4,PV,PC]
    refine ⟨fun h2 => Lg ?_, fun h2 => Lg ?_⟩
    · simp only [vx,T,K5,J0,K6,K7,↓reduceIte,J1,J2,J3,J4,J5,J6,J7,J8,J9,reduceCtorEq,K1,K2,K3,K4,hmC]
      refine ⟨by omega, Cg (before_spec b.2 v (by omega) (by omega)) ?_⟩
      simp only [vx,T,K5,J0,K6,K7,↓reduceIte,J1,J2,J3,J4,J5,J6,J7,J8,J9,reduceCtorEq,K1,K2,K3,K4]
      refine ⟨fun h3 => Lg ?_, fun h3 => Lg ?_⟩
      · rw [s1] at h3
        simp only [vx,T,K5,J0,K6,K7,↓reduceIte,J1,J2,J3,J4,J5,J6,J7,J8,J9,reduceCtorEq,K1,K2,K3,K4,PV,PC]
        simp only [k1]
        refine Lq ⟨k + 1, by omega, insM_step hke (by omega) (by rw [← hb]; exact h3)⟩ ?_ ?_
        · refine Sa ?_; simp only [rx,Y0,Y1,Y2,Y3,Y4,Y5,Y6,Y7,ren,↓reduceIte,J1,J2,J3,J4,J5,J6,J7,J8,J9,reduceCtorEq,K1,K2,K3,K4,Y8,Y9,X2,X3,X4,PV,PC]
        · simp only; omega
      · simp only [vx,T,K5,J0,K6,K7,↓reduceIte,J1,J2,J3,J4,J5,J6,J7,J8,J9,reduceCtorEq,K1,K2,K3,K4,PV,PC]
        refine ⟨fun h4 => Lg ?_, fun h4 => absurd h2 h4⟩
        simp only [vx,T,K5,J0,K6,K7,↓reduceIte,J1,J2,J3,J4,J5,J6,J7,J8,J9,reduceCtorEq,K1,K2,K3,K4,hmC]
        refine ⟨by omega, Cg (before_spec b.2 v (by omega) (by omega)) ?_⟩
        simp only [vx,T,K5,J0,K6,K7,↓reduceIte,J1,J2,J3,J4,J5,J6,J7,J8,J9,reduceCtorEq,K1,K2,K3,K4]
        refine ⟨fun h5 => Lg ?_, fun h5 => Lg ?_⟩
        · rw [s2] at h5
          have f0 : fR os k 0 = .bool (zs b.1.num) := by unfold fR; rw [← hb]; rfl
          have f1 : fR os k 1 = .ints .u32 (zm b.1.num) := by unfold fR; rw [← hb]; rfl
          have f2 : fR os k 2 = .bool (zs (b.1.den : Int)) := by unfold fR; rw [← hb]; rfl
          have f3 : fR os k 3 = .ints .u32 (zm (b.1.den : Int)) := by unfold fR; rw [← hb]; rfl
          simp only [vx,T,K5,J0,K6,K7,↓reduceIte,J1,J2,J3,J4,J5,J6,J7,J8,J9,reduceCtorEq,K1,K2,K3,K4,PV,PC,f0,f1,f2,f3,← ha,mC]
          refine ⟨by omega, by omega, Cg (rQAdd_spec b.1 a.1 (by omega) (by omega)) ?_⟩
          have hset := insM_set hke (by omega) (by rw [← hb]; exact h5)
          rw [← hb] at hset
          simp only [vx,T,K5,J0,K6,K7,↓reduceIte,J1,J2,J3,J4,J5,J6,J7,J8,J9,reduceCtorEq,K1,K2,K3,K4,PV,PC,QV,QC,frzs]
          simp only [i1]
          refine ⟨by omega, Lq ⟨(i + 1, insM a.1 v os), by omega, hnext, hSB⟩ ?_ ?_⟩
          · have hlen : (insM a.1 v os).length = os.length := by rw [hset, List.length_set]
            refine Sa ?_; simp only [rx,Y0,Y1,Y2,Y3,Y4,Y5,Y6,Y7,ren,↓reduceIte,J1,J2,J3,J4,J5,J6,J7,J8,J9,reduceCtorEq,K1,K2,K3,K4,Y8,Y9,X2,X3,X4,PV,PC,hlen]
            intro i' j' hi' hj'
            rw [set_rows (by omega) i' j' hi' hj', hset, ← hb, h5]
          · simp only; omega
        · have hins := insM_ins hke (fun _ => by rw [← hb]; exact ⟨fun e => h3 (s1.2 e), fun e => h5 (s2.2 e)⟩)
          have hlen : (insM a.1 v os).length = k + 1 + (os.length - k) := by rw [hins, X6, List.length_cons, X5, List.length_drop]; omega
          have hn1 : ((os.length : Int) - (k : Int)).toNat = os.length - k := by omega
          simp only [vx,T,K5,J0,K6,K7,↓reduceIte,J1,J2,J3,J4,J5,J6,J7,J8,J9,reduceCtorEq,K1,K2,K3,K4,PV,PC,← ha,mC]
          simp only [i1,hn1]
          refine ⟨by omega, by omega, by omega, by omega, by omega, by omega, Lq ⟨(i + 1, insM a.1 v os), by omega, hnext, hSB⟩ ?_ ?_⟩
          · refine Sa ?_; simp only [rx,Y0,Y1,Y2,Y3,Y4,Y5,Y6,Y7,ren,↓reduceIte,J1,J2,J3,J4,J5,J6,J7,J8,J9,reduceCtorEq,K1,K2,K3,K4,Y8,Y9,X2,X3,X4,PV,PC,hlen]
            exact ins_rows hk hins
          · simp only; omega
    · have hins := insM_ins hke (fun h => absurd h (by omega))
      simp only [vx,T,K5,J0,K6,K7,↓reduceIte,J1,J2,J3,J4,J5,J6,J7,J8,J9,reduceCtorEq,K1,K2,K3,K4,PV,PC]
      refine ⟨fun h4 => absurd h4 h2, fun h4 => Lg ?_⟩
      have hlen : (insM a.1 v os).length = k + 1 + (os.length - k) := by rw [hins, X6, List.length_cons, X5, List.length_drop]; omega
      have hn1 : ((os.length : Int) - (k : Int)).toNat = os.length - k := by omega
      simp only [vx,T,K5,J0,K6,K7,↓reduceIte,J1,J2,J3,J4,J5,J6,J7,J8,J9,reduceCtorEq,K1,K2,K3,K4,PV,PC,← ha,mC]
      simp only [i1,hn1]
      refine ⟨by omega, by omega, by omega, by omega, by omega, by omega, Lq ⟨(i + 1, insM a.1 v os), by omega, hnext, hSB⟩ ?_ ?_⟩
      · refine Sa ?_; simp only [rx,Y0,Y1,Y2,Y3,Y4,Y5,Y6,Y7,ren,↓reduceIte,J1,J2,J3,J4,J5,J6,J7,J8,J9,reduceCtorEq,K1,K2,K3,K4,Y8,Y9,X2,X3,X4,PV,PC,hlen]
        exact ins_rows hk hins
      · simp only; omega
  · have hil : i = l.length := by omega
    have hfin : sumL l [] = os := by rw [he, List.drop_eq_nil_of_le (by omega)]; rfl
    simp only [vx,T,K5,J0,K6,K7,↓reduceIte,J1,J2,J3,J4,J5,J6,J7,J8,J9,reduceCtorEq,K1,K2,K3,K4]
    refine Lk (fun y : {y : Nat × List Mono // y.1 ≤ os.length ∧ y.2 = (os.take y.1).filter fun m => decide (m.1 ≠ 0)} => ⟨[(2, .one .nil), (3, .one (.own 1 5 0 os.length)), (8, .one (.own 2 5 0 y.1.2.length)), (9, .one (.int .i64 y.1.1))], [(1, ⟨.rows 47 5 os.length (fR os), true⟩), (2, ⟨.rows 47 5 y.1.2.length (fR y.1.2), true⟩)], 3, 110⟩) (fun y => os.length - y.1.1) ⟨(0, []), by omega, rfl⟩ ?_ (fun ⟨⟨j, ks⟩, hj, hks⟩ => ?_)
    · refine Sa ?_; simp only [rx,Y0,Y1,Y2,Y3,Y4,Y5,Y6,Y7,ren,↓reduceIte,J1,J2,J3,J4,J5,J6,J7,J8,J9,reduceCtorEq,K1,K2,K3,K4,Y8,Y9,X2,X3,X4,PV,PC]
      intro i j hi
      omega
    simp only at hj hks
    have hkl : ks.length ≤ os.length := by rw [hks]; exact Nat.le_trans (List.length_filter_le _ _) (by rw [X5]; omega)
    have i1 := wI j (by omega)
    obtain ⟨g1, g2, g3⟩ := hom.get j
    obtain ⟨b, hb⟩ : ∃ b, b = os.getD j default := ⟨_, rfl⟩
    rw [← hb] at g1 g2 g3
    have f0 : fR os j 0 = .bool (zs b.1.num) := by unfold fR; rw [← hb]; rfl
    have f1 : fR os j 1 = .ints .u32 (zm b.1.num) := by unfold fR; rw [← hb]; rfl
    have f2 : fR os j 2 = .bool (zs (b.1.den : Int)) := by unfold fR; rw [← hb]; rfl
    have f3 : fR os j 3 = .ints .u32 (zm (b.1.den : Int)) := by unfold fR; rw [← hb]; rfl
    have f4 : fR os j 4 = .ints .i64 b.2 := by unfold fR; rw [← hb]; rfl
    have hbo : i * (B + 1) < 2 ^ 30 := by rw [hil]; exact hLB
    simp only [vx,T,K5,J0,K6,K7,↓reduceIte,J1,J2,J3,J4,J5,J6,J7,J8,J9,reduceCtorEq,K1,K2,K3,K4,PV,PC]
    refine ⟨fun h2 => Lg ?_, fun h2 => Lg ?_⟩
    · have hjo : j < os.length := by omega
      have htk : (os.take (j + 1)).filter (fun m => decide (m.1 ≠ 0)) = ks ++ (if b.1 ≠ 0 then [b] else []) := by
        rw [take_step hjo, ← hb, List.filter_append, ← hks]
        congr 1
        by_cases h0 : b.1 = 0
        · simp [h0]
        · simp [h0]
      simp only [vx,T,K5,J0,K6,K7,↓reduceIte,J1,J2,J3,J4,J5,J6,J7,J8,J9,reduceCtorEq,K1,K2,K3,K4,PV,PC,f0,f1,f2,f3,f4]
      refine ⟨by omega, Cg (rQSign_spec b.1 (by omega)) ?_⟩
      simp only [vx,T,K5,J0,K6,K7,↓reduceIte,J1,J2,J3,J4,J5,J6,J7,J8,J9,reduceCtorEq,K1,K2,K3,K4]
      refine ⟨fun h3 => Lg ?_, fun h3 => Lg ?_⟩
      · have h30 : b.1 ≠ 0 := fun e => h3 (by rw [e]; rfl)
        rw [if_pos h30] at htk
        have hlen : (ks ++ [b]).length = ks.length + 1 := by simp
        simp only [vx,T,K5,J0,K6,K7,↓reduceIte,J1,J2,J3,J4,J5,J6,J7,J8,J9,reduceCtorEq,K1,K2,K3,K4,PV,PC,f0,f1,f2,f3,f4]
        simp only [i1]
        refine ⟨by omega, by omega, Lq ⟨(j + 1, ks ++ [b]), by omega, htk.symm⟩ ?_ ?_⟩
        · refine Sa ?_; simp only [rx,Y0,Y1,Y2,Y3,Y4,Y5,Y6,Y7,ren,↓reduceIte,J1,J2,J3,J4,J5,J6,J7,J8,J9,reduceCtorEq,K1,K2,K3,K4,Y8,Y9,X2,X3,X4,PV,PC,hlen]
          exact snoc_rows ks b
        · simp only; omega
      · have h30 : b.1 = 0 := Rat.num_eq_zero.1 (sgn_zero.1 (by omega))
        rw [if_neg (fun h => h h30), List.append_nil] at htk
        simp only [vx,T,K5,J0,K6,K7,↓reduceIte,J1,J2,J3,J4,J5,J6,J7,J8,J9,reduceCtorEq,K1,K2,K3,K4,PV,PC]
        simp only [i1]
        refine Lq ⟨(j + 1, ks), by omega, htk.symm⟩ ?_ ?_
        · refine Sa ?_; simp only [rx,Y0,Y1,Y2,Y3,Y4,Y5,Y6,Y7,ren,↓reduceIte,J1,J2,J3,J4,J5,J6,J7,J8,J9,reduceCtorEq,K1,K2,K3,K4,Y8,Y9,X2,X3,X4,PV,PC]
        · simp only; omega
    · have hke : ks = sumM l := by
        unfold sumM
        rw [hks, hfin, List.take_of_length_le (by omega)]
      simp only [vx,T,K5,J0,K6,K7,↓reduceIte,J1,J2,J3,J4,J5,J6,J7,J8,J9,reduceCtorEq,K1,K2,K3,K4,PV,PC]
      rw [hke]
      exact Ve rfl
end Go.Proofs.YtllnmicmblbfaaaGreat
/-
  Linear functionals of sums of monomials; products and derivatives.
-/
namespace Go.Eng
def lin (g : List Int → Rat) : List Mono → Rat
  | [] => 0
  | m :: r => m.1 * g m.2 + lin g r
def ind (w v : List Int) : Rat := if v = w then 1 else 0
theorem lin_ind (l : List Mono) (w : List Int) : lin (ind w) l = co l w := by
  induction l with
  | nil => rfl
  | cons m r ih =>
    simp only [lin,co,ih,ind]
    split
    · rw [Rat.mul_one]
    · rw [Rat.mul_zero]
theorem lin_append (g : List Int → Rat) (a b : List Mono) : lin g (a ++ b) = lin g a + lin g b := by
  induction a with
  | nil => simp [lin, Rat.zero_add]
  | cons m r ih => simp only [List.cons_append,lin,ih,Rat.add_assoc]
theorem lin_insM (g : List Int → Rat) (c : Rat) (v : List Int) (l : List Mono) : lin g (insM c v l) = lin g l + c * g v := by
  induction l with
  | nil => simp only [insM,lin]; rw [Rat.add_comm]
  | cons m r ih =>
    simp only [insM]
    split
    · simp only [lin,ih,Rat.add_assoc]
    · split
      · rename_i h
        simp only [lin,h,Rat.add_mul]
        rw [Rat.add_assoc, Rat.add_assoc, Rat.add_comm (c * g v)]
      · simp only [lin]; rw [Rat.add_comm]
theorem lin_filter (g : List Int → Rat) (l : List Mono) : lin g (l.filter fun m => decide (m.1 ≠ 0)) = lin g l := by
  induction l with
  | nil => rfl
  | cons m r ih =>
    simp only [List.filter_cons]
    split
    · simp only [lin,ih]
    · rename_i h
      have h : m.1 = 0 := by simpa using h
      simp only [lin,ih,h,Rat.zero_mul,Rat.zero_add]
def norL (l os : List Mono) : List Mono := l.foldl (fun os m => insM m.1 m.2 os) os
def norM (l : List Mono) : List Mono := (norL l []).filter fun m => decide (m.1 ≠ 0)
theorem norL_asc (l : List Mono) {os : List Mono} (h : Asc os) : Asc (norL l os) := by
  induction l generalizing os with
  | nil => exact h
  | cons m r ih => exact ih (insM_asc _ _ h)
theorem norM_can (l : List Mono) : Can (norM l) := can_filter (norL_asc l List.Pairwise.nil)
theorem lin_norL (g : List Int → Rat) (l os : List Mono) : lin g (norL l os) = lin g os + lin g l := by
  induction l generalizing os with
  | nil => show _ = _ + 0; rw [Rat.add_zero]; rfl
  | cons m r ih =>
    have e : norL (m :: r) os = norL r (insM m.1 m.2 os) := rfl
    rw [e, ih, lin_insM]
    simp only [lin,Rat.add_assoc]
theorem lin_norM (g : List Int → Rat) (l : List Mono) : lin g (norM l) = lin g l := by
  unfold norM
  rw [lin_filter, lin_norL]
  show 0 + _ = _
  rw [Rat.zero_add]
theorem norM_co (l : List Mono) (v : List Int) : co (norM l) v = co l v := by rw [← lin_ind, ← lin_ind, lin_norM]
theorem norM_srt (l : List Mono) : norM (srtM l) = sumM l := can_ext (norM_can _) (sumM_can l) fun v => by rw [norM_co, sumM_co]
theorem norM_perm {a b : List Mono} (h : a.Perm b) : norM a = norM b := can_ext (norM_can _) (norM_can _) fun v => by rw [norM_co, norM_co, co_perm h]
def VAsc (l : List Mono) : Prop := ∀ m ∈ l, m.2.Pairwise (· ≤ ·)
theorem srtM_self {l : List Mono} (h : VAsc l) : srtM l = l := by
  unfold srtM
  conv => rhs; rw [← List.map_id l]
  exact List.map_congr_left fun m hm => by rw [srtZ_self (h m hm)]; rfl
theorem VAsc.append {a b : List Mono} (ha : VAsc a) (hb : VAsc b) : VAsc (a ++ b) := fun m hm => by
  rcases List.mem_append.1 hm with h | h
  · exact ha m h
  · exact hb m h
theorem VAsc.srtM (l : List Mono) : VAsc (srtM l) := fun m hm => by
  obtain ⟨x, _, rfl⟩ := List.mem_map.1 hm
  exact srtZ_pair _
theorem norL_mem {l os : List Mono} {x : Mono} (h : x ∈ norL l os) : (∃ m ∈ l, x.2 = m.2) ∨ ∃ m ∈ os, x.2 = m.2 := by
  induction l generalizing os with
  | nil => exact .inr ⟨x, h, rfl⟩
  | cons m r ih =>
    rcases ih h with ⟨y, hy, e⟩ | ⟨y, hy, e⟩
    · exact .inl ⟨y, by simp [hy], e⟩
    · rcases insM_mem hy with h1 | h1
      · exact .inl ⟨m, by simp, by rw [e, h1]⟩
      · exact .inr ⟨y, h1, e⟩
theorem norM_mem {l : List Mono} {x : Mono} (h : x ∈ norM l) : ∃ m ∈ l, x.2 = m.2 := by
  rcases norL_mem (List.mem_filter.1 h).1 with h1 | ⟨m, hm, _⟩
  · exact h1
  · cases hm
theorem VAsc.norM {l : List Mono} (h : VAsc l) : VAsc (norM l) := fun m hm => by
  obtain ⟨x, hx, e⟩ := norM_mem hm
  rw [e]; exact h x hx
theorem sumM_eq {l : List Mono} (h : VAsc l) : sumM l = Go.Eng.norM l := by rw [← norM_srt, srtM_self h]
theorem VAsc.sumM (l : List Mono) : VAsc (sumM l) := by rw [← norM_srt]; exact (VAsc.srtM l).norM
def mulL (p q : List Mono) : List Mono := p.flatMap fun a => q.map fun b => (a.1 * b.1, a.2 ++ b.2)
def mulR (a : Mono) (q : List Mono) : List Mono := q.map fun b => (a.1 * b.1, a.2 ++ b.2)
theorem srtM_append (a b : List Mono) : srtM (a ++ b) = srtM a ++ srtM b := List.map_append
theorem srtM_mulL_cons (a : Mono) (p q : List Mono) : srtM (mulL (a :: p) q) = srtM (mulR a q) ++ srtM (mulL p q) := by
  unfold mulL mulR; rw [List.flatMap_cons, srtM_append]
theorem lin_mulR (g : List Int → Rat) (a : Mono) (q : List Mono) : lin g (srtM (mulR a q)) = a.1 * lin (fun u => g (srtZ (a.2 ++ u))) q := by
  induction q with
  | nil => show (0 : Rat) = _ * 0; rw [Rat.mul_zero]
  | cons b q ih =>
    unfold mulR srtM at *
    simp only [List.map_cons,lin]
    rw [ih, Rat.mul_add, Rat.mul_assoc]
theorem lin_mulL (g : List Int → Rat) (p q : List Mono) : lin g (srtM (mulL p q)) = lin (fun v => lin (fun u => g (srtZ (v ++ u))) q) p := by
  induction p with
  | nil => rfl
  | cons a p ih => rw [srtM_mulL_cons, lin_append, lin_mulR, ih]; rfl
def mulM (p q : List Mono) : List Mono := sumM (mulL p q)
theorem mulM_eq (p q : List Mono) : mulM p q = norM (srtM (mulL p q)) := (norM_srt _).symm
theorem lin_mulM (g : List Int → Rat) (p q : List Mono) : lin g (mulM p q) = lin (fun v => lin (fun u => g (srtZ (v ++ u))) q) p := by rw [mulM_eq, lin_norM, lin_mulL]
theorem mulM_can (p q : List Mono) : Can (mulM p q) := sumM_can _
theorem can_ext' {a b : List Mono} (ha : Can a) (hb : Can b) (h : ∀ g, lin g a = lin g b) : a = b := can_ext ha hb fun v => by rw [← lin_ind, ← lin_ind, h]
def derP (p : List Mono) (v : Int) : List Mono := p.flatMap fun m => if m.2.count v = 0 then [] else [(m.1 * (m.2.count v : Nat), m.2.erase v)]
theorem srtM_flatMap {α : Type} (f : α → List Mono) (l : List α) : srtM (l.flatMap f) = l.flatMap fun x => srtM (f x) := by
  induction l with
  | nil => rfl
  | cons x r ih => rw [List.flatMap_cons, srtM_append, ih, List.flatMap_cons]
theorem flatMap_congr' {α β : Type} {f g : α → List β} {l : List α} (h : ∀ x ∈ l, f x = g x) : l.flatMap f = l.flatMap g := by
  induction l with
  | nil => rfl
  | cons x r ih => rw [List.flatMap_cons, List.flatMap_cons, h x (by simp), ih fun y hy => h y (by simp [hy])]
def derM (p : List Mono) (v : Int) : List Mono := norM (derP p v)
end Go.Eng
/-
  Bounds of polynomials.
-/
namespace Go.Eng
structure PB (p : List Mono) (n d B : Nat) : Prop where
  n : p.length ≤ n
  m : ∀ m ∈ p, qm m.1 ≤ B ∧ m.2.length ≤ d ∧ In63 m.2
theorem PB.pok {p : List Mono} {n d B : Nat} (h : PB p n d B) (hn : n < 2 ^ 30) (hd : d < 2 ^ 30) (hB : B < 2 ^ 30) : POk p :=
  ⟨Nat.lt_of_le_of_lt h.n hn, fun m hm => ⟨Nat.lt_of_le_of_lt (h.m m hm).1 hB, Nat.lt_of_le_of_lt (h.m m hm).2.1 hd, (h.m m hm).2.2⟩⟩
theorem PB.mono {p : List Mono} {n d B n' d' B' : Nat} (h : PB p n d B) (hn : n ≤ n') (hd : d ≤ d') (hB : B ≤ B') : PB p n' d' B' :=
  ⟨Nat.le_trans h.n hn, fun m hm => ⟨Nat.le_trans (h.m m hm).1 hB, Nat.le_trans (h.m m hm).2.1 hd, (h.m m hm).2.2⟩⟩
theorem PB.append {p q : List Mono} {n d B n' d' B' : Nat} (h : PB p n d B) (h' : PB q n' d' B') : PB (p ++ q) (n + n') (max d d') (max B B') :=
  ⟨by rw [X6]; exact Nat.add_le_add h.n h'.n, fun m hm => by
    rcases List.mem_append.1 hm with hm | hm
    · have := h.m m hm; exact ⟨by omega, by omega, this.2.2⟩
    · have := h'.m m hm; exact ⟨by omega, by omega, this.2.2⟩⟩
theorem In63.srtZ {l : List Int} (h : In63 l) : In63 (srtZ l) := fun x hx => h x ((srtZ_perm l).mem_iff.1 hx)
theorem PB.sumL {l : List Mono} {d B : Nat} (h : ∀ m ∈ l, qm m.1 ≤ B ∧ m.2.length ≤ d ∧ In63 m.2) : ∀ (i : Nat) (os : List Mono), (os.length ≤ i ∧ ∀ m ∈ os, qm m.1 ≤ i * (B + 1) ∧ m.2.length ≤ d ∧ In63 m.2) →
    (norL l os).length ≤ i + l.length ∧ ∀ m ∈ norL l os, qm m.1 ≤ (i + l.length) * (B + 1) ∧ m.2.length ≤ d ∧ In63 m.2 := by
  induction l with
  | nil => intro i os ho; exact ho
  | cons x r ih =>
    intro i os ho
    have hx := h x (by simp)
    have e : norL (x :: r) os = norL r (insM x.1 x.2 os) := rfl
    rw [e, List.length_cons, show i + (r.length + 1) = (i + 1) + r.length by omega]
    have e2 : (i + 1) * (B + 1) = i * (B + 1) + B + 1 := by rw [Nat.add_mul]; omega
    refine ih (fun m hm => h m (by simp [hm])) (i + 1) _ ⟨?_, fun m hm => ?_⟩
    · have : (insM x.1 x.2 os).length ≤ os.length + 1 := by
        clear ho
        induction os with
        | nil => simp [insM]
        | cons m r ih =>
          simp only [insM]
          split
          · simp only [List.length_cons]; have := ih rfl; omega
          · split <;> simp
      have := ho.1
      omega
    · rw [e2]
      rcases insM_mem' hm with hm | rfl | ⟨n, hn, rfl⟩
      · have := ho.2 m hm
        exact ⟨by omega, this.2⟩
      · exact ⟨by have := hx.1; simp only; omega, hx.2⟩
      · have h1 := ho.2 n hn
        have h2 := qm_add n.1 x.1
        exact ⟨by have := hx.1; simp only; omega, hx.2⟩
theorem PB.norM {l : List Mono} {n d B : Nat} (h : PB l n d B) : PB (norM l) n d (n * (B + 1)) := by
  obtain ⟨h1, h2⟩ := PB.sumL h.m 0 [] ⟨by simp, fun m hm => by cases hm⟩
  rw [Nat.zero_add] at h1 h2
  refine ⟨Nat.le_trans (List.length_filter_le _ _) (Nat.le_trans h1 h.n), fun m hm => ?_⟩
  have := h2 m (List.mem_filter.1 hm).1
  exact ⟨Nat.le_trans this.1 (Nat.mul_le_mul_right _ h.n), this.2⟩
theorem PB.srtM {l : List Mono} {n d B : Nat} (h : PB l n d B) : PB (srtM l) n d B := by
  refine ⟨by unfold Eng.srtM; rw [List.length_map]; exact h.n, fun m hm => ?_⟩
  obtain ⟨x, hx, rfl⟩ := List.mem_map.1 hm
  have := h.m x hx
  exact ⟨this.1, by rw [srtZ_length]; exact this.2.1, In63.srtZ this.2.2⟩
theorem PB.sumM {l : List Mono} {n d B : Nat} (h : PB l n d B) : PB (sumM l) n d (n * (B + 1)) := by rw [← norM_srt]; exact h.srtM.norM
theorem PB.nil (d B : Nat) : PB [] 0 d B := ⟨Nat.le_refl _, fun m hm => by cases hm⟩
theorem PB.cons {m : Mono} {l : List Mono} {n d B : Nat} (hm : qm m.1 ≤ B ∧ m.2.length ≤ d ∧ In63 m.2) (h : PB l n d B) : PB (m :: l) (n + 1) d B :=
  ⟨by rw [List.length_cons]; exact Nat.succ_le_succ h.n, fun x hx => by
    rcases List.mem_cons.1 hx with rfl | hx
    · exact hm
    · exact h.m x hx⟩
theorem PB.tail {m : Mono} {l : List Mono} {n d B : Nat} (h : PB (m :: l) n d B) : PB l (n - 1) d B :=
  ⟨by have := h.n; rw [List.length_cons] at this; omega, fun x hx => h.m x (by simp [hx])⟩
theorem In63.append {a b : List Int} (ha : In63 a) (hb : In63 b) : In63 (a ++ b) := fun x hx => by
  rcases List.mem_append.1 hx with h | h
  · exact ha x h
  · exact hb x h
theorem mulL_length (p q : List Mono) : (mulL p q).length = p.length * q.length := by
  induction p with
  | nil => simp [mulL]
  | cons a p ih => unfold mulL at *; rw [List.flatMap_cons, X6, ih, List.length_map, List.length_cons, Nat.add_mul]; omega
theorem PB.mulL {p q : List Mono} {n d B n' d' B' : Nat} (h : PB p n d B) (h' : PB q n' d' B') : PB (mulL p q) (n * n') (d + d') (B + B') := by
  refine ⟨by rw [mulL_length]; exact Nat.mul_le_mul h.n h'.n, fun m hm => ?_⟩
  obtain ⟨a, ha, hm⟩ := List.mem_flatMap.1 hm
  obtain ⟨b, hb, rfl⟩ := List.mem_map.1 hm
  have h1 := h.m a ha
  have h2 := h'.m b hb
  have h3 := qm_mul a.1 b.1
  exact ⟨by simp only; omega, by simp only [X6]; omega, In63.append h1.2.2 h2.2.2⟩
theorem PB.mulM {p q : List Mono} {n d B n' d' B' : Nat} (h : PB p n d B) (h' : PB q n' d' B') : PB (mulM p q) (n * n') (d + d') (n * n' * (B + B' + 1)) := (h.mulL h').sumM
theorem take_map_step {α β : Type} [Inhabited α] (g : α → β) {l : List α} {i : Nat} (h : i < l.length) : (l.take (i + 1)).map g = (l.take i).map g ++ [g (l.getD i default)] := by
  rw [List.take_add_one, List.map_append, X7, X8 h]; rfl
theorem take_flatMap_step {α β : Type} [Inhabited α] (g : α → List β) {l : List α} {i : Nat} (h : i < l.length) : (l.take (i + 1)).flatMap g = (l.take i).flatMap g ++ g (l.getD i default) := by
  rw [List.take_add_one, List.flatMap_append, X7, X8 h]; simp
theorem PB.get {p : List Mono} {n d B : Nat} (h : PB p n d B) {i : Nat} (hi : i < p.length) : qm (p.getD i default).1 ≤ B ∧ (p.getD i default).2.length ≤ d ∧ In63 (p.getD i default).2 := by
  rw [X7, X8 hi]
  exact h.m _ (List.getElem_mem hi)
theorem PB.scale {p : List Mono} {n d B B' : Nat} (h : PB p n d B) {x : Rat} (hx : qm x ≤ B') : PB (p.map fun m => (m.1 * x, m.2)) n d (B + B') := by
  refine ⟨by rw [List.length_map]; exact h.n, fun m hm => ?_⟩
  obtain ⟨a, ha, rfl⟩ := List.mem_map.1 hm
  have h1 := h.m a ha
  have h2 := qm_mul a.1 x
  exact ⟨by simp only; omega, h1.2⟩
end Go.Eng
/-
  THE ENGINE, PART ZA: arguments that stand for the same.
-/
namespace Go.Eng
open Go
def VLeN (x y : V) : Prop := ∀ ok w v, RepV1 loc0 dom0 ok w x v → RepV1 loc0 dom0 ok w y v
theorem VLeN.refl (x : V) : VLeN x x := fun _ _ _ h => h
def VLeA : List V → List V → Prop
  | [], [] => True
  | x :: xs, y :: ys => VLeN x y ∧ VLeA xs ys
  | _, _ => False
theorem VLeA.rep {ok : Nat → Prop} {w : World} : ∀ {xs ys : List V} {vs : List Value}, VLeA xs ys → RepVL loc0 dom0 ok w xs vs → RepVL loc0 dom0 ok w ys vs
  | [], [], _, _, h => h
  | x :: xs, y :: ys, [], _, h => h.elim
  | x :: xs, y :: ys, v :: vs, ha, h => ⟨ha.1 ok w v h.1, VLeA.rep ha.2 h.2⟩
  | [], _ :: _, _, ha, _ => ha.elim
  | _ :: _, [], _, ha, _ => ha.elim
theorem Pr.args {P : Program} {f : FuncId} {xs ys : List V} {r : V} (h : Pr P f ys r) (ha : VLeA xs ys) : Pr P f xs r :=
  ⟨h.1, fun ok w vs hok hvs => h.2 ok w vs hok (ha.rep hvs)⟩
def CLe (c c' : C) : Prop := ∀ ok w v, RepI ok w c v → RepI ok w c' v
theorem CLe.refl (c : C) : CLe c c := fun _ _ _ h => h
theorem CLe.of_eq {c c' : C} (h : c = c') : CLe c c' := h ▸ CLe.refl c
theorem CLe.nil_ints (k : IntKind) : CLe .nil (.ints k []) := fun ok w v h => ⟨none, 0, h, Nat.le_refl _, .inl rfl⟩
theorem CLe.rows {wd n n' : Nat} {f g : Nat → Nat → C} (hn : n = n') (h : ∀ i j, i < n → j < wd → CLe (f i j) (g i j)) : CLe (.rows wd n f) (.rows wd n' g) := by
  subst hn
  rintro ok w v ⟨a, cap, hv, hle, hr⟩
  refine ⟨a, cap, hv, hle, ?_⟩
  rcases hr with hr | ⟨b, o, ha, hg, hcs⟩
  · exact .inl hr
  · refine .inr ⟨b, o, ha, hg, fun i j hi hj => ?_⟩
    obtain ⟨u, hu, hr⟩ := hcs i j hi hj
    exact ⟨u, hu, h i j hi hj ok w u hr⟩
theorem VLeN.cell {c c' : C} (h : CLe c c') : VLeN (.one c) (.one c') := fun ok w v hr => RepC.of_repI (h ok w v (RepI.of_loc0 hr))
theorem Pr.arg1c {P : Program} {f : FuncId} {x y : C} {r : V} (h : Pr P f [.one y] r) (ha : CLe x y) : Pr P f [.one x] r :=
  h.args ⟨.cell ha, trivial⟩
theorem Pr.arg2c {P : Program} {f : FuncId} {x y x' y' : C} {r : V} (h : Pr P f [.one y, .one y'] r) (ha : CLe x y) (ha' : CLe x' y') : Pr P f [.one x, .one x'] r :=
  h.args ⟨.cell ha, .cell ha', trivial⟩
theorem Mc.pre {P : Program} {f : FuncId} {args : List V} {e : TypeId} {wd n : Nat} {g g' : Nat → Nat → C} {R : V → Bk → Prop} (h : Mc P f args (.rows e wd n g) R)
    (hg : ∀ i j, i < n → j < wd → CLe (g' i j) (g i j)) : Mc P f args (.rows e wd n g') R := by
  refine ⟨h.1, fun ok w vs l hok hl ha hb hvs => h.2 ok w vs l hok hl ha ?_ hvs⟩
  unfold RepBk at hb ⊢
  cases hla : l.addr with
  | none =>
    rw [hla] at hb
    intro j
    have := hb j
    simp only [Bk.cell] at this ⊢
    split at this
    · cases this
    · rename_i hj; rw [if_neg hj]
  | some x =>
    obtain ⟨b, o⟩ := x
    rw [hla] at hb
    obtain ⟨cur, e', hg', hc⟩ := hb
    refine ⟨cur, e', hg', fun j c hj => ?_⟩
    simp only [Bk.cell] at hj hc
    split at hj
    · rename_i hjl
      obtain ⟨u, hu, hr⟩ := hc j (g' (j / wd) (j % wd)) (if_pos hjl)
      obtain rfl := Option.some.inj hj
      have h0 : 0 < wd := by
        rcases Nat.eq_zero_or_pos wd with h0 | h0
        · subst h0; omega
        · exact h0
      exact ⟨u, hu, hg _ _ ((Nat.div_lt_iff_lt_mul h0).2 hjl) (Nat.mod_lt _ h0) _ _ _ hr⟩
    · cases hj
end Go.Eng
namespace Go.Proofs.YtllnmicmblbfaaaGreat
open Go Go.Eng
theorem app_rows (p q : List Mono) : ∀ (i j : Nat), i < p.length + q.length → j < 5 → (if i < p.length then fR p i j else fR q (i - p.length) j) = fR (p ++ q) i j := by
  intro i j hi hj
  unfold fR
  rw [X7 (l := p ++ q)]
  by_cases h : i < p.length
  · rw [if_pos h, List.getElem?_append_left h, X7]
  · rw [if_neg h, List.getElem?_append_right (by omega), X7]
theorem SumR_spec {l : List Mono} {n d B : Nat} (h : PB l n d B) (hd : d < 2 ^ 30) (hn : n * (B + 1) < 2 ^ 30) {k : Nat} {f : Nat → Nat → C} (hk : k = l.length) (hf : ∀ i j, i < k → j < 5 → CLe (f i j) (fR l i j)) :
    Pr Tryz.prog 66 [.one (.rows 5 k f)] (PV (sumM l)) := by
  have h1 : l.length * (B + 1) < 2 ^ 30 := Nat.lt_of_le_of_lt (Nat.mul_le_mul_right _ h.n) hn
  refine Pr.arg1c (y := PC l) ?_ (CLe.rows hk hf)
  by_cases h0 : l = []
  · subst h0
    exact Sum_spec [] 0 ⟨by decide, fun m hm => by cases hm⟩ (fun m hm => by cases hm) (by decide)
  · have h2 : 1 ≤ l.length := by
      cases l with
      | nil => exact absurd rfl h0
      | cons x r => simp
    have h3 : 1 * (B + 1) ≤ l.length * (B + 1) := Nat.mul_le_mul_right _ h2
    have h4 : l.length * 1 ≤ l.length * (B + 1) := Nat.mul_le_mul_left _ (by omega)
    exact Sum_spec l B ⟨by omega, fun m hm => ⟨by have := (h.m m hm).1; omega, Nat.lt_of_le_of_lt (h.m m hm).2.1 hd, (h.m m hm).2.2⟩⟩ (fun m hm => (h.m m hm).1) h1
theorem rAddP_spec {p q : List Mono} {n d B n' d' B' : Nat} (hp : PB p n d B) (hq : PB q n' d' B') (hd : max d d' < 2 ^ 30) (hn : (n + n') * (max B B' + 1) < 2 ^ 30) : Pr Tryz.prog 43 [PV p, PV q] (PV (sumM (p ++ q))) := by
  have hl : n + n' < 2 ^ 30 := Nat.lt_of_le_of_lt (Nat.le_mul_of_pos_right _ (by omega)) hn
  have hpl := hp.n
  have hql := hq.n
  refine pv T_ok mixed Tryz.func43 rfl (by decide) _ (by simp [Tryz.ntmps43]) ⟨[0, 1, 4], []⟩ (by kernel_rfl) _ ?_
  show vc T _ _ (Option.get! Tryz.f43.body) _ _
  simp only [Tryz.f43,Tryz.ntmps43,Option.get!,iS,iM,eO,J1]
  simp only [vx,T,K5,J0,K6,K7,↓reduceIte,J1,J2,J3,J4,J5,J6,J7,J8,J9,reduceCtorEq,K1,K2,K3,K4,PV,PC]
  refine ⟨by omega, by omega, Cg (SumR_spec (hp.append hq) hd hn (by rw [X6]) ?_) ?_⟩
  · intro i j hi hj
    rw [← app_rows p q i j hi hj]
    refine CLe.of_eq ?_
    by_cases h : i < p.length
    · rw [if_pos h, if_pos h, if_neg (by omega), Nat.sub_zero]; rfl
    · rw [if_neg h, if_neg h]; rfl
  · simp only [vx,T,K5,J0,K6,K7,↓reduceIte,J1,J2,J3,J4,J5,J6,J7,J8,J9,reduceCtorEq,K1,K2,K3,K4,PV,PC]
    exact Ve rfl
theorem snocR {ks : List Mono} {k : Nat} (hk : ks.length = k) (b : Mono) : ∀ (i j : Nat), i < k + 1 → j < 5 →
    (if i < k then fR ks i j
    else [C.bool (zs b.1.num), C.ints .u32 (zm b.1.num), C.bool (zs (b.1.den : Int)), C.ints .u32 (zm (b.1.den : Int)), C.ints .i64 b.2].getD ((i - k) * 5 + j) C.any) = fR (ks ++ [b]) i j := by
  subst hk
  exact snoc_rows ks b
theorem rScale_spec {p : List Mono} {n d B : Nat} (x : Rat) {B' : Nat} (hp : PB p n d B) (hx : qm x ≤ B') (hd : d < 2 ^ 30) (hn : n * (B + B' + 1) < 2 ^ 30) (hB : B + B' < 2 ^ 30) : Pr Tryz.prog 67 [PV p, QV x] (PV (sumM (p.map fun m => (m.1 * x, m.2)))) := by
  have hpl := hp.n
  have hn1 : n < 2 ^ 30 := Nat.lt_of_le_of_lt (Nat.le_mul_of_pos_right _ (by omega)) hn
  obtain ⟨g, hg⟩ : ∃ g : Mono → Mono, g = fun m => (m.1 * x, m.2) := ⟨_, rfl⟩
  rw [← hg]
  refine pv T_ok mixed Tryz.func67 rfl (by decide) _ (by simp [Tryz.ntmps67]) ⟨[0, 1, 3, 4, 5, 6, 10], []⟩ (by kernel_rfl) _ ?_
  show vc T _ _ (Option.get! Tryz.f67.body) _ _
  simp only [Tryz.f67,Tryz.ntmps67,Option.get!,iS,iM,eO,J1]
  simp only [vx,T,K5,J0,K6,K7,↓reduceIte,J1,J2,J3,J4,J5,J6,J7,J8,J9,reduceCtorEq,K1,K2,K3,K4,PV,PC,QV,QC]
  refine Lk (fun y : {i : Nat // i ≤ p.length} => ⟨[(0, PV p), (3, .one (.ptr 1 0)), (4, .one .nil), (5, .one (.own 2 5 0 y.1)), (6, .one (.int .i64 y.1))], [(1, ⟨.var (QC x), true⟩), (2, ⟨.rows 47 5 y.1 (fR ((p.take y.1).map g)), true⟩)], 5, 31⟩) (fun y => p.length - y.1) ⟨0, by omega⟩ ?_ (fun ⟨i, hi⟩ => ?_)
  · refine Sa ?_; simp only [rx,Y0,Y1,Y2,Y3,Y4,Y5,Y6,Y7,ren,↓reduceIte,J1,J2,J3,J4,J5,J6,J7,J8,J9,reduceCtorEq,K1,K2,K3,K4,Y8,Y9,X2,X3,X4,PV,PC,QC]
  simp only [vx,T,K5,J0,K6,K7,↓reduceIte,J1,J2,J3,J4,J5,J6,J7,J8,J9,reduceCtorEq,K1,K2,K3,K4,PV,PC,QC]
  refine ⟨fun h1 => Lg ?_, fun h1 => Lg ?_⟩
  · have hil : i < p.length := by omega
    have i1 := wI i (by omega)
    obtain ⟨a, ha⟩ : ∃ a, a = p.getD i default := ⟨_, rfl⟩
    have hstep := take_map_step g hil
    rw [← ha] at hstep
    have hga : g a = (a.1 * x, a.2) := by rw [hg]
    have hpi := hp.get hil
    rw [← ha] at hpi
    simp only [vx,T,K5,J0,K6,K7,↓reduceIte,J1,J2,J3,J4,J5,J6,J7,J8,J9,reduceCtorEq,K1,K2,K3,K4,PV,PC,QC,← ha,mC]
    refine ⟨by omega, Cg (rQMul_spec a.1 x (by omega) (by omega)) ?_⟩
    simp only [vx,T,K5,J0,K6,K7,↓reduceIte,J1,J2,J3,J4,J5,J6,J7,J8,J9,reduceCtorEq,K1,K2,K3,K4,PV,PC,QV,QC,← ha,mC]
    simp only [i1]
    refine ⟨by omega, by omega, Lq ⟨i + 1, by omega⟩ ?_ ?_⟩
    · refine Sa ?_; simp only [rx,Y0,Y1,Y2,Y3,Y4,Y5,Y6,Y7,ren,↓reduceIte,J1,J2,J3,J4,J5,J6,J7,J8,J9,reduceCtorEq,K1,K2,K3,K4,Y8,Y9,X2,X3,X4,PV,PC,QC]
      rw [hstep, hga]
      exact snocR (by rw [List.length_map, X5]; omega) (a.1 * x, a.2)
    · simp only; omega
  · have hil : i = p.length := by omega
    subst hil
    have e1 : (p.take p.length).map g = p.map (fun m => (m.1 * x, m.2)) := by rw [List.take_length, hg]
    rw [e1, hg]
    simp only [vx,T,K5,J0,K6,K7,↓reduceIte,J1,J2,J3,J4,J5,J6,J7,J8,J9,reduceCtorEq,K1,K2,K3,K4,PV,PC]
    refine Cg (SumR_spec (hp.scale hx) hd hn (by rw [List.length_map]) (fun _ _ _ _ => CLe.refl _)) ?_
    simp only [vx,T,K5,J0,K6,K7,↓reduceIte,J1,J2,J3,J4,J5,J6,J7,J8,J9,reduceCtorEq,K1,K2,K3,K4,PV,PC]
    exact Ve rfl
theorem rMulP_spec {p q : List Mono} {n d B n' d' B' : Nat} (hp : PB p n d B) (hq : PB q n' d' B') (hd : d + d' < 2 ^ 30) (hn : n * n' * (B + B' + 1) < 2 ^ 30) (hn1 : n < 2 ^ 30) (hn2 : n' < 2 ^ 30) (hB : B + B' < 2 ^ 30) : Pr Tryz.prog 41 [PV p, PV q] (PV (mulM p q)) := by
  have hpl := hp.n
  have hql := hq.n
  obtain ⟨g, hg⟩ : ∃ g : Mono → Mono → Mono, g = fun a b => (a.1 * b.1, a.2 ++ b.2) := ⟨_, rfl⟩
  have hnn : n * n' < 2 ^ 30 := Nat.lt_of_le_of_lt (Nat.le_mul_of_pos_right _ (by omega)) hn
  have hL : p.length * q.length ≤ n * n' := Nat.mul_le_mul hpl hql
  have hlen : ∀ x, x ≤ p.length → ((p.take x).flatMap fun a => q.map (g a)).length = x * q.length := by
    intro x hx
    have : ∀ l : List Mono, (l.flatMap fun a => q.map (g a)).length = l.length * q.length := by
      intro l
      induction l with
      | nil => simp
      | cons a l ih => rw [List.flatMap_cons, X6, ih, List.length_map, List.length_cons, Nat.add_mul]; omega
    rw [this, X5, Nat.min_eq_left hx]
  refine pv T_ok mixed Tryz.func41 rfl (by decide) _ (by simp [Tryz.ntmps41]) ⟨[0, 1, 4, 5, 6, 7, 8, 12, 18], [(8, (.cons 6 [7, 8, 9, 10, 11] (.cons 12 [] (.cons 13 [] .nil .nil) .nil) .nil))]⟩ (by kernel_rfl) _ ?_
  show vc T _ _ (Option.get! Tryz.f41.body) _ _
  simp only [Tryz.f41,Tryz.ntmps41,Option.get!,iS,iM,eO,J1]
  simp only [vx,T,K5,J0,K6,K7,↓reduceIte,J1,J2,J3,J4,J5,J6,J7,J8,J9,reduceCtorEq,K1,K2,K3,K4,PV,PC]
  refine Lk (fun y : {y : Nat × List Mono // y.1 ≤ p.length ∧ y.2 = (p.take y.1).flatMap fun a => q.map (g a)} => ⟨[(0, PV p), (1, PV q), (4, .one .nil), (5, .one (.own 1 5 0 y.1.2.length)), (6, .one (.int .i64 y.1.1))], [(1, ⟨.rows 47 5 y.1.2.length (fR y.1.2), true⟩)], 5, 52⟩) (fun y => p.length - y.1.1) ⟨(0, []), by omega, rfl⟩ ?_ (fun ⟨⟨i, ls⟩, hi, hls⟩ => ?_)
  · refine Sa ?_; simp only [rx,Y0,Y1,Y2,Y3,Y4,Y5,Y6,Y7,ren,↓reduceIte,J1,J2,J3,J4,J5,J6,J7,J8,J9,reduceCtorEq,K1,K2,K3,K4,Y8,Y9,X2,X3,X4,PV,PC]
  simp only at hi hls
  simp only [vx,T,K5,J0,K6,K7,↓reduceIte,J1,J2,J3,J4,J5,J6,J7,J8,J9,reduceCtorEq,K1,K2,K3,K4,PV,PC]
  refine ⟨fun h1 => Lg ?_, fun h1 => Lg ?_⟩
  · have hil : i < p.length := by omega
    have i1 := wI i (by omega)
    obtain ⟨a, ha⟩ : ∃ a, a = p.getD i default := ⟨_, rfl⟩
    have hpi := hp.get hil
    have hstep := take_flatMap_step (fun a => q.map (g a)) hil
    rw [← ha] at hstep hpi
    rw [← hls] at hstep
    simp only [vx,T,K5,J0,K6,K7,↓reduceIte,J1,J2,J3,J4,J5,J6,J7,J8,J9,reduceCtorEq,K1,K2,K3,K4,PV,PC,← ha,mC]
    refine Lk (fun y : {y : Nat × List Mono // y.1 ≤ q.length ∧ y.2 = ls ++ (q.take y.1).map (g a)} => ⟨[(0, PV p), (1, PV q), (4, .one .nil), (5, .one (.own 1 5 0 y.1.2.length)), (6, .one (.int .i64 i)), (7, .one (.int .i64 y.1.1))], [(1, ⟨.rows 47 5 y.1.2.length (fR y.1.2), true⟩)], 5, 52⟩) (fun y => q.length - y.1.1) ⟨(0, ls), by omega, by simp⟩ ?_ (fun ⟨⟨k, ks⟩, hk, hks⟩ => ?_)
    · refine Sa ?_; simp only [rx,Y0,Y1,Y2,Y3,Y4,Y5,Y6,Y7,ren,↓reduceIte,J1,J2,J3,J4,J5,J6,J7,J8,J9,reduceCtorEq,K1,K2,K3,K4,Y8,Y9,X2,X3,X4,PV,PC]
    simp only at hk hks
    simp only [vx,T,K5,J0,K6,K7,↓reduceIte,J1,J2,J3,J4,J5,J6,J7,J8,J9,reduceCtorEq,K1,K2,K3,K4,PV,PC]
    refine ⟨fun h2 => Lg ?_, fun h2 => Lg ?_⟩
    · have hkl : k < q.length := by omega
      have k1 : IntKind.i64.wrap ((k : Int) + 1) = ((k + 1 : Nat) : Int) := by rw [IntWalk.i64_in _ (by omega)]; omega
      obtain ⟨b, hb⟩ : ∃ b, b = q.getD k default := ⟨_, rfl⟩
      have hqk := hq.get hkl
      have hstep2 := take_map_step (g a) hkl
      rw [← hb] at hstep2 hqk
      simp only [vx,T,K5,J0,K6,K7,↓reduceIte,J1,J2,J3,J4,J5,J6,J7,J8,J9,reduceCtorEq,K1,K2,K3,K4,PV,PC,← ha,← hb,mC]
      have hll := hlen i hi
      rw [← hls] at hll
      have hks2 : ks.length = ls.length + k := by rw [hks, X6, List.length_map, X5]; omega
      have hil2 : (i + 1) * q.length ≤ p.length * q.length := Nat.mul_le_mul_right _ hil
      rw [Nat.add_mul] at hil2
      have e9 : (ks ++ [g a b]).length = ks.length + 1 := by simp
      refine ⟨by omega, by omega, by omega, by omega, by omega, by omega, by omega, Cg (rQMul_spec a.1 b.1 (by omega) (by omega)) ?_⟩
      simp only [vx,T,K5,J0,K6,K7,↓reduceIte,J1,J2,J3,J4,J5,J6,J7,J8,J9,reduceCtorEq,K1,K2,K3,K4,PV,PC,QV,QC,← ha,← hb,mC]
      simp only [k1]
      refine ⟨by omega, Lq ⟨(k + 1, ks ++ [g a b]), by omega, by rw [hks, List.append_assoc, ← hstep2]⟩ ?_ ?_⟩
      · refine Sa ?_; simp only [rx,Y0,Y1,Y2,Y3,Y4,Y5,Y6,Y7,ren,↓reduceIte,J1,J2,J3,J4,J5,J6,J7,J8,J9,reduceCtorEq,K1,K2,K3,K4,Y8,Y9,X2,X3,X4,PV,PC,QC,e9]
        rw [hg]
        exact snocR rfl (a.1 * b.1, a.2 ++ b.2)
      · simp only; omega
    · have hkl : k = q.length := by omega
      simp only [vx,T,K5,J0,K6,K7,↓reduceIte,J1,J2,J3,J4,J5,J6,J7,J8,J9,reduceCtorEq,K1,K2,K3,K4,PV,PC,QV,QC,← ha,mC]
      simp only [i1]
      refine Lq ⟨(i + 1, ks), by omega, by rw [hstep, hks, hkl, List.take_length]⟩ ?_ ?_
      · refine Sa ?_; simp only [rx,Y0,Y1,Y2,Y3,Y4,Y5,Y6,Y7,ren,↓reduceIte,J1,J2,J3,J4,J5,J6,J7,J8,J9,reduceCtorEq,K1,K2,K3,K4,Y8,Y9,X2,X3,X4,PV,PC,QC]
      · simp only; omega
  · have hil : i = p.length := by omega
    have e1 : ls = mulL p q := by rw [hls, hil, List.take_length, hg]; rfl
    rw [e1]
    simp only [vx,T,K5,J0,K6,K7,↓reduceIte,J1,J2,J3,J4,J5,J6,J7,J8,J9,reduceCtorEq,K1,K2,K3,K4,PV,PC]
    refine Cg (SumR_spec (hp.mulL hq) hd hn rfl (fun _ _ _ _ => CLe.refl _)) ?_
    simp only [vx,T,K5,J0,K6,K7,↓reduceIte,J1,J2,J3,J4,J5,J6,J7,J8,J9,reduceCtorEq,K1,K2,K3,K4,PV,PC]
    exact Ve rfl
end Go.Proofs.YtllnmicmblbfaaaGreat
/-
  Merging two sorted parts of a list in place (SymMerge).
-/
namespace Go.Eng
variable {α : Type} [Inhabited α]
def rotF (xs : List α) (s m e k : Nat) : α :=
  if k < s then xs.getD k default else if k < s + (e - m) then xs.getD (k + (m - s)) default else if k < e then xs.getD (k - (e - m)) default else xs.getD k default
def swF (xs : List α) (a b n k : Nat) : α :=
  if a ≤ k ∧ k < a + n then xs.getD (k + (b - a)) default else if b ≤ k ∧ k < b + n then xs.getD (k - (b - a)) default else xs.getD k default
theorem swF_zero (xs : List α) (a b k : Nat) : swF xs a b 0 k = xs.getD k default := by
  unfold swF; rw [if_neg (by omega), if_neg (by omega)]
theorem swF_step {xs ys : List α} {a b i : Nat} (h : ∀ k, ys.getD k default = swF xs a b i k) (hab : a + i < b) (hb : b + i < ys.length) (k : Nat) :
    (swp ys (a + i) (b + i)).getD k default = swF xs a b (i + 1) k := by
  rw [swp_get (by omega) (by omega), h, h, h]
  unfold swF
  (repeat' split) <;> first | (exfalso; omega) | rfl | (congr 1; omega)
theorem rot_left {ys zs : List α} {i j m : Nat} (h : ∀ k, zs.getD k default = swF ys (m - i) m j k) (hij : j < i) (him : i ≤ m) (k : Nat) :
    rotF zs (m - (i - j)) m (m + j) k = rotF ys (m - i) m (m + j) k := by
  unfold rotF
  simp only [h]
  unfold swF
  (repeat' split) <;> first | (exfalso; omega) | rfl | (congr 1; omega)
theorem rot_right {ys zs : List α} {i j m : Nat} (h : ∀ k, zs.getD k default = swF ys (m - i) (m + j - i) i k) (hij : i < j) (him : i ≤ m) (k : Nat) :
    rotF zs (m - i) m (m + (j - i)) k = rotF ys (m - i) m (m + j) k := by
  unfold rotF
  simp only [h]
  unfold swF
  (repeat' split) <;> first | (exfalso; omega) | rfl | (congr 1; omega)
theorem rot_eq {ys zs : List α} {i m : Nat} (h : ∀ k, zs.getD k default = swF ys (m - i) m i k) (him : i ≤ m) (k : Nat) :
    zs.getD k default = rotF ys (m - i) m (m + i) k := by
  rw [h]
  unfold swF rotF
  (repeat' split) <;> first | (exfalso; omega) | rfl | (congr 1; omega)
theorem rot_triv {xs : List α} {s m e : Nat} (h : s = m ∨ m = e) (hm : s ≤ m) (he : m ≤ e) (k : Nat) : rotF xs s m e k = xs.getD k default := by
  unfold rotF
  (repeat' split) <;> first | rfl | (congr 1; omega)
theorem rot_up {xs ys : List α} {a k : Nat} (h : ∀ j, ys.getD j default = rotF xs a (a + 1) (k + 1) j) (hk : a ≤ k) (hl : k + 1 < ys.length) (j : Nat) :
    (swp ys k (k + 1)).getD j default = rotF xs a (a + 1) (k + 2) j := by
  rw [swp_get (by omega) (by omega), h, h, h]
  unfold rotF
  (repeat' split) <;> first | (exfalso; omega) | rfl | (congr 1; omega)
theorem rot_down {xs ys : List α} {m k : Nat} (h : ∀ j, ys.getD j default = rotF xs k m (m + 1) j) (hk : 0 < k) (hkm : k ≤ m) (hl : m < ys.length) (j : Nat) :
    (swp ys k (k - 1)).getD j default = rotF xs (k - 1) m (m + 1) j := by
  rw [swp_get (by omega) (by omega), h, h, h]
  unfold rotF
  (repeat' split) <;> first | (exfalso; omega) | rfl | (congr 1; omega)
section
variable {le : α → α → Prop} (rf : ∀ x, le x x) (tr : ∀ {x y z}, le x y → le y z → le x z)
include rf
theorem Srt.le2 {xs : List α} {lo hi a b : Nat} (h : Srt le xs lo hi) (h1 : lo ≤ a) (h2 : a ≤ b) (h3 : b < hi) : le (xs.getD a default) (xs.getD b default) := by
  by_cases e : a = b
  · rw [e]; exact rf _
  · exact h a b h1 (by omega) h3
theorem mrg1 {xs zs : List α} {a b i : Nat} (hs : Srt le xs (a + 1) b) (hi1 : a + 1 ≤ i) (hi2 : i ≤ b) (h1 : ∀ h, a + 1 ≤ h → h < i → le (xs.getD h default) (xs.getD a default)) (h2 : ∀ h, i ≤ h → h < b → le (xs.getD a default) (xs.getD h default))
    (hz : ∀ k, zs.getD k default = rotF xs a (a + 1) i k) : Srt le zs a b := by
  intro p q hp hpq hq
  rw [hz, hz]
  have e1 : ∀ k, a ≤ k → k < b → rotF xs a (a + 1) i k = if k < i - 1 then xs.getD (k + 1) default else if k = i - 1 then xs.getD a default else xs.getD k default := by
    intro k hk1 hk2
    unfold rotF
    (repeat' split) <;> first | (exfalso; omega) | rfl | (congr 1; omega)
  rw [e1 p hp (by omega), e1 q (by omega) hq]
  by_cases c1 : p < i - 1
  · rw [if_pos c1]
    by_cases c2 : q < i - 1
    · rw [if_pos c2]; exact hs _ _ (by omega) (by omega) (by omega)
    · rw [if_neg c2]
      by_cases c3 : q = i - 1
      · rw [if_pos c3]; exact h1 _ (by omega) (by omega)
      · rw [if_neg c3]; exact Srt.le2 rf hs (by omega) (by omega) hq
  · rw [if_neg c1, if_neg (show ¬ q < i - 1 by omega), if_neg (show ¬ q = i - 1 by omega)]
    by_cases c3 : p = i - 1
    · rw [if_pos c3]; exact h2 _ (by omega) hq
    · rw [if_neg c3]; exact hs _ _ (by omega) hpq hq
theorem mrg2 {xs zs : List α} {a m i : Nat} (hs : Srt le xs a m) (hi1 : a ≤ i) (hi2 : i ≤ m) (h1 : ∀ h, a ≤ h → h < i → le (xs.getD h default) (xs.getD m default)) (h2 : ∀ h, i ≤ h → h < m → le (xs.getD m default) (xs.getD h default))
    (hz : ∀ k, zs.getD k default = rotF xs i m (m + 1) k) : Srt le zs a (m + 1) := by
  intro p q hp hpq hq
  rw [hz, hz]
  have e1 : ∀ k, k < m + 1 → rotF xs i m (m + 1) k = if k < i then xs.getD k default else if k = i then xs.getD m default else xs.getD (k - 1) default := by
    intro k hk2
    unfold rotF
    (repeat' split) <;> first | (exfalso; omega) | rfl | (congr 1; omega)
  rw [e1 p (by omega), e1 q hq]
  by_cases c1 : q < i
  · rw [if_pos c1, if_pos (show p < i by omega)]; exact hs _ _ hp hpq (by omega)
  · rw [if_neg c1]
    by_cases c2 : p < i
    · rw [if_pos c2]
      by_cases c3 : q = i
      · rw [if_pos c3]; exact h1 _ hp c2
      · rw [if_neg c3]; exact Srt.le2 rf hs hp (by omega) (by omega)
    · rw [if_neg c2, if_neg (show ¬ q = i by omega)]
      by_cases c3 : p = i
      · rw [if_pos c3]; exact h2 _ (by omega) (by omega)
      · rw [if_neg c3]; exact hs _ _ (by omega) (by omega) (by omega)
include tr
theorem sym_law {xs zs : List α} {a m b mid s e : Nat} (hL : Srt le xs a m) (hR : Srt le xs m b) (h1 : a ≤ s) (h2 : s ≤ m) (h3 : m ≤ e) (h4 : e ≤ b) (hse : s + e = mid + m) (hsm : s ≤ mid)
    (c1 : s = a ∨ e = b ∨ le (xs.getD (s - 1) default) (xs.getD e default)) (c2 : s = m ∨ e = m ∨ le (xs.getD (e - 1) default) (xs.getD s default)) (hz : ∀ k, zs.getD k default = rotF xs s m e k) :
    Srt le zs a s ∧ Srt le zs s mid ∧ Srt le zs mid e ∧ Srt le zs e b ∧ ∀ i j, a ≤ i → i < mid → mid ≤ j → j < b → le (zs.getD i default) (zs.getD j default) := by
  have z1 : ∀ k, k < s → zs.getD k default = xs.getD k default := fun k hk => by rw [hz]; unfold rotF; rw [if_pos hk]
  have z2 : ∀ k, s ≤ k → k < mid → zs.getD k default = xs.getD (k + (m - s)) default := fun k hk1 hk2 => by rw [hz]; unfold rotF; rw [if_neg (by omega), if_pos (by omega)]
  have z3 : ∀ k, mid ≤ k → k < e → zs.getD k default = xs.getD (k - (e - m)) default := fun k hk1 hk2 => by rw [hz]; unfold rotF; rw [if_neg (by omega), if_neg (by omega), if_pos (by omega)]
  have z4 : ∀ k, e ≤ k → zs.getD k default = xs.getD k default := fun k hk1 => by rw [hz]; unfold rotF; rw [if_neg (by omega), if_neg (by omega), if_neg (by omega)]
  refine ⟨fun p q hp hpq hq => ?_, fun p q hp hpq hq => ?_, fun p q hp hpq hq => ?_, fun p q hp hpq hq => ?_, fun i j hi1 hi2 hj1 hj2 => ?_⟩
  · rw [z1 p (by omega), z1 q hq]; exact hL _ _ hp hpq (by omega)
  · rw [z2 p hp (by omega), z2 q (by omega) hq]; exact hR _ _ (by omega) (by omega) (by omega)
  · rw [z3 p hp (by omega), z3 q (by omega) hq]; exact hL _ _ (by omega) (by omega) (by omega)
  · rw [z4 p hp, z4 q (by omega)]; exact hR _ _ (by omega) (by omega) (by omega)
  · by_cases d1 : i < s
    · rw [z1 i d1]
      by_cases d2 : j < e
      · rw [z3 j hj1 d2]; exact hL _ _ hi1 (by omega) (by omega)
      · rw [z4 j (by omega)]
        have c1 : le (xs.getD (s - 1) default) (xs.getD e default) := by
          rcases c1 with c | c | c
          · omega
          · omega
          · exact c
        exact tr (Srt.le2 rf hL hi1 (show i ≤ s - 1 by omega) (by omega)) (tr c1 (Srt.le2 rf hR (by omega) (show e ≤ j by omega) hj2))
    · rw [z2 i (by omega) hi2]
      by_cases d2 : j < e
      · rw [z3 j hj1 d2]
        have c2 : le (xs.getD (e - 1) default) (xs.getD s default) := by
          rcases c2 with c | c | c
          · omega
          · omega
          · exact c
        exact tr (Srt.le2 rf hR (by omega) (show i + (m - s) ≤ e - 1 by omega) (by omega)) (tr c2 (Srt.le2 rf hL (by omega) (show s ≤ j - (e - m) by omega) (by omega)))
      · rw [z4 j (by omega)]; exact hR _ _ (by omega) (by omega) (by omega)
end
omit [Inhabited α] in
theorem parts {xs : List α} {lo hi : Nat} (h1 : lo ≤ hi) : xs = xs.take lo ++ ((xs.drop lo).take (hi - lo) ++ xs.drop hi) := by
  conv => lhs; rw [← List.take_append_drop lo xs, ← List.take_append_drop (hi - lo) (xs.drop lo), List.drop_drop]
  rw [show lo + (hi - lo) = hi by omega]
theorem list_ext_getD {xs ys : List α} (hl : xs.length = ys.length) (h : ∀ k, k < xs.length → xs.getD k default = ys.getD k default) : xs = ys := by
  refine List.ext_getElem hl fun i h1 h2 => ?_
  have := h i h1
  rwa [getD_eq h1, getD_eq h2] at this
theorem Out.mid {xs ys : List α} {lo hi : Nat} (h : Out xs ys lo hi) (h1 : lo ≤ hi) (h2 : hi ≤ xs.length) : ((ys.drop lo).take (hi - lo)).Perm ((xs.drop lo).take (hi - lo)) := by
  obtain ⟨hl, hp, ho⟩ := h
  have e1 : ys.take lo = xs.take lo := by
    refine list_ext_getD (by simp [hl]) fun k hk => ?_
    have hk : k < lo := by rw [X5] at hk; omega
    rw [X7, X7, List.getElem?_take_of_lt hk, List.getElem?_take_of_lt hk, ← X7, ← X7]
    exact ho k (.inl hk)
  have e2 : ys.drop hi = xs.drop hi := by
    refine list_ext_getD (by simp [hl]) fun k hk => ?_
    rw [X7, X7, List.getElem?_drop, List.getElem?_drop, ← X7, ← X7]
    exact ho _ (.inr (by omega))
  rw [parts (xs := xs) h1, parts (xs := ys) h1, e1, e2] at hp
  exact List.perm_append_right_iff _ |>.1 (List.perm_append_left_iff _ |>.1 hp)
theorem Out.mem {xs ys : List α} {lo hi : Nat} (h : Out xs ys lo hi) (h2 : hi ≤ xs.length) {i : Nat} (hi1 : lo ≤ i) (hi2 : i < hi) : ∃ j, lo ≤ j ∧ j < hi ∧ ys.getD i default = xs.getD j default := by
  have hp := h.mid (by omega) h2
  have hl := h.1
  have hm : ys.getD i default ∈ (ys.drop lo).take (hi - lo) := by
    refine List.mem_iff_getElem?.2 ⟨i - lo, ?_⟩
    rw [List.getElem?_take_of_lt (by omega), List.getElem?_drop, show lo + (i - lo) = i by omega, getD_eq (by omega), X8]
  obtain ⟨k, hk⟩ := List.mem_iff_getElem?.1 (hp.mem_iff.1 hm)
  have hk2 : k < hi - lo := by
    have := (List.getElem?_eq_some_iff.1 hk).1
    rw [X5] at this; omega
  rw [List.getElem?_take_of_lt hk2, List.getElem?_drop] at hk
  exact ⟨lo + k, by omega, by omega, by rw [X7 (l := xs), hk]; rfl⟩
theorem Srt.join {le : α → α → Prop} {xs : List α} {a m b : Nat} (h1 : Srt le xs a m) (h2 : Srt le xs m b) (hc : ∀ i j, a ≤ i → i < m → m ≤ j → j < b → le (xs.getD i default) (xs.getD j default)) : Srt le xs a b := by
  intro p q hp hpq hq
  by_cases c1 : q < m
  · exact h1 p q hp hpq c1
  · by_cases c2 : m ≤ p
    · exact h2 p q c2 hpq hq
    · exact hc p q hp (by omega) (by omega) hq
theorem cross_out {le : α → α → Prop} {xs ys : List α} {a m b : Nat} (hc : ∀ i j, a ≤ i → i < m → m ≤ j → j < b → le (xs.getD i default) (xs.getD j default)) (hl : b ≤ xs.length) (ham : a ≤ m) (hmb : m ≤ b) (ho : Out xs ys a m ∨ Out xs ys m b) :
    ∀ i j, a ≤ i → i < m → m ≤ j → j < b → le (ys.getD i default) (ys.getD j default) := by
  intro i j h1 h2 h3 h4
  rcases ho with ho | ho
  · obtain ⟨k, k1, k2, k3⟩ := ho.mem (by omega) h1 h2
    rw [k3, ho.2.2 j (.inr h3)]
    exact hc k j k1 k2 h3 h4
  · obtain ⟨k, k1, k2, k3⟩ := ho.mem hl h3 h4
    rw [k3, ho.2.2 i (.inl h2)]
    exact hc i k h1 h2 k1 k2
end Go.Eng
namespace Go.Proofs.YtllnmicmblbfaaaGreat
open Go Go.Eng
theorem fR0 (ys : List Mono) (k : Nat) : fR ys k 0 = .bool (zs (ys.getD k default).1.num) := rfl
theorem fR1 (ys : List Mono) (k : Nat) : fR ys k 1 = .ints .u32 (zm (ys.getD k default).1.num) := rfl
theorem fR2 (ys : List Mono) (k : Nat) : fR ys k 2 = .bool (zs ((ys.getD k default).1.den : Int)) := rfl
theorem fR3 (ys : List Mono) (k : Nat) : fR ys k 3 = .ints .u32 (zm ((ys.getD k default).1.den : Int)) := rfl
theorem fR4 (ys : List Mono) (k : Nat) : fR ys k 4 = .ints .i64 (ys.getD k default).2 := rfl
def mL (m : Mono) : List C := [C.bool (zs m.1.num), C.ints .u32 (zm m.1.num), C.bool (zs (m.1.den : Int)), C.ints .u32 (zm (m.1.den : Int)), C.ints .i64 m.2]
theorem set_mono {ys : List Mono} {k : Nat} (hk : k < ys.length) (m : Mono) (i j : Nat) (hj : j < 5) : setElt (fR ys) k 0 (mL m) i j = fR (ys.set k m) i j := by
  unfold setElt fR
  by_cases h : i = k
  · subst h
    rw [if_pos rfl, if_pos (Nat.zero_le _), if_pos (by simpa [mL] using hj), getD_set_same hk, Nat.sub_zero]
    exact mC_list m hj
  · rw [if_neg h, getD_set_other (fun e => h e.symm)]
theorem set_mono2 {f : Nat → Nat → C} {ys : List Mono} {k : Nat} (hk : k < ys.length) (m : Mono) (hf : ∀ i j, i < ys.length → j < 5 → f i j = fR ys i j) (i j : Nat) (hi : i < ys.length) (hj : j < 5) : setElt f k 0 (mL m) i j = fR (ys.set k m) i j := by
  rw [← set_mono hk m i j hj]
  unfold setElt
  rw [hf i j hi hj]
theorem swp_rows {ys : List Mono} {a b : Nat} (ha : a < ys.length) (hb : b < ys.length) : ∀ (i j : Nat), i < ys.length → j < 5 →
    setElt (setElt (fR ys) a 0 (mL (ys.getD b default))) b 0 (mL (ys.getD a default)) i j = fR (swp ys a b) i j := by
  intro i j hi hj
  unfold swp
  refine set_mono2 (by simpa using hb) _ (fun i j hi hj => set_mono ha _ i j hj) i j (by simpa using hi) hj
theorem cl1_spec (a b : Mono) (ha : a.2.length < 2 ^ 40) (hb : b.2.length < 2 ^ 40) : Pr Tryz.prog 78 [MV a, MV b] (.one (.int .i64 (cmpV a.2 b.2))) := by
  refine pv T_ok mixed Tryz.func78 rfl (by decide) _ (by simp [Tryz.ntmps78]) ⟨[0, 1, 2, 3, 4], []⟩ (by kernel_rfl) _ ?_
  show vc T _ _ (Option.get! Tryz.f78.body) _ _
  simp only [Tryz.f78,Tryz.ntmps78,Option.get!,iS,iM,eO,J1]
  simp only [vx,T,K5,J0,K6,K7,↓reduceIte,J1,J2,J3,J4,J5,J6,J7,J8,J9,reduceCtorEq,K1,K2,K3,K4,MV,mC]
  refine Cg (compareV_spec a.2 b.2 ha hb) ?_
  simp only [vx,T,K5,J0,K6,K7,↓reduceIte,J1,J2,J3,J4,J5,J6,J7,J8,J9,reduceCtorEq,K1,K2,K3,K4]
  exact Ve rfl
theorem cl2_spec (m : Mono) (hm : qm m.1 < 2 ^ 36) : Pr Tryz.prog 82 [MV m] (.one (.bool (decide (m.1 = 0)))) := by
  refine pv T_ok mixed Tryz.func82 rfl (by decide) _ (by simp [Tryz.ntmps82]) ⟨[0, 1, 2], []⟩ (by kernel_rfl) _ ?_
  show vc T _ _ (Option.get! Tryz.f82.body) _ _
  simp only [Tryz.f82,Tryz.ntmps82,Option.get!,iS,iM,eO,J1]
  simp only [vx,T,K5,J0,K6,K7,↓reduceIte,J1,J2,J3,J4,J5,J6,J7,J8,J9,reduceCtorEq,K1,K2,K3,K4,MV,mC]
  refine Cg (iQSign_spec m.1 hm) ?_
  simp only [vx,T,K5,J0,K6,K7,↓reduceIte,J1,J2,J3,J4,J5,J6,J7,J8,J9,reduceCtorEq,K1,K2,K3,K4]
  refine vb ?_
  by_cases h : m.1 = 0
  · rw [h]; rfl
  · rw [decide_eq_false h, decide_eq_false]
    exact fun e => h (Rat.num_eq_zero.1 (sgn_zero.1 (by omega)))
def cF : C := .fn 78 0 (fun _ => .any)
def SwR (xs : List Mono) (N a b n : Nat) (r : V) (B' : Bk) : Prop := ∃ ys, r = .tup [] ∧ B' = .rows 47 5 N (fR ys) ∧ Out xs ys a (b + n) ∧ ∀ k, ys.getD k default = swF xs a b n k
theorem swapR_spec (xs : List Mono) {N : Nat} (hN : xs.length = N) (a b n : Nat) (hab : a + n ≤ b) (hb : b + n ≤ N) (hl : N < 2 ^ 40) : Mc Tryz.prog 167 [.one (.own 0 5 0 N), .one (.int .i64 a), .one (.int .i64 b), .one (.int .i64 n), .one cF] (.rows 47 5 N (fR xs)) (SwR xs N a b n) := by
  refine mut_of_vc T_ok mixed Tryz.func167 rfl (by decide) _ (by simp [Tryz.ntmps167]) ⟨[0, 1, 2, 3, 10, 13], [(3, (.cons 21 [4, 5, 6, 7, 22] (.cons 23 [] .nil .nil) .nil))]⟩ (by kernel_rfl) (.rows 47 5 N (fR xs)) trivial _ ?_
  show vc T _ _ (Option.get! Tryz.f167.body) _ _
  simp only [Tryz.f167,Tryz.ntmps167,Option.get!,iS,iM,eO,J1]
  simp only [vx,T,K5,J0,K6,K7,↓reduceIte,J1,J2,J3,J4,J5,J6,J7,J8,J9,reduceCtorEq,K1,K2,K3,K4,cF]
  refine Lk (fun y : {y : Nat × List Mono // y.1 ≤ n ∧ Out xs y.2 a (b + n) ∧ ∀ k, y.2.getD k default = swF xs a b y.1 k} => ⟨[(0, .one (.own 0 5 0 N)), (1, .one (.int .i64 a)), (2, .one (.int .i64 b)), (3, .one (.int .i64 n)), (10, .one (.int .i64 y.1.1))], [(0, ⟨.rows 47 5 N (fR y.1.2), true⟩)], 1, 38⟩) (fun y => n - y.1.1) ⟨(0, xs), by omega, .refl _ _ _, fun k => (swF_zero xs a b k).symm⟩ ?_ (fun ⟨⟨i, ys⟩, hi, ho, hs⟩ => ?_)
  · refine Sa ?_; simp only [rx,Y0,Y1,Y2,Y3,Y4,Y5,Y6,Y7,ren,↓reduceIte,J1,J2,J3,J4,J5,J6,J7,J8,J9,reduceCtorEq,K1,K2,K3,K4,Y8,Y9,X2,X3,X4]
  simp only at hi ho hs
  have hyl := ho.1
  simp only [vx,T,K5,J0,K6,K7,↓reduceIte,J1,J2,J3,J4,J5,J6,J7,J8,J9,reduceCtorEq,K1,K2,K3,K4]
  refine ⟨fun h1 => Lg ?_, fun h1 => Lg ?_⟩
  · have hin : i < n := by omega
    have i1 := wI i (by omega)
    have a1 : IntKind.i64.wrap ((a : Int) + i) = ((a + i : Nat) : Int) := by rw [IntWalk.i64_in _ (by omega)]; omega
    have b1 : IntKind.i64.wrap ((b : Int) + i) = ((b + i : Nat) : Int) := by rw [IntWalk.i64_in _ (by omega)]; omega
    simp only [vx,T,K5,J0,K6,K7,↓reduceIte,J1,J2,J3,J4,J5,J6,J7,J8,J9,reduceCtorEq,K1,K2,K3,K4,fR0,fR1,fR2,fR3,fR4,a1,b1]
    simp only [i1]
    refine ⟨by omega, by omega, by omega, by omega, by omega, Lq ⟨(i + 1, swp ys (a + i) (b + i)), by omega, ho.swp (by omega) (by omega) (by omega) (by omega) (by omega), swF_step hs (by omega) (by omega)⟩ ?_ ?_⟩
    · refine Sa ?_; simp only [rx,Y0,Y1,Y2,Y3,Y4,Y5,Y6,Y7,ren,↓reduceIte,J1,J2,J3,J4,J5,J6,J7,J8,J9,reduceCtorEq,K1,K2,K3,K4,Y8,Y9,X2,X3,X4]
      rw [← hN, ← hyl]
      exact swp_rows (by omega) (by omega)
    · simp only; omega
  · have hin : i = n := by omega
    subst hin
    simp only [vx,T,K5,J0,K6,K7,↓reduceIte,J1,J2,J3,J4,J5,J6,J7,J8,J9,reduceCtorEq,K1,K2,K3,K4]
    exact ⟨ys, rfl, rfl, ho, hs⟩
def RotR (xs : List Mono) (N a m b : Nat) (r : V) (B' : Bk) : Prop := ∃ ys, r = .tup [] ∧ B' = .rows 47 5 N (fR ys) ∧ Out xs ys a b ∧ ∀ k, ys.getD k default = rotF xs a m b k
theorem rot_spec (xs : List Mono) {N : Nat} (hN : xs.length = N) (a m b : Nat) (ham : a < m) (hmb : m < b) (hb : b ≤ N) (hl : N < 2 ^ 40) : Mc Tryz.prog 160 [.one (.own 0 5 0 N), .one (.int .i64 a), .one (.int .i64 m), .one (.int .i64 b), .one cF] (.rows 47 5 N (fR xs)) (RotR xs N a m b) := by
  refine mut_of_vc T_ok mixed Tryz.func160 rfl (by decide) _ (by simp [Tryz.ntmps160]) ⟨[0, 1, 2, 3, 4, 10, 11, 20, 23], []⟩ (by kernel_rfl) (.rows 47 5 N (fR xs)) trivial _ ?_
  show vc T _ _ (Option.get! Tryz.f160.body) _ _
  simp only [Tryz.f160,Tryz.ntmps160,Option.get!,iS,iM,eO,J1]
  have w1 : IntKind.i64.wrap ((m : Int) - a) = ((m - a : Nat) : Int) := by rw [IntWalk.i64_in _ (by omega)]; omega
  have w2 : IntKind.i64.wrap ((b : Int) - m) = ((b - m : Nat) : Int) := by rw [IntWalk.i64_in _ (by omega)]; omega
  simp only [vx,T,K5,J0,K6,K7,↓reduceIte,J1,J2,J3,J4,J5,J6,J7,J8,J9,reduceCtorEq,K1,K2,K3,K4,cF,w1,w2]
  refine Lk (fun y : {y : Nat × Nat × List Mono // 0 < y.1 ∧ 0 < y.2.1 ∧ y.1 ≤ m - a ∧ y.2.1 ≤ b - m ∧ Out xs y.2.2 a b ∧ ∀ k, rotF y.2.2 (m - y.1) m (m + y.2.1) k = rotF xs a m b k} => ⟨[(0, .one (.own 0 5 0 N)), (1, .one (.int .i64 a)), (2, .one (.int .i64 m)), (3, .one (.int .i64 b)), (4, .one cF), (10, .one (.int .i64 y.1.1)), (11, .one (.int .i64 y.1.2.1))], [(0, ⟨.rows 47 5 N (fR y.1.2.2), true⟩)], 1, 58⟩) (fun y => y.1.1 + y.1.2.1) ⟨(m - a, b - m, xs), by simp only; omega, by simp only; omega, by simp only; omega, by simp only; omega, .refl _ _ _, fun k => by simp only; rw [show m - (m - a) = a by omega, show m + (b - m) = b by omega]⟩ ?_ (fun ⟨⟨i, j, ys⟩, hi0, hj0, hi, hj, ho, hr⟩ => ?_)
  · refine Sa ?_; simp only [rx,Y0,Y1,Y2,Y3,Y4,Y5,Y6,Y7,ren,↓reduceIte,J1,J2,J3,J4,J5,J6,J7,J8,J9,reduceCtorEq,K1,K2,K3,K4,Y8,Y9,X2,X3,X4,cF]
  simp only at hi0 hj0 hi hj ho hr
  have hyl := ho.1
  have w3 : IntKind.i64.wrap ((m : Int) - i) = ((m - i : Nat) : Int) := by rw [IntWalk.i64_in _ (by omega)]; omega
  have w4 : IntKind.i64.wrap ((m : Int) + j) = ((m + j : Nat) : Int) := by rw [IntWalk.i64_in _ (by omega)]; omega
  have w5 : IntKind.i64.wrap (((m + j : Nat) : Int) - i) = ((m + j - i : Nat) : Int) := by rw [IntWalk.i64_in _ (by omega)]; omega
  simp only [vx,T,K5,J0,K6,K7,↓reduceIte,J1,J2,J3,J4,J5,J6,J7,J8,J9,reduceCtorEq,K1,K2,K3,K4,cF]
  refine ⟨fun h1 => Lg ?_, fun h1 => Lg ?_⟩
  · simp only [vx,T,K5,J0,K6,K7,↓reduceIte,J1,J2,J3,J4,J5,J6,J7,J8,J9,reduceCtorEq,K1,K2,K3,K4,cF]
    refine ⟨fun h2 => Lg ?_, fun h2 => Lg ?_⟩
    · have w6 : IntKind.i64.wrap ((i : Int) - j) = ((i - j : Nat) : Int) := by rw [IntWalk.i64_in _ (by omega)]; omega
      simp only [vx,T,K5,J0,K6,K7,↓reduceIte,J1,J2,J3,J4,J5,J6,J7,J8,J9,reduceCtorEq,K1,K2,K3,K4,cF,w3]
      refine Cm 0 rfl trivial (swapR_spec ys (hyl.trans hN) (m - i) m j (by omega) (by omega) (by omega)) ?_
      rintro _ _ ⟨zs, rfl, rfl, ho2, hz⟩ _
      simp only [vx,T,K5,J0,K6,K7,↓reduceIte,J1,J2,J3,J4,J5,J6,J7,J8,J9,reduceCtorEq,K1,K2,K3,K4,cF,w6]
      refine Lq ⟨(i - j, j, zs), by simp only; omega, hj0, by simp only; omega, hj, ho.trans (ho2.mono (by omega) (by omega)), fun k => (rot_left hz (by omega) (by omega) k).trans (hr k)⟩ ?_ ?_
      · refine Sa ?_; simp only [rx,Y0,Y1,Y2,Y3,Y4,Y5,Y6,Y7,ren,↓reduceIte,J1,J2,J3,J4,J5,J6,J7,J8,J9,reduceCtorEq,K1,K2,K3,K4,Y8,Y9,X2,X3,X4,cF]
      · simp only; omega
    · have w6 : IntKind.i64.wrap ((j : Int) - i) = ((j - i : Nat) : Int) := by rw [IntWalk.i64_in _ (by omega)]; omega
      simp only [vx,T,K5,J0,K6,K7,↓reduceIte,J1,J2,J3,J4,J5,J6,J7,J8,J9,reduceCtorEq,K1,K2,K3,K4,cF,w3,w4,w5]
      refine Cm 0 rfl trivial (swapR_spec ys (hyl.trans hN) (m - i) (m + j - i) i (by omega) (by omega) (by omega)) ?_
      rintro _ _ ⟨zs, rfl, rfl, ho2, hz⟩ _
      simp only [vx,T,K5,J0,K6,K7,↓reduceIte,J1,J2,J3,J4,J5,J6,J7,J8,J9,reduceCtorEq,K1,K2,K3,K4,cF,w6]
      refine Lq ⟨(i, j - i, zs), hi0, by simp only; omega, hi, by simp only; omega, ho.trans (ho2.mono (by omega) (by omega)), fun k => (rot_right hz (by omega) (by omega) k).trans (hr k)⟩ ?_ ?_
      · refine Sa ?_; simp only [rx,Y0,Y1,Y2,Y3,Y4,Y5,Y6,Y7,ren,↓reduceIte,J1,J2,J3,J4,J5,J6,J7,J8,J9,reduceCtorEq,K1,K2,K3,K4,Y8,Y9,X2,X3,X4,cF]
      · simp only; omega
  · have hij : i = j := by omega
    subst hij
    simp only [vx,T,K5,J0,K6,K7,↓reduceIte,J1,J2,J3,J4,J5,J6,J7,J8,J9,reduceCtorEq,K1,K2,K3,K4,cF,w3]
    refine Cm 0 rfl trivial (swapR_spec ys (hyl.trans hN) (m - i) m i (by omega) (by omega) (by omega)) ?_
    rintro _ _ ⟨zs, rfl, rfl, ho2, hz⟩ _
    simp only [vx,T,K5,J0,K6,K7,↓reduceIte,J1,J2,J3,J4,J5,J6,J7,J8,J9,reduceCtorEq,K1,K2,K3,K4,cF]
    exact ⟨zs, rfl, rfl, ho.trans (ho2.mono (by omega) (by omega)), fun k => (rot_eq hz (by omega) k).trans (hr k)⟩
end Go.Proofs.YtllnmicmblbfaaaGreat
