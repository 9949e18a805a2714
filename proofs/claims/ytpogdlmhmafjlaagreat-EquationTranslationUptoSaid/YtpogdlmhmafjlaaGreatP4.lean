/-
  EquationTranslation, where what it reads is of bulk at most 1048576: the law returns true, and each argument reads afterwards as it read before. No condition beyond the given row's own cells.
  (Text 4 of 9; made by a program out of smaller texts.)
-/
import Derived.RangeFuncBox
import Derived.RangeFuncLeaves
import Derived.Shelf.Abstract
import Derived.WalkKit
import Derived.OwnWalkIn
import Derived.TacticsInMore
import Derived.LoopNIn
import Derived.LoopIn
import Derived.Lib.Hide
import Derived.Test.YtpogdlmhmafjlaaGreatChecked
import Derived.Test.YtpogdlmhmafjlaaGreatPa
import Derived.Test.YtpogdlmhmafjlaaGreatP3
set_option linter.unusedSimpArgs false
set_option linter.unusedVariables false
set_option maxHeartbeats 16000000
set_option maxRecDepth 10000
open Nat renaming reduceAdd → J1, reduceMul → J2, reduceSub → J3, reduceEqDiff → J4, reduceLT → J5, reduceLeDiff → J6, reduceBEq → J7, reduceDiv → J8, reduceMod → J9, reducePow → J0
open Int renaming reduceToNat → K1, reduceLE → K2, reduceLT → K3, reduceEq → K4, reducePow → K5, reduceSub → K6, reduceNeg → K7, natCast_add → X2, natCast_one → X3, natCast_zero → X4
open List renaming getD_cons_zero → X0, getD_cons_succ → X1, length_take → X5, length_append → X6, getD_eq_getElem?_getD → X7, getElem?_eq_getElem → X8
/-
  The law of the long division.
-/
namespace Go.Eng
def bl (x : Nat) : Nat := if h : x = 0 then 0 else 1 + bl (x / 2)
termination_by x
decreasing_by omega
theorem bl_zero : bl 0 = 0 := by rw [bl]; rfl
theorem bl_pos {x : Nat} (h : 0 < x) : bl x = 1 + bl (x / 2) := by rw [bl, dif_neg (by omega)]
theorem bl_spec (x : Nat) (h : 0 < x) : 2 ^ (bl x - 1) ≤ x ∧ x < 2 ^ bl x ∧ 0 < bl x := by
  induction x using Nat.strongRecOn with
  | _ x ih =>
    rw [bl_pos h]
    by_cases h2 : x / 2 = 0
    · rw [h2, bl_zero]
      have : x = 1 := by omega
      subst this; decide
    obtain ⟨h3, h4, h5⟩ := ih (x / 2) (by omega) (by omega)
    have e : 1 + bl (x / 2) - 1 = (bl (x / 2) - 1) + 1 := by omega
    rw [e, Nat.pow_succ, Nat.add_comm 1, Nat.pow_succ]
    omega
theorem bl_le {x k : Nat} (h : x < 2 ^ k) : bl x ≤ k := by
  rcases Nat.eq_zero_or_pos x with h0 | h0
  · subst h0; rw [bl_zero]; omega
  obtain ⟨h3, _, h5⟩ := bl_spec x h0
  rcases Nat.lt_or_ge k (bl x) with h1 | h1
  · have : 2 ^ k ≤ 2 ^ (bl x - 1) := Nat.pow_le_pow_right (by decide) (by omega)
    omega
  exact h1
def topW (b : Nat) : Nat := b / BB ^ (nl b - 1)
def shf (b : Nat) : Nat := 32 - bl (topW b)
theorem topW_lt {b : Nat} (h : 0 < b) : 0 < topW b ∧ topW b < BB := by
  have h1 := nl_pos.2 h
  have hp : 0 < BB ^ (nl b - 1) := Nat.pow_pos (by decide)
  refine ⟨Nat.div_pos (ge_of_nl h) hp, ?_⟩
  unfold topW
  rw [Nat.div_lt_iff_lt_mul hp, Nat.mul_comm, ← Nat.pow_succ, show (nl b - 1).succ = nl b by omega]
  exact lt_of_nl b
theorem topW_mod {b : Nat} (h : 0 < b) : b / BB ^ (nl b - 1) % BB = topW b := Nat.mod_eq_of_lt (topW_lt h).2
theorem shf_spec {b : Nat} (h : 0 < b) : shf b < 32 ∧ b * 2 ^ shf b < BB ^ nl b ∧ BB ^ nl b ≤ 2 * (b * 2 ^ shf b) := by
  obtain ⟨t1, t2⟩ := topW_lt h
  obtain ⟨b1, b2, b3⟩ := bl_spec _ t1
  have b4 : bl (topW b) ≤ 32 := bl_le (by unfold BB at t2; omega)
  have h1 := nl_pos.2 h
  have hp : 0 < BB ^ (nl b - 1) := Nat.pow_pos (by decide)
  have e1 := Nat.div_add_mod b (BB ^ (nl b - 1))
  have e2 := Nat.mod_lt b hp
  have eB : BB ^ nl b = BB ^ (nl b - 1) * (2 ^ bl (topW b) * 2 ^ shf b) := by
    have e3 : 2 ^ bl (topW b) * 2 ^ shf b = BB := by rw [← Nat.pow_add]; unfold shf; rw [show bl (topW b) + (32 - bl (topW b)) = 32 by omega]; rfl
    rw [e3, ← Nat.pow_succ, show (nl b - 1).succ = nl b by omega]
  refine ⟨by unfold shf; omega, ?_, ?_⟩
  · rw [eB, ← Nat.mul_assoc]
    refine Nat.mul_lt_mul_of_pos_right ?_ (Nat.pow_pos (by decide))
    have : BB ^ (nl b - 1) * (topW b + 1) ≤ BB ^ (nl b - 1) * 2 ^ bl (topW b) := Nat.mul_le_mul_left _ b2
    rw [Nat.mul_add] at this
    unfold topW at *
    omega
  rw [eB, ← Nat.mul_assoc, ← Nat.mul_assoc]
  refine Nat.mul_le_mul_right _ ?_
  have e5 : 2 ^ bl (topW b) = 2 * 2 ^ (bl (topW b) - 1) := by
    rw [Nat.mul_comm, ← Nat.pow_succ]; congr 1; omega
  rw [e5]
  have : BB ^ (nl b - 1) * 2 ^ (bl (topW b) - 1) ≤ BB ^ (nl b - 1) * topW b := Nat.mul_le_mul_left _ b1
  rw [Nat.mul_left_comm]
  have e6 : BB ^ (nl b - 1) * topW b ≤ b := Nat.mul_div_le _ _
  omega
theorem shf_nl {b : Nat} (h : 0 < b) : nl (b * 2 ^ shf b) = nl b := by
  obtain ⟨_, h2, h3⟩ := shf_spec h
  have h1 := nl_pos.2 h
  have h4 := nl_le_of_lt h2
  rcases Nat.lt_or_ge (nl (b * 2 ^ shf b)) (nl b) with h5 | h5
  · have h6 : b * 2 ^ shf b < BB ^ (nl b - 1) := nl_le_iff.1 (by omega)
    have e : BB ^ nl b = BB ^ (nl b - 1) * BB := by rw [← Nat.pow_succ]; congr 1; omega
    have h7 : BB ^ (nl b - 1) * 2 ≤ BB ^ (nl b - 1) * BB := Nat.mul_le_mul_left _ (by decide)
    omega
  omega
structure Nrm (V n : Nat) : Prop where
  nle : nl V = n
  two : 2 ≤ n
  big : BB ^ n ≤ 2 * V
theorem Nrm.pos {V n : Nat} (h : Nrm V n) : 0 < V := nl_pos.1 (by rw [h.nle]; have := h.two; omega)
theorem Nrm.lt {V n : Nat} (h : Nrm V n) : V < BB ^ n := by have := lt_of_nl V; rw [h.nle] at this; exact this
theorem pow_split2 {n : Nat} (h : 2 ≤ n) : BB ^ (n - 1) = BB ^ (n - 2) * BB := by rw [← Nat.pow_succ]; congr 1; omega
theorem pow_split1 {n : Nat} (h : 1 ≤ n) : BB ^ n = BB ^ (n - 1) * BB := by rw [← Nat.pow_succ]; congr 1; omega
theorem Nrm.high {V n : Nat} (h : Nrm V n) : BB ≤ 2 * (V / BB ^ (n - 1)) ∧ V / BB ^ (n - 1) < BB ∧ V / BB ^ (n - 2) = V / BB ^ (n - 1) * BB + V / BB ^ (n - 2) % BB := by
  have hp : 0 < BB ^ (n - 1) := Nat.pow_pos (by decide)
  have h2 := h.two
  refine ⟨?_, ?_, ?_⟩
  · have h3 := h.big
    rw [pow_split1 (by omega)] at h3
    have h4 : BB / 2 ≤ V / BB ^ (n - 1) := by
      rw [Nat.le_div_iff_mul_le hp]
      have : (BB / 2) * BB ^ (n - 1) * 2 = BB ^ (n - 1) * BB := by
        rw [Nat.mul_comm, ← Nat.mul_assoc, show 2 * (BB / 2) = BB from rfl, Nat.mul_comm]
      omega
    have : BB = 2 * (BB / 2) := rfl
    omega
  · rw [Nat.div_lt_iff_lt_mul hp, Nat.mul_comm, ← pow_split1 (by omega)]; exact h.lt
  rw [pow_split2 h2, ← Nat.div_div_eq_div_mul, Nat.mul_comm, Nat.div_add_mod]
structure At (V n i R : Nat) : Prop where
  nrm : Nrm V n
  lt : R < V * BB ^ (i + 1)
def q3 (n i R : Nat) : Nat := R / BB ^ (i + n - 2)
theorem At.words {V n i R : Nat} (h : At V n i R) : R / BB ^ (i + n - 2) % BB = q3 n i R % BB ∧ R / BB ^ (i + n - 1) % BB = q3 n i R / BB % BB ∧ R / BB ^ (i + n) % BB = q3 n i R / BB / BB ∧ q3 n i R / BB < BB * BB := by
  have h2 := h.nrm.two
  have e1 : R / BB ^ (i + n - 1) = q3 n i R / BB := by
    unfold q3
    rw [Nat.div_div_eq_div_mul, ← Nat.pow_succ]; congr 2; omega
  have e2 : R / BB ^ (i + n) = q3 n i R / BB / BB := by
    rw [← e1, Nat.div_div_eq_div_mul, ← Nat.pow_succ]; congr 2; omega
  have hR : R < BB ^ (i + n + 1) := by
    refine Nat.lt_of_lt_of_le h.lt ?_
    have := Nat.mul_le_mul_right (BB ^ (i + 1)) (Nat.le_of_lt h.nrm.lt)
    rw [← Nat.pow_add, show n + (i + 1) = i + n + 1 by omega] at this
    exact this
  have h3 : R / BB ^ (i + n) < BB := by
    rw [Nat.div_lt_iff_lt_mul (Nat.pow_pos (by decide)), Nat.mul_comm, ← Nat.pow_succ]; exact hR
  refine ⟨rfl, by rw [e1], by rw [Nat.mod_eq_of_lt h3, e2], ?_⟩
  rw [e2] at h3
  exact (Nat.div_lt_iff_lt_mul (by decide)).1 h3
theorem At.U {V n i R : Nat} (h : At V n i R) : R / BB ^ i < V * BB ∧ R / BB ^ i = q3 n i R * BB ^ (n - 2) + R / BB ^ i % BB ^ (n - 2) := by
  have h2 := h.nrm.two
  refine ⟨?_, ?_⟩
  · rw [Nat.div_lt_iff_lt_mul (Nat.pow_pos (by decide)), Nat.mul_assoc, Nat.mul_comm BB, ← Nat.pow_succ]; exact h.lt
  have e : q3 n i R = R / BB ^ i / BB ^ (n - 2) := by
    unfold q3
    rw [Nat.div_div_eq_div_mul, ← Nat.pow_add]; congr 2; omega
  rw [e, Nat.mul_comm, Nat.div_add_mod]
structure Dg (V n i R D rest : Nat) : Prop where
  top : q3 n i R / BB = D * (V / BB ^ (n - 1)) + rest
  ge : R / BB ^ i / V ≤ D
  rest : rest < BB
  lt : D < 2 * BB
theorem Dg.init {V n i R : Nat} (h : At V n i R) : Dg V n i R (q3 n i R / BB / (V / BB ^ (n - 1))) (q3 n i R / BB % (V / BB ^ (n - 1))) := by
  obtain ⟨h1, h2, h3⟩ := h.nrm.high
  obtain ⟨_, hU⟩ := h.U
  obtain ⟨_, _, _, h4⟩ := h.words
  have hp : 0 < V / BB ^ (n - 1) := by unfold BB at *; omega
  have hP : 0 < BB ^ (n - 2) := Nat.pow_pos (by decide)
  refine ⟨by rw [Nat.mul_comm, Nat.div_add_mod], ?_, Nat.lt_trans (Nat.mod_lt _ hp) h2, ?_⟩
  · refine kn_init (P := BB ^ (n - 2)) (next := V / BB ^ (n - 2) % BB) (Vr := V % BB ^ (n - 2)) (u2 := q3 n i R % BB) (Ur := R / BB ^ i % BB ^ (n - 2)) ?_ ?_ (Nat.mod_lt _ hP) (Nat.mod_lt _ (by decide)) hp
    · rw [Nat.mul_comm (q3 n i R / BB), Nat.div_add_mod]; exact hU
    rw [← h3, Nat.mul_comm, Nat.div_add_mod]
  rw [Nat.div_lt_iff_lt_mul hp]
  have : BB * BB ≤ 2 * BB * (V / BB ^ (n - 1)) := by
    rw [Nat.mul_comm 2, Nat.mul_assoc]; exact Nat.mul_le_mul_left _ h1
  omega
theorem Dg.next {V n i R D rest : Nat} (hA : At V n i R) (h : Dg V n i R D rest) (hc : BB ≤ D ∨ rest * BB + q3 n i R % BB < D * (V / BB ^ (n - 2) % BB)) :
    0 < D ∧ q3 n i R / BB = (D - 1) * (V / BB ^ (n - 1)) + (rest + V / BB ^ (n - 1)) ∧ R / BB ^ i / V ≤ D - 1 := by
  obtain ⟨h1, h2, h3⟩ := hA.nrm.high
  obtain ⟨hU1, hU⟩ := hA.U
  have hV : 0 < V := hA.nrm.pos
  have hP : 0 < BB ^ (n - 2) := Nat.pow_pos (by decide)
  have hD : R / BB ^ i / V < D := by
    rcases hc with hc | hc
    · refine Nat.lt_of_lt_of_le ?_ hc
      rw [Nat.div_lt_iff_lt_mul hV, Nat.mul_comm]; exact hU1
    refine kn_step (P := BB ^ (n - 2)) (V2 := V / BB ^ (n - 2)) (Vr := V % BB ^ (n - 2)) (Ur := R / BB ^ i % BB ^ (n - 2)) hU (by rw [Nat.mul_comm, Nat.div_add_mod]) (Nat.mod_lt _ hP) ?_
    have e := Nat.div_add_mod (q3 n i R) BB
    rw [h.top] at e
    rw [h3, Nat.mul_add, ← Nat.mul_assoc]
    rw [Nat.mul_add, Nat.mul_comm BB, Nat.mul_comm BB rest] at e
    omega
  refine ⟨Nat.lt_of_le_of_lt (Nat.zero_le _) hD, ?_, Nat.le_sub_one_of_lt hD⟩
  have hD0 : 0 < D := Nat.lt_of_le_of_lt (Nat.zero_le _) hD
  have e : D * (V / BB ^ (n - 1)) = (D - 1) * (V / BB ^ (n - 1)) + V / BB ^ (n - 1) := by
    rw [← Nat.succ_mul]; congr 1; omega
  rw [h.top, e]; omega
theorem Dg.fin {V n i R D rest : Nat} (hA : At V n i R) (htop : q3 n i R / BB = D * (V / BB ^ (n - 1)) + rest) (hge : R / BB ^ i / V ≤ D) (hc : (D < BB ∧ D * (V / BB ^ (n - 2) % BB) ≤ rest * BB + q3 n i R % BB) ∨ BB ≤ rest) :
    D < BB ∧ R / BB ^ i / V ≤ D ∧ D ≤ R / BB ^ i / V + 1 := by
  obtain ⟨h1, h2, h3⟩ := hA.nrm.high
  obtain ⟨hU1, hU⟩ := hA.U
  obtain ⟨_, _, w3, h4⟩ := hA.words
  have hV : 0 < V := hA.nrm.pos
  have hP : 0 < BB ^ (n - 2) := Nat.pow_pos (by decide)
  have e := Nat.div_add_mod (q3 n i R) BB
  have hnext : V / BB ^ (n - 2) % BB < BB := Nat.mod_lt _ (by decide)
  -- the highest word is not above the divisor's
  have hD : D < BB := by
    rcases hc with hc | hc
    · exact hc.1
    rcases Nat.lt_or_ge D BB with hD | hD
    · exact hD
    exfalso
    have h5 : BB * (V / BB ^ (n - 1)) ≤ D * (V / BB ^ (n - 1)) := Nat.mul_le_mul_right _ hD
    have h6 : q3 n i R / BB < (V / BB ^ (n - 1) + 1) * BB := by
      have h7 : R / BB ^ i / BB ^ (n - 1) = q3 n i R / BB := by
        unfold q3
        have h2' := hA.nrm.two
        rw [Nat.div_div_eq_div_mul, Nat.div_div_eq_div_mul, ← Nat.pow_add, ← Nat.pow_succ]; congr 2; omega
      rw [← h7, Nat.div_lt_iff_lt_mul (Nat.pow_pos (by decide))]
      refine Nat.lt_of_lt_of_le hU1 ?_
      rw [Nat.mul_right_comm]
      refine Nat.mul_le_mul_right _ ?_
      have e8 := Nat.div_add_mod V (BB ^ (n - 1))
      have l8 := Nat.mod_lt V (Nat.pow_pos (n := n - 1) (show 0 < BB by decide))
      rw [Nat.add_mul, Nat.mul_comm (V / _)]
      omega
    rw [Nat.add_mul, Nat.mul_comm (V / _)] at h6
    omega
  have hq : D * (V / BB ^ (n - 2)) ≤ q3 n i R := by
    rw [htop] at e
    rw [h3, Nat.mul_add, ← Nat.mul_assoc]
    rw [Nat.mul_add, Nat.mul_comm BB, Nat.mul_comm BB rest] at e
    rcases hc with hc | hc
    · omega
    have h5 : D * (V / BB ^ (n - 2) % BB) ≤ BB * BB := Nat.mul_le_mul (Nat.le_of_lt hD) (Nat.le_of_lt hnext)
    have h6 : BB * BB ≤ rest * BB := Nat.mul_le_mul_right _ hc
    omega
  refine ⟨hD, hge, kn_end (P := BB ^ (n - 2)) (V2 := V / BB ^ (n - 2)) (Vr := V % BB ^ (n - 2)) (Ur := R / BB ^ i % BB ^ (n - 2)) hU (by rw [Nat.mul_comm, Nat.div_add_mod]) (Nat.mod_lt _ hP) hq ?_ hV⟩
  rw [h3]
  have : BB ≤ V / BB ^ (n - 1) * BB := Nat.le_mul_of_pos_left _ (by unfold BB at *; omega)
  omega
theorem At.step {V n i R : Nat} (h : At V n i R) : R - BB ^ i * (R / BB ^ i / V * V) < V * BB ^ i ∧ BB ^ i * (R / BB ^ i / V * V) ≤ R := by
  have hp : 0 < BB ^ i := Nat.pow_pos (by decide)
  have e1 := Nat.div_add_mod R (BB ^ i)
  have l1 := Nat.mod_lt R hp
  have e2 := Nat.div_add_mod (R / BB ^ i) V
  have l2 := Nat.mod_lt (R / BB ^ i) h.nrm.pos
  have e3 : BB ^ i * (R / BB ^ i) = BB ^ i * (R / BB ^ i / V * V) + BB ^ i * (R / BB ^ i % V) := by
    rw [← Nat.mul_add, Nat.mul_comm (R / BB ^ i / V), e2]
  have h3 : BB ^ i * (R / BB ^ i % V + 1) ≤ BB ^ i * V := Nat.mul_le_mul_left _ l2
  rw [Nat.mul_add] at h3
  rw [Nat.mul_comm V]
  generalize R / BB ^ i = U at *
  generalize R % BB ^ i = r at *
  generalize U % V = m at *
  generalize U / V * V = x at *
  omega
theorem At.sub_no {V n i R D Z : Nat} (h : At V n i R) (hge : R / BB ^ i / V ≤ D) (hz : Z + BB ^ i * (D * V) = R) : D = R / BB ^ i / V ∧ Z = R - BB ^ i * (R / BB ^ i / V * V) := by
  have hD : D ≤ R / BB ^ i / V := by
    rw [Nat.le_div_iff_mul_le h.nrm.pos, Nat.le_div_iff_mul_le (Nat.pow_pos (by decide)), Nat.mul_comm]; omega
  have : D = R / BB ^ i / V := by omega
  subst this
  exact ⟨rfl, by omega⟩
theorem At.sub_yes {V n i R D Z Z2 k : Nat} (h : At V n i R) (hle : D ≤ R / BB ^ i / V + 1) (hge : R / BB ^ i / V ≤ D) (hZ : Z < BB ^ (i + n + 1)) (hZ2 : Z2 < BB ^ (i + n + 1)) (hz : Z + BB ^ i * (D * V) = R + BB ^ (i + n + 1)) (hz2 : Z2 + BB ^ (i + n + 1) * k = Z + BB ^ i * V) :
    D = R / BB ^ i / V + 1 ∧ Z2 = R - BB ^ i * (R / BB ^ i / V * V) := by
  obtain ⟨s1, s2⟩ := h.step
  have hD : D = R / BB ^ i / V + 1 := by
    rcases Nat.lt_or_ge (R / BB ^ i / V) D with h1 | h1
    · omega
    have : D = R / BB ^ i / V := by omega
    subst this; omega
  refine ⟨hD, ?_⟩
  subst hD
  rw [Nat.add_mul, Nat.one_mul, Nat.mul_add] at hz
  have hV : V * BB ^ i < BB ^ (i + n + 1) := by
    have h2 : V * BB ^ i < BB ^ n * BB ^ i := Nat.mul_lt_mul_of_pos_right h.nrm.lt (Nat.pow_pos (by decide))
    have h3 : BB ^ (i + n + 1) = BB ^ n * BB ^ i * BB := by rw [Nat.pow_succ, Nat.pow_add, Nat.mul_comm (BB ^ i)]
    have h4 : BB ^ n * BB ^ i * 1 ≤ BB ^ n * BB ^ i * BB := Nat.mul_le_mul_left _ (by decide)
    omega
  rcases Nat.lt_or_ge k 1 with hk | hk
  · have : k = 0 := by omega
    subst this
    rw [Nat.mul_zero] at hz2
    omega
  rcases Nat.lt_or_ge k 2 with hk2 | hk2
  · have : k = 1 := by omega
    subst this
    rw [Nat.mul_one] at hz2
    omega
  have : BB ^ (i + n + 1) * 2 ≤ BB ^ (i + n + 1) * k := Nat.mul_le_mul_left _ hk2
  omega
end Go.Eng
namespace Go.Proofs.YtpogdlmhmafjlaaGreat
open Go Go.Eng
theorem dig_full (n : Nat) : dig (nl n) n = limbs n := by
  have h := dig_val (InR.limbs n)
  rw [val_limbs] at h
  exact h
theorem cloneU_spec (xs : List Int) (hx : xs.length < 2 ^ 40) : Pr Tryz.prog 101 [.one (.ints .u32 xs)] (.one (.ints .u32 xs)) := by
  refine pv T_ok mixed Tryz.func101 rfl (by decide) _ (by simp [Tryz.ntmps101]) ⟨[0, 2, 4], []⟩ (by kernel_rfl) _ ?_
  show vc T _ _ (Option.get! Tryz.f101.body) _ _
  simp only [Tryz.f101,Tryz.ntmps101,Option.get!,iS,iM,eO,J1]
  simp only [vx,T,K5,J0,K6,K7,↓reduceIte,J1,J2,J3,J4,J5,J6,J7,J8,J9,reduceCtorEq,K1,K2,K3,K4]
  intro b hb
  refine Lg ?_
  simp only [vx,T,K5,J0,K6,K7,↓reduceIte,J1,J2,J3,J4,J5,J6,J7,J8,J9,reduceCtorEq,K1,K2,K3,K4]
  refine ⟨fun h => Lg ?_, fun h => Lg ?_⟩
  · simp only [vx,T,K5,J0,K6,K7,↓reduceIte,J1,J2,J3,J4,J5,J6,J7,J8,J9,reduceCtorEq,K1,K2,K3,K4]
    have h0 : xs = [] := by
      cases xs with
      | nil => rfl
      | cons x xs => simp at hb; rw [hb] at h; cases h
    refine Va ?_; simp only [vLe,vLeL,rx,Y0,Y1,Y2,Y3,Y4,Y5,Y6,Y7,ren,↓reduceIte,J1,J2,J3,J4,J5,J6,J7,J8,J9,reduceCtorEq,K1,K2,K3,K4,h0]
  simp only [vx,T,K5,J0,K6,K7,↓reduceIte,J1,J2,J3,J4,J5,J6,J7,J8,J9,reduceCtorEq,K1,K2,K3,K4]
  exact ⟨⟨by omega, by omega⟩, VLe.refl _⟩
theorem or_low64 {s x : Nat} (hs : s < BB) (hx : x < BB) : bitsOp .or .u64 ((s : Int) * 4294967296) (x : Int) = ((s * BB + x : Nat) : Int) := by
  rw [show ((s : Int) * 4294967296) = ((s * 4294967296 : Nat) : Int) by omega]
  unfold BB at *
  have e := Nat.two_pow_add_eq_or_of_lt (i := 32) (b := x) (by omega) s
  rw [bits_or64 (by omega) (by omega)]
  have e2 : s * 4294967296 = 2 ^ 32 * s := Nat.mul_comm _ _
  rw [e2, ← e]
theorem div_next2 (n k : Nat) : n / BB ^ (k + 1) * BB + n / BB ^ k % BB = n / BB ^ k := by
  rw [Nat.pow_succ, ← Nat.div_div_eq_div_mul, Nat.mul_comm, Nat.div_add_mod]
theorem rshort_spec (n : Nat) (hn : n < 2 ^ 64) : Pr Tryz.prog 91 [.one (.ints .u32 (limbs n))] (.one (.int .u64 n)) := by
  have h2 : nl n ≤ 2 := nl_le_of_lt (by unfold BB; omega)
  refine pv T_ok mixed Tryz.func91 rfl (by decide) _ (by simp [Tryz.ntmps91]) ⟨[0, 2, 3, 4, 9], []⟩ (by kernel_rfl) _ ?_
  show vc T _ _ (Option.get! Tryz.f91.body) _ _
  simp only [Tryz.f91,Tryz.ntmps91,Option.get!,iS,iM,eO,J1]
  simp only [vx,T,K5,J0,K6,K7,↓reduceIte,J1,J2,J3,J4,J5,J6,J7,J8,J9,reduceCtorEq,K1,K2,K3,K4]
  simp (disch := omega) only [lG,← X2,← Int.natCast_mul,Int.toNat_natCast,IntWalk.i64_in,IntWalk.u64_in,wrapBB,fdivBB,true_and,and_true]
  refine Lk (fun i : {i : Nat // i ≤ nl n} => ⟨[(0, .one (.ints .u32 (limbs n))), (3, .one (.int .u64 (n / BB ^ i.1 : Nat))), (4, .one (.int .i64 ((i.1 : Int) - 1)))], [], 2, 21⟩) (fun i => i.1) ⟨nl n, Nat.le_refl _⟩ ?_ (fun ⟨i, hi⟩ => ?_)
  · refine Sa ?_; simp only [rx,Y0,Y1,Y2,Y3,Y4,Y5,Y6,Y7,ren,↓reduceIte,J1,J2,J3,J4,J5,J6,J7,J8,J9,reduceCtorEq,K1,K2,K3,K4,Y8,Y9,X2,X3,X4]
    rw [limb_end (Nat.le_refl _)]; rfl
  simp only [vx,T,K5,J0,K6,K7,↓reduceIte,J1,J2,J3,J4,J5,J6,J7,J8,J9,reduceCtorEq,K1,K2,K3,K4]
  refine ⟨fun h => Lg ?_, fun h => Lg ?_⟩
  · simp only [vx,T,K5,J0,K6,K7,↓reduceIte,J1,J2,J3,J4,J5,J6,J7,J8,J9,reduceCtorEq,K1,K2,K3,K4]
    obtain ⟨k, rfl⟩ : ∃ k, i = k + 1 := ⟨i - 1, by omega⟩
    have e1 : ((k + 1 : Nat) : Int) - 1 = k := by omega
    have h3 := modBB (n / BB ^ k)
    have h4 : n / BB ^ (k + 1) < 4294967296 := by
      rw [Nat.div_lt_iff_lt_mul (Nat.pow_pos (by decide)), Nat.pow_succ]
      have : BB ^ 1 ≤ BB ^ k * BB := by rw [← Nat.pow_succ]; exact Nat.pow_le_pow_right (by decide) (by omega)
      have h5 : 4294967296 * BB ^ 1 ≤ 4294967296 * (BB ^ k * BB) := Nat.mul_le_mul_left _ this
      unfold BB at h5 ⊢
      omega
    have h5 := or_low64 h4 h3
    rw [div_next2] at h5
    have e6 : IntKind.u64.wrap (((n / BB ^ (k + 1) : Nat) : Int) * 4294967296) = ((n / BB ^ (k + 1) : Nat) : Int) * 4294967296 := by
      generalize n / BB ^ (k + 1) = q at h4 ⊢
      exact IntWalk.u64_in _ (by omega)
    simp (disch := omega) only [lG,← X2,← Int.natCast_mul,Int.toNat_natCast,IntWalk.i64_in,IntWalk.u64_in,wrapBB,fdivBB,true_and,and_true,e1,e6,h5]
    refine ⟨by omega, Lq ⟨k, by omega⟩ ?_ ?_⟩
    · refine Sa ?_; simp only [rx,Y0,Y1,Y2,Y3,Y4,Y5,Y6,Y7,ren,↓reduceIte,J1,J2,J3,J4,J5,J6,J7,J8,J9,reduceCtorEq,K1,K2,K3,K4,Y8,Y9,X2,X3,X4]
    simp only; omega
  simp only [vx,T,K5,J0,K6,K7,↓reduceIte,J1,J2,J3,J4,J5,J6,J7,J8,J9,reduceCtorEq,K1,K2,K3,K4]
  have hi0 : i = 0 := by omega
  subst hi0
  refine Va ?_; simp only [vLe,vLeL,rx,Y0,Y1,Y2,Y3,Y4,Y5,Y6,Y7,ren,↓reduceIte,J1,J2,J3,J4,J5,J6,J7,J8,J9,reduceCtorEq,K1,K2,K3,K4,Nat.pow_zero,Nat.div_one]
theorem rlength_spec (b : Nat) (h0 : 0 < b) (hb : nl b < 2 ^ 40) : Pr Tryz.prog 93 [.one (.ints .u32 (limbs b))] (.one (.int .i64 (32 * (nl b - 1) + bl (topW b) : Nat))) := by
  have hn := nl_pos.2 h0
  have ht := topW_mod h0
  obtain ⟨t1, t2⟩ := topW_lt h0
  have hbl : bl (topW b) ≤ 32 := bl_le (by unfold BB at t2; omega)
  refine pv T_ok mixed Tryz.func93 rfl (by decide) _ (by simp [Tryz.ntmps93]) ⟨[0, 2, 3, 4, 7, 15], []⟩ (by kernel_rfl) _ ?_
  show vc T _ _ (Option.get! Tryz.f93.body) _ _
  simp only [Tryz.f93,Tryz.ntmps93,Option.get!,iS,iM,eO,J1]
  simp only [vx,T,K5,J0,K6,K7,↓reduceIte,J1,J2,J3,J4,J5,J6,J7,J8,J9,reduceCtorEq,K1,K2,K3,K4]
  refine ⟨fun h1 => absurd h1 (by omega), fun h1 => Lg ?_⟩
  simp only [vx,T,K5,J0,K6,K7,↓reduceIte,J1,J2,J3,J4,J5,J6,J7,J8,J9,reduceCtorEq,K1,K2,K3,K4]
  have e1 : IntKind.i64.wrap ((nl b : Int) - 1) = ((nl b - 1 : Nat) : Int) := by rw [IntWalk.i64_in _ (by omega)]; omega
  simp (disch := omega) only [lG,← X2,← Int.natCast_mul,Int.toNat_natCast,IntWalk.i64_in,IntWalk.u64_in,wrapBB,fdivBB,true_and,and_true,e1,ht]
  refine ⟨by omega, Lk (fun x : {x : Nat × Nat // x.1 + bl x.2 = bl (topW b) ∧ x.2 < BB} => ⟨[(0, .one (.ints .u32 (limbs b))), (3, .one (.int .i64 x.1.1)), (4, .one (.int .u32 x.1.2))], [], 2, 26⟩) (fun x => x.1.2) ⟨(0, topW b), by simp, t2⟩ ?_ (fun ⟨⟨c, x⟩, hx1, hx2⟩ => ?_)⟩
  · refine Sa ?_; simp only [rx,Y0,Y1,Y2,Y3,Y4,Y5,Y6,Y7,ren,↓reduceIte,J1,J2,J3,J4,J5,J6,J7,J8,J9,reduceCtorEq,K1,K2,K3,K4,Y8,Y9,X2,X3,X4]
  simp only at hx1 hx2
  have hx3 : x < 4294967296 := hx2
  simp only [vx,T,K5,J0,K6,K7,↓reduceIte,J1,J2,J3,J4,J5,J6,J7,J8,J9,reduceCtorEq,K1,K2,K3,K4]
  refine ⟨fun h => Lg ?_, fun h => Lg ?_⟩
  · simp only [vx,T,K5,J0,K6,K7,↓reduceIte,J1,J2,J3,J4,J5,J6,J7,J8,J9,reduceCtorEq,K1,K2,K3,K4]
    have h4 := bl_pos (x := x) (by omega)
    have e2 : IntKind.u32.wrap ((x : Int).tdiv 2) = ((x / 2 : Nat) : Int) := by
      have e3 : (x : Int).tdiv 2 = ((x / 2 : Nat) : Int) := rfl
      rw [e3, IntWalk.u32_in _ (by omega)]
    simp (disch := omega) only [lG,← X2,← Int.natCast_mul,Int.toNat_natCast,IntWalk.i64_in,IntWalk.u64_in,wrapBB,fdivBB,true_and,and_true,e2]
    refine Lq ⟨(c + 1, x / 2), by simp only; omega, by simp only; omega⟩ ?_ ?_
    · refine Sa ?_; simp only [rx,Y0,Y1,Y2,Y3,Y4,Y5,Y6,Y7,ren,↓reduceIte,J1,J2,J3,J4,J5,J6,J7,J8,J9,reduceCtorEq,K1,K2,K3,K4,Y8,Y9,X2,X3,X4]
    simp only; omega
  simp only [vx,T,K5,J0,K6,K7,↓reduceIte,J1,J2,J3,J4,J5,J6,J7,J8,J9,reduceCtorEq,K1,K2,K3,K4]
  have hx0 : x = 0 := by omega
  subst hx0
  rw [bl_zero] at hx1
  simp (disch := omega) only [lG,← X2,← Int.natCast_mul,Int.toNat_natCast,IntWalk.i64_in,IntWalk.u64_in,wrapBB,fdivBB,true_and,and_true,e1]
  refine Ve ?_
  congr 2
  omega
end Go.Proofs.YtpogdlmhmafjlaaGreat
/-
  The long division, round by round.
-/
namespace Go.Eng
structure DvInv (A V m j : Nat) (us qs : List Int) : Prop where
  nrm : Nrm V (nl V)
  le : nl V + j ≤ m
  ulen : us.length = m
  uin : InR us
  qlen : m ≤ qs.length + nl V
  qin : InR qs
  eq : val qs * V + val us = A
  lt : val us < V * BB ^ j
  dvd : ∃ Q, val qs = BB ^ j * Q
theorem DvInv.at {A V m i : Nat} {us qs : List Int} (h : DvInv A V m (i + 1) us qs) : At V (nl V) i (val us) := ⟨h.nrm, h.lt⟩
theorem DvInv.init {A V m l : Nat} (hn : Nrm V (nl V)) (hm : nl V ≤ m) (hA : 2 * A < BB ^ m) (hl : m ≤ l + nl V) : DvInv A V m (m - nl V) (dig m A) (List.replicate l 0) := by
  have e : BB ^ m = BB ^ nl V * BB ^ (m - nl V) := by rw [← Nat.pow_add]; congr 1; omega
  have h1 : BB ^ nl V * BB ^ (m - nl V) ≤ 2 * V * BB ^ (m - nl V) := Nat.mul_le_mul_right _ hn.big
  have hv : val (dig m A) = A := val_dig_lt (by omega)
  refine ⟨hn, by omega, dig_length _ _, dig_inr _ _, by simpa using hl, InR.replicate _, by rw [val_replicate, hv]; omega, ?_, 0, by rw [val_replicate]; simp⟩
  rw [hv]
  rw [Nat.mul_assoc] at h1
  omega
theorem DvInv.q {A V m i : Nat} {us qs : List Int} (h : DvInv A V m (i + 1) us qs) : val us / BB ^ i / V < BB := by
  rw [Nat.div_lt_iff_lt_mul h.nrm.pos, Nat.mul_comm]; exact h.at.U.1
theorem DvInv.step {A V m i : Nat} {us qs us' : List Int} (h : DvInv A V m (i + 1) us qs) (hl : us'.length = us.length) (hi : InR us') (hv : val us' = val us - BB ^ i * (val us / BB ^ i / V * V)) :
    DvInv A V m i us' (qs.set i ((val us / BB ^ i / V : Nat) : Int)) := by
  obtain ⟨s1, s2⟩ := h.at.step
  have hq := h.q
  obtain ⟨Q, hQ⟩ := h.dvd
  have hle := h.le
  have hiq : i < qs.length := by have := h.qlen; omega
  have h0 : qs.getD i 0 = 0 := by
    rw [getD_val h.qin, hQ, Nat.pow_succ, Nat.mul_assoc, Nat.mul_div_cancel_left _ (Nat.pow_pos (by decide)), Nat.mul_mod_right]; rfl
  have e := val_set (xs := qs) (i := i) (x := ((val us / BB ^ i / V : Nat) : Int)) hiq
  rw [h0] at e
  simp only [Int.toNat_zero,Nat.mul_zero,Nat.add_zero,Int.toNat_natCast] at e
  have heq := h.eq
  generalize val us / BB ^ i / V = q at *
  refine ⟨h.nrm, by omega, by rw [hl]; exact h.ulen, hi, by rw [List.length_set]; exact h.qlen, h.qin.set _ ⟨by omega, by unfold BB at hq; omega⟩, ?_, by rw [hv]; exact s1, BB * Q + q, ?_⟩
  · rw [e, Nat.add_mul, hv, Nat.mul_assoc]
    omega
  rw [e, hQ, Nat.pow_succ, Nat.mul_add, Nat.mul_assoc]
theorem DvInv.done {a b k m : Nat} {us qs : List Int} (hb : 0 < b) (h : DvInv (a * 2 ^ k) (b * 2 ^ k) m 0 us qs) : val qs = a / b ∧ val us = (a % b) * 2 ^ k ∧ val us < BB ^ nl (b * 2 ^ k) := by
  have h1 := h.eq
  have h2 := h.lt
  rw [Nat.pow_zero, Nat.mul_one] at h2
  have hk : 0 < 2 ^ k := Nat.pow_pos (by decide)
  have e1 : val qs = a * 2 ^ k / (b * 2 ^ k) := by
    rw [← h1, Nat.mul_comm, Nat.mul_add_div h.nrm.pos, Nat.div_eq_of_lt h2, Nat.add_zero]
  have e2 : val us = a * 2 ^ k % (b * 2 ^ k) := by
    rw [← h1, Nat.mul_comm, Nat.mul_add_mod, Nat.mod_eq_of_lt h2]
  rw [Nat.mul_div_mul_right _ _ hk] at e1
  rw [Nat.mul_mod_mul_right] at e2
  exact ⟨e1, e2, Nat.lt_trans h2 h.nrm.lt⟩
structure CpInv (xs : List Int) (off U D m k : Nat) (zs : List Int) : Prop where
  le : k ≤ m
  len : zs.length = xs.length
  inr : InR zs
  up : zs.drop (off + k) = xs.drop (off + k)
  eq : val zs + BB ^ off * (U % BB ^ k) = val xs + BB ^ off * (D % BB ^ k)
theorem CpInv.init {xs : List Int} (off U D m : Nat) (h : InR xs) : CpInv xs off U D m 0 xs := ⟨Nat.zero_le _, rfl, h, rfl, by simp [Nat.mod_one]⟩
theorem CpInv.put {xs : List Int} {off U D m k : Nat} {zs : List Int} (h : CpInv xs off U D m k zs) (hk : k < m) (hl : off + m ≤ xs.length) (hU : xs.getD (off + k) 0 = ((U / BB ^ k % BB : Nat) : Int)) {d : Nat} (hd : D / BB ^ k % BB = d) :
    CpInv xs off U D m (k + 1) (zs.set (off + k) (d : Int)) := by
  have hlz : off + k < zs.length := by rw [h.len]; omega
  have hd2 : d < BB := by rw [← hd]; exact Nat.mod_lt _ (by decide)
  have hold : zs.getD (off + k) 0 = ((U / BB ^ k % BB : Nat) : Int) := by
    rw [← hU]
    have e : (zs.drop (off + k)).getD 0 0 = (xs.drop (off + k)).getD 0 0 := by rw [h.up]
    simpa [X7, List.getElem?_drop] using e
  refine ⟨hk, by rw [List.length_set]; exact h.len, h.inr.set _ ⟨by omega, by unfold BB at hd2; omega⟩, ?_, ?_⟩
  · rw [← Nat.add_assoc, List.drop_set_of_lt (by omega), ← List.drop_drop, h.up, List.drop_drop]
  have e := val_set (xs := zs) (x := (d : Int)) hlz
  rw [hold] at e
  simp only [Int.toNat_natCast] at e
  have h1 := h.eq
  rw [mod_next', mod_next', Nat.mul_add, Nat.mul_add, ← Nat.mul_assoc, ← Nat.mul_assoc, ← Nat.pow_add, hd]
  omega
theorem CpInv.done {xs : List Int} {off U D m : Nat} {zs : List Int} (h : CpInv xs off U D m m zs) (hU : U < BB ^ m) (hD : D < BB ^ m) : val zs + BB ^ off * U = val xs + BB ^ off * D := by
  have := h.eq
  rw [Nat.mod_eq_of_lt hU, Nat.mod_eq_of_lt hD] at this
  exact this
theorem drop_val {zs : List Int} (hi : InR zs) {k : Nat} (h : val (zs.drop k) = 0) : val zs < BB ^ k := by
  rw [val_drop hi] at h
  rcases Nat.lt_or_ge (val zs) (BB ^ k) with h1 | h1
  · exact h1
  have := (Nat.div_pos_iff (a := val zs) (b := BB ^ k)).2 ⟨Nat.pow_pos (by decide), h1⟩
  omega
end Go.Eng
/-
  THE ENGINE, PART Z: a function that returns a new slice, as one whose result is only looked at.
-/
namespace Go.Eng
open Go
theorem Fr.view {P : Program} {f : FuncId} {args : List V} {B : Bk} (h : Fr P f args B) : Pr P f args (.one (vwBk B B.wd 0 B.len)) := by
  obtain ⟨hc, hf, h⟩ := h
  refine ⟨hc, fun ok w vs hok hvs => Calls.mono (h ok w vs hok hvs) fun e w' he => ?_⟩
  obtain ⟨v, l, rfl, hb, hl, hnew, hrep, hval⟩ := he
  refine ⟨v, rfl, hb, ?_⟩
  obtain ⟨_, hle, cap, hcap, hv⟩ := hval
  have hrep' : RepBk loc0 dom0 (fun g => ok g ∨ (w.heap.size ≤ g ∧ g < w'.heap.size)) w' l B := hrep.plain_ext (Bk.flat_plain hf) fun g hg => by
    rcases hg with hg | ⟨h1, h2, _⟩
    · exact .inl hg
    exact .inr ⟨h1, h2⟩
  refine RepC.of_repI ?_
  rcases hv with ⟨g, o, o', ha, rfl, ho, _⟩ | ⟨_, rfl, h0, _⟩
  · exact vwBk_sound ha hrep' (.inr (hnew g o ha)) hl hle hcap ho
  cases B with
  | var cs => exact hf.elim
  | ints e k xs =>
    simp only [Bk.len] at h0
    simp only [vwBk,Bk.wd,if_true,Bk.len]
    exact ⟨none, 0, by simp [h0], by simp [h0], .inl (by simp [h0])⟩
  | rows e w n f =>
    simp only [Bk.len] at h0
    subst h0
    simp only [vwBk,Bk.wd,if_true,Bk.len]
    exact ⟨none, 0, rfl, Nat.le_refl _, .inl rfl⟩
theorem Fr.ints {P : Program} {f : FuncId} {args : List V} {e : TypeId} {k : IntKind} {xs : List Int} (h : Fr P f args (.ints e k xs)) : Pr P f args (.one (.ints k xs)) := by
  have h1 := h.view
  simp only [vwBk,Bk.wd,Bk.len,if_true,List.drop_zero,List.take_length] at h1
  exact h1
theorem Fr.rows {P : Program} {f : FuncId} {args : List V} {e : TypeId} {w n : Nat} {g : Nat → Nat → C} (h : Fr P f args (.rows e w n g)) : Pr P f args (.one (.rows w n g)) := by
  have h1 := h.view
  simp only [vwBk,Bk.wd,Bk.len,if_true,Nat.zero_add] at h1
  exact h1
end Go.Eng
/-
  integer.toUint: the number of a list of words, by a range over slices.Backward.
-/
namespace Go.Proofs.YtpogdlmhmafjlaaGreat
open Go Go.Proofs Go.RowKit Go.Shelf Go.Eng
attribute [local go_sem] Oper.semAt_some
def upB (zs : List Int) (m k : Nat) : List (Nat × Int) := (List.range k).map fun j => (m - 1 - j, zs[m - 1 - j]?.getD 0)
theorem upB_succ (zs : List Int) (m k : Nat) : upB zs m (k + 1) = upB zs m k ++ [(m - 1 - k, zs[m - 1 - k]?.getD 0)] := by simp [upB, List.range_succ]
theorem upB_length (zs : List Int) (m k : Nat) : (upB zs m k).length = k := by simp [upB]
def KpB (n₀ Bs : Nat) (sv : Value) (W W' : World) : Prop := Below n₀ W W' ∧ (W.cell? ⟨Bs, 0, none⟩ = some sv → W'.cell? ⟨Bs, 0, none⟩ = some sv)
theorem kpB_t {n₀ Bs : Nat} {sv : Value} {A B C : World} (h : KpB n₀ Bs sv A B) (k : KpB n₀ Bs sv B C) : KpB n₀ Bs sv A C := ⟨h.1.trans k.1, fun e => k.2 (h.2 e)⟩
theorem kpB_b {n₀ Bs : Nat} {sv : Value} {w : World} (hn : n₀ ≤ w.heap.size) (hb : Bs < w.heap.size) (W : World) (l : Nat) (o o' : Obj) (hl : w.heap.size ≤ l) (h : W.heap[l]? = some o) (hc : o.isCells = false) (hw : o.isWalk = false) : KpB n₀ Bs sv W (W.putObj l o') :=
  ⟨belowK_b hn W l o o' hl h hc hw, fun e => ((belowK_b (n₀ := w.heap.size) (Nat.le_refl _) W l o o' hl h hc hw).cell (p := ⟨Bs, 0, none⟩) hb).trans e⟩
set_option maxRecDepth 100000 in
theorem back1_in (F : Fence) (n : Nat) (h8 : F.fn 212) (hro : F.round = none) (hn : 1 ≤ n) (l Bs n₀ b off len cap : Nat) (zs : List Int) (hreach : len * 8 ≤ 140737488351232) (hb : b < n₀) (J Jx : List (Nat × Int) → World → Prop)
    (hY : ∀ pre x W, J pre W → pre.length < len → YieldAt F (n - 1) Tryz.prog l #[.int .i64 (x.1 : Int), .int .u32 x.2] W fun e W' =>
      (e = .returned (.bool true) ∧ J (pre ++ [x]) W' ∧ KpB n₀ Bs (.slice (some ⟨b, off, none⟩) len cap) W W') ∨ (e = .returned (.bool false) ∧ Jx (pre ++ [x]) W'))
    (W : World) (hBs : W.cell? ⟨Bs, 0, none⟩ = some (.slice (some ⟨b, off, none⟩) len cap)) (hc : ∀ j, j < len → W.cell? ⟨b, off + j, none⟩ = some (.int .u32 (zs[j]?.getD 0))) (h0 : J [] W) :
    CallsIn F n Tryz.prog 212 #[.func (.yield l) #[] #[], .pointer (some ⟨Bs, 0, none⟩)] W fun e W' => (∃ v, e = .returned v) ∧
      ((∃ ys, ys = upB zs len len ∧ J ys W') ∨ (∃ pre, (∃ k, k ≤ len ∧ pre = upB zs len k) ∧ Jx pre W')) := by
  refine callsIn_of_wp Tryz.func212 rfl h8 ?_ hro
  simp only [Tryz.ntmps212,List.size_toArray,List.length_cons,List.length_nil,J1,J3,Array.replicate_succ,Array.replicate_zero,List.push_toArray,List.append_toArray,List.nil_append,List.cons_append]
  gi_wp2
  gi_loopw [3] (fun i wr => ∃ m k : Nat, m + k = len ∧ i = .int .i64 ((m : Int) - 1) ∧ J (upB zs len k) wr ∧ KpB n₀ Bs (.slice (some ⟨b, off, none⟩) len cap) W wr)
    (fun i _ => (intOf i + 1).toNat)
  case atStart => exact ⟨len, 0, rfl, rfl, h0, Below.refl _ _, id⟩
  case round =>
    obtain ⟨m, k, hk, rfl, hJs, hnx⟩ := hrel
    rcases m with _ | m
    · obtain rfl : k = len := by omega
      gi_wp2
      go_end0
      exact ⟨⟨_, rfl⟩, .inl ⟨_, rfl, hJs⟩⟩
    have hcx' : wr.cell? ⟨b, off + m, none⟩ = some (.int .u32 (zs[m]?.getD 0)) := (hnx.1.cell (p := ⟨b, off + m, none⟩) hb).trans (hc m (by omega))
    have hbx := hnx.2 hBs
    obtain ⟨fn, tmps, assign, body, hy, hR⟩ := hY _ (m, zs[m]?.getD 0) wr hJs (by rw [upB_length]; omega)
    dsimp only at hy
    have e0 : upB zs len (k + 1) = upB zs len k ++ [(m, zs[m]?.getD 0)] := by rw [upB_succ, show len - 1 - k = m by omega]
    have hE := Lib.hid e0
    clear e0
    obtain ⟨i0, hi0⟩ : ∃ i0 : Int, i0 = m := ⟨_, rfl⟩
    have em : ((m + 1 : Nat) : Int) - 1 = m := by omega
    rw [em]
    clear em
    have hml : m < len := by omega
    gi_wp2
    refine hR.mono ?_
    rintro e W3 (⟨rfl, hJ3, hk3⟩ | ⟨rfl, hJx3⟩)
    · gi_wp2
      go_roundw
      case rel => exact ⟨m, k + 1, by omega, by simp, by rw [hE.out]; exact hJ3, kpB_t hnx hk3⟩
      case measure => simp [intOf]
    gi_wp2
    refine bodyPost_ret (results_none rfl _ _ _) rfl ?_
    exact ⟨⟨_, rfl⟩, .inr ⟨_, ⟨k + 1, by omega, hE.out.symm⟩, hJx3⟩⟩
def WordsAt (n₀ : Nat) (W : World) (sv : Value) (zs : List Int) : Prop :=
  ∃ a cap, sv = .slice a zs.length cap ∧ (zs.length = 0 ∨ ∃ b off, a = some ⟨b, off, none⟩ ∧ b < n₀ ∧ ∀ j, j < zs.length → W.cell? ⟨b, off + j, none⟩ = some (.int .u32 (zs[j]?.getD 0)))
theorem WordsAt.below {n₀ : Nat} {A B : World} (h : Below n₀ A B) {sv : Value} {zs : List Int} : WordsAt n₀ A sv zs → WordsAt n₀ B sv zs
  | ⟨a, cap, e, .inl h0⟩ => ⟨a, cap, e, .inl h0⟩
  | ⟨a, cap, e, .inr ⟨b, off, ha, hb, hc⟩⟩ => ⟨a, cap, e, .inr ⟨b, off, ha, hb, fun j hj => (h.cell (p := ⟨b, off + j, none⟩) hb).trans (hc j hj)⟩⟩
set_option maxRecDepth 100000 in
theorem back1_nil_in (F : Fence) (n : Nat) (h8 : F.fn 212) (hro : F.round = none) (l Bs cap : Nat) (a : Option Addr) (J : List (Nat × Int) → World → Prop) (W : World) (hBs : W.cell? ⟨Bs, 0, none⟩ = some (.slice a 0 cap)) (h0 : J [] W) :
    CallsIn F n Tryz.prog 212 #[.func (.yield l) #[] #[], .pointer (some ⟨Bs, 0, none⟩)] W fun e W' => (∃ v, e = .returned v) ∧ J [] W' := by
  refine callsIn_of_wp Tryz.func212 rfl h8 ?_ hro
  simp only [Tryz.ntmps212,List.size_toArray,List.length_cons,List.length_nil,J1,J3,Array.replicate_succ,Array.replicate_zero,List.push_toArray,List.append_toArray,List.nil_append,List.cons_append]
  gi_wp2
  gi_loopw [3] (fun i wr => i = .int .i64 (-1) ∧ J [] wr) (fun _ _ => 0)
  case atStart => exact ⟨rfl, h0⟩
  case round =>
    obtain ⟨rfl, hJs⟩ := hrel
    gi_wp2
    go_end0
    exact ⟨⟨_, rfl⟩, hJs⟩
theorem back_in (F : Fence) (n : Nat) (h6 : F.fn 188) (hro : F.round = none) (a : Option Addr) (len cap : Nat) (w : World) :
    CallsIn F n Tryz.prog 188 #[.slice a len cap] w fun e w' => e = .returned (.func (.func 212) #[] #[.pointer (some ⟨w.heap.size, 0, none⟩)]) ∧ w' = w.alloc (.cells #[.slice a len cap] 29) := by
  refine callsIn_of_wp Tryz.func188 rfl h6 ?_ hro
  simp only [Tryz.ntmps188,List.size_toArray,List.length_cons,List.length_nil,J1,J3,Array.replicate_succ,Array.replicate_zero,List.push_toArray,List.append_toArray,List.nil_append,List.cons_append]
  gi_wp2
  go_ret
  exact ⟨rfl, rfl⟩
theorem back_stops (F : Fence) (n : Nat) (h8 : F.fn 212) (hro : F.round = none) (hn : 1 ≤ n) (Bs n₀ : Nat) (sv : Value) (zs : List Int) (hreach : zs.length * 8 ≤ 140737488351232) (w : World) (hBs : Bs < w.heap.size) (hn₀ : n₀ ≤ w.heap.size)
    (hc : w.cell? ⟨Bs, 0, none⟩ = some sv) (hI : WordsAt n₀ w sv zs) :
    SeqStopsK F n Tryz.prog 212 #[.pointer (some ⟨Bs, 0, none⟩)] (fun x : Nat × Int => #[Value.int .i64 (x.1 : Int), Value.int .u32 x.2]) (KpB n₀ Bs sv) (fun ys => ys = upB zs zs.length zs.length)
      (fun pre => ∃ k, k ≤ zs.length ∧ pre = upB zs zs.length k) zs.length w := fun l J Jx W hW _ _ hY h0 => by
  have hc' := (hW.cell (p := ⟨Bs, 0, none⟩) hBs).trans hc
  obtain ⟨a, cap, rfl, h1 | ⟨b, off, rfl, hb, hcs⟩⟩ := hI.below (hW.mono hn₀)
  · rw [h1] at hc' ⊢
    exact (back1_nil_in F n h8 hro l Bs cap a J W hc' h0).mono fun e W' ⟨he, hj⟩ => ⟨he, .inl ⟨_, by rfl, hj⟩⟩
  exact back1_in F n h8 hro hn l Bs n₀ b off zs.length cap zs hreach hb J Jx hY W hc' hcs h0
def touStep (s x : Int) : Int := bits .or .u64 (IntKind.u64.wrap (s * 4294967296)) (IntKind.u64.wrap x)
def touW : List (Nat × Int) → Int := List.foldl (fun s p => touStep s p.2) 0
theorem touW_snoc (pre : List (Nat × Int)) (x : Nat × Int) : touW (pre ++ [x]) = touStep (touW pre) x.2 := by simp [touW]
set_option maxRecDepth 100000 in
theorem toUint_in (F : Fence) (n : Nat) (h3 : F.fn 152) (h5 : F.fn 188) (h7 : F.fn 212) (hro : F.round = none) (hn : 3 ≤ n) (a : Option Addr) (len cap : Nat) (zs : List Int) (hreach : zs.length * 8 ≤ 140737488351232) (w : World) (hI : WordsAt w.heap.size w (.slice a len cap) zs) :
    CallsIn F n Tryz.prog 152 #[.slice a len cap] w fun e W' => e = .returned (.int .u64 (touW (upB zs zs.length zs.length))) ∧ Below w.heap.size w W' := by
  have h1 : 1 ≤ n := by omega
  refine callsIn_of_wp_marks Tryz.func152 rfl h3 ?_ hro
  simp only [Tryz.ntmps152,List.size_toArray,List.length_cons,List.length_nil,J1,J3,Array.replicate_succ,Array.replicate_zero,List.push_toArray,List.append_toArray,List.nil_append,List.cons_append]
  gi_wp2_with (gi_at_call 188; refine (back_in F (n - 1) h5 hro _ _ _ _).mono ?_; rintro e w' ⟨rfl, rfl⟩)
  have bS := Boxed.new w 109 (.int .u64 0)
  have bN := Boxed.new (w.alloc (.cells #[.int .u64 0] 109)) 29 (.slice a len cap)
  rw [World.size_alloc] at bN
  have hB0 : Below w.heap.size w ((w.alloc (.cells #[.int .u64 0] 109)).alloc (.cells #[.slice a len cap] 29)) := ((Below.refl _ w).alloc (Nat.le_refl _) _).alloc (by simp) _
  refine wpIn_rangeFunc_ownG hro h1 (gf := 212) (lb := #[.pointer (some ⟨w.heap.size + 1, 0, none⟩)]) rfl h7 (enters_of Tryz.func212 (by kernel_rfl) rfl)
    (back_stops F (n - 1) h7 hro (by omega) (w.heap.size + 1) w.heap.size _ zs hreach _ (by simp) (by simp; omega) bN.cell (hI.below hB0)) kpB_t (kpB_b (by simp; omega) (by simp)) (Below.refl _ _) (fun _ => rfl)
    (fun pre W => (W.cell? ⟨w.heap.size, 0, none⟩ = some (.int .u64 (touW pre)) ∧ W.frozen? ⟨w.heap.size, 0, none⟩ = false) ∧ Below w.heap.size w W)
    (fun _ _ _ => False)
    (OwnFrom.and (Own.from (fun s A B row hs hg hr => ⟨cell_kept hs.1 hg hr, (frozen_kept hs.1 hg hr).trans hs.2⟩) _) (ownFrom_below (Nat.le_refl _) (by simp; omega)))
    (fun _ _ _ _ _ hs _ _ => hs)
    ⟨⟨(bS.alloc _).cell, (bS.alloc _).frozen⟩, hB0⟩
    (fun x => { tmps := #[.slice a len cap, undef, .int .u64 0, .pointer (some ⟨w.heap.size, 0, none⟩), undef, .int .u32 x.2, .slice a len cap, .func (.func 212) #[] #[.pointer (some ⟨w.heap.size + 1, 0, none⟩)], .int .i64 (x.1 : Int), .int .u32 x.2, undef, undef, undef, undef, undef, undef], defers := [] }) ?assign ?body ?done ?stop
  case assign =>
    intro l x W K hK
    gi_wp2
    exact hK
  case body =>
    rintro l pre x W ⟨⟨hc, hf⟩, hB⟩ _
    gi_wp2
    exact ⟨(KeepsOthers.setCell _ _ _).from _, ⟨(Below.refl w.heap.size W).setCell (p := ⟨w.heap.size, 0, none⟩) (Nat.le_refl _) _, fun e => (World.cell?_setCell_other _ _ _ _ (by intro h; simp only [Addr.mk.injEq] at h; omega)).trans e⟩,
      ⟨by rw [touW_snoc]; exact World.cell?_setCell_same' _ _ _ (by rw [hc]; rfl), by rw [World.frozen?_setCell]; exact hf⟩, hB.setCell (p := ⟨w.heap.size, 0, none⟩) (Nat.le_refl _) _⟩
  case done =>
    rintro D ys W hD rfl ⟨⟨hc, _⟩, hB⟩ hK
    gi_wp2
    refine ⟨by simp, .inl ⟨_, _, rfl, run_takeDeferred hK, ?_⟩⟩
    exact ⟨_, results_tmp rfl _ _ _, rfl, hB.trans (belowK_b (w := w) (Nat.le_refl _) W D _ _ (by simp at hD; omega) hK rfl rfl)⟩
  case stop =>
    rintro D c pre W _ _ h _
    exact h.elim
theorem tou_step {s x : Nat} (hs : s < BB) (hx : x < BB) : touStep (s : Int) (x : Int) = ((s * BB + x : Nat) : Int) := by
  have h : bitsOp .or .u64 ((s : Int) * 4294967296) (x : Int) = ((s * BB + x : Nat) : Int) := by
    rw [show ((s : Int) * 4294967296) = ((s * 4294967296 : Nat) : Int) by omega]
    unfold BB at *
    have e := Nat.two_pow_add_eq_or_of_lt (i := 32) (b := x) (by omega) s
    rw [bits_or64 (by omega) (by omega)]
    have e2 : s * 4294967296 = 2 ^ 32 * s := Nat.mul_comm _ _
    rw [e2, ← e]
  unfold touStep
  rw [IntWalk.u64_in _ (by unfold BB at *; omega), IntWalk.u64_in _ (by unfold BB at *; omega)]
  exact h
theorem touW_limbs {n : Nat} (hn : n < 2 ^ 64) : touW (upB (limbs n) (nl n) (nl n)) = n := by
  have h2 : nl n ≤ 2 := nl_le_of_lt (by unfold BB; omega)
  have hr := InR.limbs n
  have hv := val_limbs n
  unfold nl at *
  generalize limbs n = l at *
  match l, h2 with
  | [], _ => simp [val] at hv; subst hv; rfl
  | [x], _ =>
    obtain ⟨x0, x1⟩ := hr.head
    obtain ⟨a, rfl⟩ := Int.eq_ofNat_of_zero_le x0
    simp [val] at hv
    have e : touW (upB [(a : Int)] 1 1) = touStep ((0 : Nat) : Int) a := rfl
    show touW (upB [(a : Int)] 1 1) = _
    rw [e, tou_step (by decide) (by unfold BB; omega)]
    omega
  | [x, y], _ =>
    obtain ⟨x0, x1⟩ := hr.head
    obtain ⟨a, rfl⟩ := Int.eq_ofNat_of_zero_le x0
    obtain ⟨y0, y1⟩ := hr.tail.head
    obtain ⟨b, rfl⟩ := Int.eq_ofNat_of_zero_le y0
    simp [val] at hv
    have e : touW (upB [(a : Int), (b : Int)] 2 2) = touStep (touStep ((0 : Nat) : Int) b) a := rfl
    show touW (upB [(a : Int), (b : Int)] 2 2) = _
    rw [e, tou_step (by decide) (by unfold BB; omega), Nat.zero_mul, Nat.zero_add, tou_step (by unfold BB; omega) (by unfold BB; omega)]
    unfold BB at *
    omega
theorem itoUint_spec (n : Nat) (hn : n < 2 ^ 64) : Pr Tryz.prog 152 [.one (.ints .u32 (limbs n))] (.one (.int .u64 n)) := by
  refine ⟨⟨_, Tryz.func152, by rfl, by rfl⟩, fun ok w vs hok hr => ?_⟩
  obtain ⟨vs⟩ := vs
  match vs, hr with
  | [v], hr =>
    obtain ⟨⟨a, cap, rfl, hle, hc⟩, _⟩ := hr
    have h2 : (limbs n).length ≤ 2 := nl_le_of_lt (by unfold BB; omega)
    have hI : WordsAt w.heap.size w (.slice a (limbs n).length cap) (limbs n) := by
      refine ⟨a, cap, rfl, ?_⟩
      rcases hc with hc | ⟨g, o, ha, hg, hc⟩
      · exact .inl hc
      exact .inr ⟨g, o, ha, hok g hg, fun j hj => by rw [hc j hj, X7]⟩
    refine (callsIn_wide.1 (toUint_in Fence.wide 3 trivial trivial trivial rfl (by omega) a (limbs n).length cap (limbs n) (by omega) w hI)).mono ?_
    rintro e W' ⟨rfl, hB⟩
    refine ⟨_, rfl, hB, ?_⟩
    show Value.int .u64 (touW (upB (limbs n) (nl n) (nl n))) = .int .u64 n
    rw [touW_limbs hn]
open Go Go.Proofs Go.Eng
theorem bitLen_bl (x : Nat) (h : x < 2 ^ 64) : Lib.bitLen x = bl x := by
  induction x using Nat.strongRecOn with
  | _ x ih =>
    by_cases h0 : x = 0
    · subst h0; rw [bl_zero]; rfl
    rw [Lib.bitLen_half x h0 h, bl_pos (by omega), ih (x / 2) (by omega) (by omega)]
theorem lz_spec (x : Nat) (hx : x < BB) : Pr Tryz.prog 183 [.one (.int .u32 x)] (.one (.int .i64 (32 - bl x : Nat))) := by
  refine ⟨⟨_, Tryz.func183, by rfl, by rfl⟩, fun ok w vs hok hr => ?_⟩
  obtain ⟨vs⟩ := vs
  match vs, hr with
  | [v], hr =>
    obtain ⟨hv, _⟩ := hr
    have hv : v = .int .u32 x := hv
    subst hv
    have h2 : bl x ≤ 32 := bl_le (by unfold BB at hx; omega)
    refine (Tryz.bits_LeadingZeros32 x w (by omega) (by unfold BB at hx; omega)).mono ?_
    rintro e W' ⟨rfl, rfl⟩
    refine ⟨_, rfl, Go.RowKit.Below.refl _ _, ?_⟩
    show Value.int .i64 (32 - (Lib.bitLen (x : Int).toNat : Int)) = .int .i64 ((32 - bl x : Nat) : Int)
    rw [Int.toNat_natCast, bitLen_bl x (by unfold BB at hx; omega)]
    congr 1
    omega
open Go Go.Eng
theorem cmpI_neg {m n : Nat} (h : cmpI m n < 0) : m < n := by
  unfold cmpI at h
  split at h
  · omega
  split at h <;> omega
theorem cmpI_nneg {m n : Nat} (h : ¬ cmpI m n < 0) : n ≤ m := by
  rcases Nat.lt_or_ge m n with h1 | h1
  · rw [cmpI_lt (by omega)] at h; omega
  exact h1
theorem idivide_spec (a b : Nat) (h0 : 0 < b) (ha : nl a < 2 ^ 39) (hb : nl b < 2 ^ 39) : Pr Tryz.prog 151 [.one (.ints .u32 (limbs a)), .one (.ints .u32 (limbs b))] (.tup [.one (.ints .u32 (limbs (a / b))), .one (.ints .u32 (limbs (a % b)))]) := by
  have hnb := nl_pos.2 h0
  refine pv T_ok mixed Tryz.func151 rfl (by decide) _ (by simp [Tryz.ntmps151]) ⟨[0, 1, 4, 5, 6, 7, 8, 9, 10, 11, 12, 13, 14, 15, 16, 17, 18, 19, 26, 42, 90, 134, 141, 151], [(12, .nil), (17, .nil)]⟩ (by kernel_rfl) _ ?_
  show vc T _ _ (Option.get! Tryz.f151.body) _ _
  simp only [Tryz.f151,Tryz.ntmps151,Option.get!,iS,iM,eO,J1]
  simp only [vx,T,K5,J0,K6,K7,↓reduceIte,J1,J2,J3,J4,J5,J6,J7,J8,J9,reduceCtorEq,K1,K2,K3,K4]
  refine Cg (icompare_spec a b (by omega) (by omega)) ?_
  simp only [vx,T,K5,J0,K6,K7,↓reduceIte,J1,J2,J3,J4,J5,J6,J7,J8,J9,reduceCtorEq,K1,K2,K3,K4]
  refine ⟨fun h1 => Lg ?_, fun h1 => Lg ?_⟩
  · simp only [vx,T,K5,J0,K6,K7,↓reduceIte,J1,J2,J3,J4,J5,J6,J7,J8,J9,reduceCtorEq,K1,K2,K3,K4]
    refine Cg (cloneU_spec _ (by rw [limbs_length]; omega)) ?_
    simp only [vx,T,K5,J0,K6,K7,↓reduceIte,J1,J2,J3,J4,J5,J6,J7,J8,J9,reduceCtorEq,K1,K2,K3,K4]
    have hlt : a < b := cmpI_neg h1
    refine Va ?_; simp only [vLe,vLeL,rx,Y0,Y1,Y2,Y3,Y4,Y5,Y6,Y7,ren,↓reduceIte,J1,J2,J3,J4,J5,J6,J7,J8,J9,reduceCtorEq,K1,K2,K3,K4,Nat.div_eq_of_lt hlt,Nat.mod_eq_of_lt hlt,limbs_zero]
  have hle : b ≤ a := cmpI_nneg h1
  simp only [vx,T,K5,J0,K6,K7,↓reduceIte,J1,J2,J3,J4,J5,J6,J7,J8,J9,reduceCtorEq,K1,K2,K3,K4]
  refine ⟨fun h2 => Lg ?_, fun h2 => Lg ?_⟩
  · simp only [vx,T,K5,J0,K6,K7,↓reduceIte,J1,J2,J3,J4,J5,J6,J7,J8,J9,reduceCtorEq,K1,K2,K3,K4]
    have ha2 : a < 2 ^ 64 := by have := nl_le_iff.1 (show nl a ≤ 2 by omega); unfold BB at this; omega
    refine Cg (itoUint_spec a ha2) ?_
    simp only [vx,T,K5,J0,K6,K7,↓reduceIte,J1,J2,J3,J4,J5,J6,J7,J8,J9,reduceCtorEq,K1,K2,K3,K4]
    refine Cg (itoUint_spec b (by omega)) ?_
    simp only [vx,T,K5,J0,K6,K7,↓reduceIte,J1,J2,J3,J4,J5,J6,J7,J8,J9,reduceCtorEq,K1,K2,K3,K4]
    refine ⟨by omega, ?_⟩
    have e1 : IntKind.u64.wrap ((a : Int).tdiv b) = ((a / b : Nat) : Int) := by
      have e3 : (a : Int).tdiv b = ((a / b : Nat) : Int) := rfl
      have := Nat.div_le_self a b
      generalize a / b = q at *
      rw [e3, IntWalk.u64_in _ (by omega)]
    have e2 : (a : Int).tmod b = ((a % b : Nat) : Int) := rfl
    simp only [e1,e2]
    refine Cg (ifromUint_spec (a / b) (Nat.lt_of_le_of_lt (Nat.div_le_self a b) ha2)) ?_
    simp only [vx,T,K5,J0,K6,K7,↓reduceIte,J1,J2,J3,J4,J5,J6,J7,J8,J9,reduceCtorEq,K1,K2,K3,K4]
    refine ⟨by omega, ?_⟩
    simp only [e2]
    refine Cg (ifromUint_spec (a % b) (Nat.lt_of_le_of_lt (Nat.mod_le a b) ha2)) ?_
    simp only [vx,T,K5,J0,K6,K7,↓reduceIte,J1,J2,J3,J4,J5,J6,J7,J8,J9,reduceCtorEq,K1,K2,K3,K4]
    refine Va ?_; simp only [vLe,vLeL,rx,Y0,Y1,Y2,Y3,Y4,Y5,Y6,Y7,ren,↓reduceIte,J1,J2,J3,J4,J5,J6,J7,J8,J9,reduceCtorEq,K1,K2,K3,K4]
  simp only [vx,T,K5,J0,K6,K7,↓reduceIte,J1,J2,J3,J4,J5,J6,J7,J8,J9,reduceCtorEq,K1,K2,K3,K4]
  refine ⟨fun h3 => Lg ?_, fun h3 => Lg ?_⟩
  · have h3' : nl b = 1 := by omega
    have hb1 : b < BB := by have := nl_le_iff.1 (show nl b ≤ 1 by omega); simpa using this
    simp only [vx,T,K5,J0,K6,K7,↓reduceIte,J1,J2,J3,J4,J5,J6,J7,J8,J9,reduceCtorEq,K1,K2,K3,K4]
    simp (disch := omega) only [lG,← X2,← Int.natCast_mul,Int.toNat_natCast,IntWalk.i64_in,IntWalk.u64_in,wrapBB,fdivBB,true_and,and_true,Nat.pow_zero,Nat.div_one,Nat.mod_eq_of_lt hb1]
    refine ⟨by omega, Cg (idivideWord_spec a b (by omega) h0 hb1) ?_⟩
    simp only [vx,T,K5,J0,K6,K7,↓reduceIte,J1,J2,J3,J4,J5,J6,J7,J8,J9,reduceCtorEq,K1,K2,K3,K4]
    refine Va ?_; simp only [vLe,vLeL,rx,Y0,Y1,Y2,Y3,Y4,Y5,Y6,Y7,ren,↓reduceIte,J1,J2,J3,J4,J5,J6,J7,J8,J9,reduceCtorEq,K1,K2,K3,K4]
  simp only [vx,T,K5,J0,K6,K7,↓reduceIte,J1,J2,J3,J4,J5,J6,J7,J8,J9,reduceCtorEq,K1,K2,K3,K4]
  have e1 : IntKind.i64.wrap ((nl b : Int) - 1) = ((nl b - 1 : Nat) : Int) := by rw [IntWalk.i64_in _ (by omega)]; omega
  have ht := topW_mod h0
  obtain ⟨t1, t2⟩ := topW_lt h0
  obtain ⟨s1, s2, s3⟩ := shf_spec h0
  have s4 := shf_nl h0
  simp (disch := omega) only [lG,← X2,← Int.natCast_mul,Int.toNat_natCast,IntWalk.i64_in,IntWalk.u64_in,wrapBB,fdivBB,true_and,and_true,e1,ht]
  refine ⟨by omega, Cg (lz_spec (topW b) t2) ?_⟩
  have eS : 32 - bl (topW b) = shf b := rfl
  rw [eS]
  simp only [vx,T,K5,J0,K6,K7,↓reduceIte,J1,J2,J3,J4,J5,J6,J7,J8,J9,reduceCtorEq,K1,K2,K3,K4]
  refine CallK.fresh (ishiftLeft_spec a (shf b) (by omega) s1) ?_
  simp only [vx,T,K5,J0,K6,K7,↓reduceIte,J1,J2,J3,J4,J5,J6,J7,J8,J9,reduceCtorEq,K1,K2,K3,K4]
  refine CallK.fresh (ishiftLeft_spec b (shf b) (by omega) s1) ?_
  simp only [vx,T,K5,J0,K6,K7,↓reduceIte,J1,J2,J3,J4,J5,J6,J7,J8,J9,reduceCtorEq,K1,K2,K3,K4,dig_length]
  have hA2 : 2 * (a * 2 ^ shf b) < BB ^ (nl a + 1) := by
    have h5 := lt_of_nl a
    have h6 : 2 ^ shf b ≤ 2 ^ 31 := Nat.pow_le_pow_right (by decide) (by omega)
    have h7 : a * 2 ^ shf b ≤ a * 2 ^ 31 := Nat.mul_le_mul_left _ h6
    have h8 : BB ^ (nl a + 1) = BB ^ nl a * BB := Nat.pow_succ _ _
    have h9 : a * (2 * 2 ^ 31) < BB ^ nl a * BB := Nat.mul_lt_mul_of_lt_of_le h5 (by decide) (by decide)
    omega
  have hV2 : val (dig (nl b + 1) (b * 2 ^ shf b)) = b * 2 ^ shf b := val_dig_lt (Nat.lt_of_lt_of_le s2 (Nat.pow_le_pow_right (by decide) (by omega)))
  rw [List.take_of_length_le (by rw [dig_length]; exact Nat.le_refl _)]
  refine Cg (itrim_spec _ (dig_inr _ _) (by rw [dig_length]; omega)) ?_
  rw [hV2]
  have hN : Nrm (b * 2 ^ shf b) (nl (b * 2 ^ shf b)) := ⟨rfl, by omega, by rw [s4]; exact s3⟩
  obtain ⟨A, hA⟩ : ∃ A, A = a * 2 ^ shf b := ⟨_, rfl⟩
  obtain ⟨V, hV⟩ : ∃ V, V = b * 2 ^ shf b := ⟨_, rfl⟩
  have hmono : nl b ≤ nl a := nl_mono hle
  rw [← hA] at hA2 ⊢
  rw [← hV] at s4 hN ⊢
  clear hV2 s2 s3
  simp only [vx,T,K5,J0,K6,K7,↓reduceIte,J1,J2,J3,J4,J5,J6,J7,J8,J9,reduceCtorEq,K1,K2,K3,K4,dig_length]
  have e4 : IntKind.i64.wrap (((nl a + 1 : Nat) : Int) - (nl V : Nat)) = ((nl a + 1 - nl V : Nat) : Int) := by rw [IntWalk.i64_in _ (by omega)]; omega
  have e5 : IntKind.i64.wrap ((nl V : Int) - 1) = ((nl V - 1 : Nat) : Int) := by rw [IntWalk.i64_in _ (by omega)]; omega
  have e6 : IntKind.i64.wrap ((nl V : Int) - 2) = ((nl V - 2 : Nat) : Int) := by rw [IntWalk.i64_in _ (by omega)]; omega
  have w1 := hN.high
  have w2 : V / BB ^ (nl V - 1) % BB = V / BB ^ (nl V - 1) := Nat.mod_eq_of_lt w1.2.1
  have wN : V / BB ^ (nl V - 2) % BB < BB := modBB _
  obtain ⟨hi, hhi⟩ : ∃ hi, hi = V / BB ^ (nl V - 1) := ⟨_, rfl⟩
  obtain ⟨nx, hnx⟩ : ∃ nx, nx = V / BB ^ (nl V - 2) % BB := ⟨_, rfl⟩
  rw [← hhi] at w1 w2
  rw [← hnx] at w1 wN
  obtain ⟨w3, w4, _⟩ := w1
  have w5 : IntKind.u64.wrap (hi : Int) = hi := IntWalk.u64_in _ (by unfold BB at w4; omega)
  have w6 : IntKind.u64.wrap (nx : Int) = nx := IntWalk.u64_in _ (by unfold BB at wN; omega)
  simp (disch := omega) only [lG,← X2,← Int.natCast_mul,Int.toNat_natCast,IntWalk.i64_in,IntWalk.u64_in,wrapBB,fdivBB,true_and,and_true,e4,e5,e6,← hhi,← hnx,w2,w5,w6]
  refine ⟨⟨by omega, by omega, by omega, by omega⟩, ⟨by omega, by omega⟩, ⟨by omega, by omega⟩, Lk (fun y : {y : Nat × List Int × List Int // DvInv A V (nl a + 1) y.1 y.2.1 y.2.2 ∧ y.2.2.length = nl a + 1 - nl V} => ⟨[(8, .one (.int .i64 (shf b))), (9, .one (.own 1 1 0 (nl a + 1))), (10, .one (.ints .u32 (limbs V))), (11, .one (.int .i64 (nl V))), (12, .one (.own 2 1 0 (nl a + 1 - nl V))), (13, .one (.int .u64 hi)), (14, .one (.int .u64 nx)), (15, .one (.int .i64 ((y.1.1 : Int) - 1)))], [(1, ⟨.ints 92 .u32 y.1.2.1, true⟩), (2, ⟨.ints 92 .u32 y.1.2.2, true⟩)], 3, 177⟩) (fun y => y.1.1) ⟨(nl a + 1 - nl V, _, List.replicate (nl a + 1 - nl V) 0), DvInv.init hN (by omega) hA2 (by omega), by simp⟩ ?_ (fun ⟨⟨j, us, qs⟩, hy, hql⟩ => ?_)⟩
  · refine Sa ?_; simp only [rx,Y0,Y1,Y2,Y3,Y4,Y5,Y6,Y7,ren,↓reduceIte,J1,J2,J3,J4,J5,J6,J7,J8,J9,reduceCtorEq,K1,K2,K3,K4,Y8,Y9,X2,X3,X4]
    rfl
  simp only at hy hql
  simp only [vx,T,K5,J0,K6,K7,↓reduceIte,J1,J2,J3,J4,J5,J6,J7,J8,J9,reduceCtorEq,K1,K2,K3,K4]
  refine ⟨fun h6 => Lg ?_, fun h6 => Lg ?_⟩
  · obtain ⟨i, rfl⟩ : ∃ i, j = i + 1 := ⟨j - 1, by omega⟩
    have hAt := hy.at
    obtain ⟨d0, d1, d2, d3⟩ := hAt.words
    have hul := hy.ulen
    have hus0 : val us < BB ^ (i + nl V + 1) := by
      refine Nat.lt_of_lt_of_le hAt.lt ?_
      have := Nat.mul_le_mul_right (BB ^ (i + 1)) (Nat.le_of_lt hAt.nrm.lt)
      rw [← Nat.pow_add, show nl V + (i + 1) = i + nl V + 1 by omega] at this
      exact this
    have hjl := hy.le
    have g0 : us.getD (i + nl V - 2) 0 = ((q3 (nl V) i (val us) % BB : Nat) : Int) := by rw [getD_val hy.uin, d0]
    have g1 : us.getD (i + nl V - 1) 0 = ((q3 (nl V) i (val us) / BB % BB : Nat) : Int) := by rw [getD_val hy.uin, d1]
    have g2 : us.getD (i + nl V) 0 = ((q3 (nl V) i (val us) / BB / BB : Nat) : Int) := by rw [getD_val hy.uin, d2]
    have dg0 := Dg.init hAt
    obtain ⟨tp, htp⟩ : ∃ tp, tp = q3 (nl V) i (val us) / BB := ⟨_, rfl⟩
    rw [← htp] at g1 g2 d1 d2 d3 dg0
    have d4 : tp / BB < BB := by rw [Nat.div_lt_iff_lt_mul (by decide)]; exact d3
    have d5 := or_low64 d4 (modBB tp)
    rw [show tp / BB * BB + tp % BB = tp by rw [Nat.mul_comm]; exact Nat.div_add_mod tp BB] at d5
    have d6 : IntKind.u64.wrap (((tp / BB : Nat) : Int) * 4294967296) = ((tp / BB : Nat) : Int) * 4294967296 := by
      generalize tp / BB = q at d4 ⊢
      exact IntWalk.u64_in _ (by unfold BB at d4; omega)
    have d7 : IntKind.u64.wrap ((tp : Int).tdiv hi) = ((tp / hi : Nat) : Int) := by
      have e3 : (tp : Int).tdiv hi = ((tp / hi : Nat) : Int) := rfl
      have := Nat.div_le_self tp hi
      generalize tp / hi = q at *
      rw [e3, IntWalk.u64_in _ (by unfold BB at d3; omega)]
    have d8 : (tp : Int).tmod hi = ((tp % hi : Nat) : Int) := rfl
    have d9 : IntKind.u64.wrap ((tp / BB : Nat) : Int) = ((tp / BB : Nat) : Int) := by
      generalize tp / BB = q at d4 ⊢
      exact IntWalk.u64_in _ (by unfold BB at d4; omega)
    have d10 : IntKind.u64.wrap ((tp % BB : Nat) : Int) = ((tp % BB : Nat) : Int) := by
      have := modBB tp
      generalize tp % BB = q at this ⊢
      exact IntWalk.u64_in _ (by omega)
    have x0 : ((i + 1 : Nat) : Int) - 1 = (i : Int) := by omega
    have x1 : IntKind.i64.wrap (((i + nl V : Nat) : Int) - 1) = ((i + nl V - 1 : Nat) : Int) := by rw [IntWalk.i64_in _ (by omega)]; omega
    have x2 : IntKind.i64.wrap (((i + nl V : Nat) : Int) - 2) = ((i + nl V - 2 : Nat) : Int) := by rw [IntWalk.i64_in _ (by omega)]; omega
    have x3 : IntKind.i64.wrap ((i : Int) + (nl V : Nat)) = ((i + nl V : Nat) : Int) := by rw [← X2, IntWalk.i64_in _ (by omega)]
    have x4 : ¬ (hi : Int) = 0 := by unfold BB at w3; omega
    rw [x0]
    simp only [vx,T,K5,J0,K6,K7,↓reduceIte,J1,J2,J3,J4,J5,J6,J7,J8,J9,reduceCtorEq,K1,K2,K3,K4]
    simp (disch := omega) only [lG,← X2,← Int.natCast_mul,Int.toNat_natCast,IntWalk.i64_in,IntWalk.u64_in,wrapBB,fdivBB,true_and,and_true,x1,x2,x3,g0,g1,g2,d9,d10,d5,d6,d7,d8]
    refine ⟨⟨by omega, by omega⟩, ⟨by omega, by omega⟩, x4, x4, Lk (fun y : {y : Nat × Nat // Dg V (nl V) i (val us) y.1 y.2} => ⟨[(8, .one (.int .i64 (shf b))), (9, .one (.own 1 1 0 (nl a + 1))), (10, .one (.ints .u32 (limbs V))), (11, .one (.int .i64 (nl V))), (12, .one (.own 2 1 0 (nl a + 1 - nl V))), (13, .one (.int .u64 hi)), (14, .one (.int .u64 nx)), (15, .one (.int .i64 i)), (17, .one (.int .u64 y.1.1)), (18, .one (.int .u64 y.1.2))], [(1, ⟨.ints 92 .u32 us, true⟩), (2, ⟨.ints 92 .u32 qs, true⟩)], 3, 177⟩) (fun y => y.1.1) ⟨(tp / hi, tp % hi), by rw [hhi]; exact dg0⟩ ?_ (fun ⟨⟨D, rest⟩, hD⟩ => ?_)⟩
    · refine Sa ?_; simp only [rx,Y0,Y1,Y2,Y3,Y4,Y5,Y6,Y7,ren,↓reduceIte,J1,J2,J3,J4,J5,J6,J7,J8,J9,reduceCtorEq,K1,K2,K3,K4,Y8,Y9,X2,X3,X4]
    simp only at hD
    have hDl := hD.lt
    have hDr := hD.rest
    have hDt := hD.top
    rw [← htp, ← hhi] at hDt
    have hqb := modBB (q3 (nl V) i (val us))
    simp only [vx,T,K5,J0,K6,K7,↓reduceIte,J1,J2,J3,J4,J5,J6,J7,J8,J9,reduceCtorEq,K1,K2,K3,K4]
    refine ⟨fun c1 => Lg ?_, fun c1 => Lg ?_⟩
    · have c2 : BB ≤ D := by unfold BB; omega
      obtain ⟨n1, n2, n3⟩ := hD.next hAt (.inl c2)
      rw [← htp, ← hhi] at n2
      simp only [vx,T,K5,J0,K6,K7,↓reduceIte,J1,J2,J3,J4,J5,J6,J7,J8,J9,reduceCtorEq,K1,K2,K3,K4]
      have m1 : IntKind.u64.wrap ((D : Int) - 1) = ((D - 1 : Nat) : Int) := by rw [IntWalk.u64_in _ (by unfold BB at hDl; omega)]; omega
      have m2 : IntKind.u64.wrap ((rest + hi : Nat) : Int) = ((rest + hi : Nat) : Int) := IntWalk.u64_in _ (by unfold BB at hDr w4; omega)
      simp (disch := omega) only [lG,← X2,← Int.natCast_mul,Int.toNat_natCast,IntWalk.i64_in,IntWalk.u64_in,wrapBB,fdivBB,true_and,and_true,m1,m2]
      refine ⟨fun c4 => Lg ?_, fun c4 => Lg ?_⟩
      · obtain ⟨f1, f2, f3⟩ := Dg.fin (D := D - 1) (rest := rest + hi) hAt (by rw [← htp, ← hhi]; exact n2) n3 (.inr (by unfold BB; omega))
        generalize D - 1 = E at f1 f2 f3 ⊢
        simp only [vx,T,K5,J0,K6,K7,↓reduceIte,J1,J2,J3,J4,J5,J6,J7,J8,J9,reduceCtorEq,K1,K2,K3,K4]
        have p1 : IntKind.i64.wrap (((i + nl V : Nat) : Int) + 1) = ((i + nl V + 1 : Nat) : Int) := by rw [IntWalk.i64_in _ (by omega)]; omega
        have p2 : (((i + nl V + 1 : Nat) : Int) - (i : Int)).toNat = nl V + 1 := by omega
        simp (disch := omega) only [lG,← X2,← Int.natCast_mul,Int.toNat_natCast,IntWalk.i64_in,IntWalk.u64_in,wrapBB,fdivBB,true_and,and_true,x3,p1,p2]
        refine ⟨⟨by omega, by omega, by omega⟩, Cm 1 rfl trivial (isubtract_spec us i V E hy.uin (by omega) (by omega) f1) ?_⟩
        rintro r B' ⟨t, zs, rfl, rfl, hzl, hzi, hzu, hzv⟩ _
        have hzd : val zs < BB ^ (i + nl V + 1) := drop_val hzi (by rw [hzu, val_drop hy.uin, Nat.div_eq_of_lt hus0])
        simp only [vx,T,K5,J0,K6,K7,↓reduceIte,J1,J2,J3,J4,J5,J6,J7,J8,J9,reduceCtorEq,K1,K2,K3,K4]
        refine ⟨fun ht => Lg ?_, fun ht => Lg ?_⟩
        · subst ht
          have m1 : IntKind.u64.wrap ((E : Int) - 1) = ((E - 1 : Nat) : Int) := by
            have : 0 < E := by
              rcases Nat.eq_zero_or_pos E with hE0 | hE0
              · subst hE0
                simp only [Nat.zero_mul,Nat.mul_zero,Nat.add_zero,if_true,Nat.mul_one] at hzv
                omega
              exact hE0
            rw [IntWalk.u64_in _ (by unfold BB at f1; omega)]; omega
          simp only [vx,T,K5,J0,K6,K7,↓reduceIte,J1,J2,J3,J4,J5,J6,J7,J8,J9,reduceCtorEq,K1,K2,K3,K4]
          simp (disch := omega) only [lG,← X2,← Int.natCast_mul,Int.toNat_natCast,IntWalk.i64_in,IntWalk.u64_in,wrapBB,fdivBB,true_and,and_true,x3,p1,p2,m1]
          refine ⟨⟨by omega, by omega, by omega⟩, Cm 1 rfl trivial (irestore_spec zs i V hzi (by omega) (by omega)) ?_⟩
          rintro r B' ⟨rfl, zs2, k, rfl, hl2, hi2, hu2, hv2⟩ _
          simp only [if_true,Nat.mul_one] at hzv
          obtain ⟨k1, k2⟩ := hAt.sub_yes f3 f2 hzd (drop_val hi2 (by rw [hu2, hzu, val_drop hy.uin, Nat.div_eq_of_lt hus0])) hzv hv2
          have k3 : E - 1 = val us / BB ^ i / V := by rw [k1]; rfl
          have k4 : IntKind.u32.wrap ((E - 1 : Nat) : Int) = ((val us / BB ^ i / V : Nat) : Int) := by
            rw [k3]
            have := hy.q
            generalize val us / BB ^ i / V = q at this ⊢
            exact IntWalk.u32_in _ (by unfold BB at this; omega)
          simp only [vx,T,K5,J0,K6,K7,↓reduceIte,J1,J2,J3,J4,J5,J6,J7,J8,J9,reduceCtorEq,K1,K2,K3,K4]
          simp (disch := omega) only [lG,← X2,← Int.natCast_mul,Int.toNat_natCast,IntWalk.i64_in,IntWalk.u64_in,wrapBB,fdivBB,true_and,and_true,k4]
          refine ⟨by omega, Lq ⟨(i, zs2, _), hy.step (by rw [hl2, hzl]) hi2 k2, by simp only [List.length_set]; exact hql⟩ ?_ ?_⟩
          · refine Sa ?_; simp only [rx,Y0,Y1,Y2,Y3,Y4,Y5,Y6,Y7,ren,↓reduceIte,J1,J2,J3,J4,J5,J6,J7,J8,J9,reduceCtorEq,K1,K2,K3,K4,Y8,Y9,X2,X3,X4]
          simp only; omega
        subst ht
        simp only [Bool.false_eq_true,if_false,Nat.mul_zero,Nat.add_zero] at hzv
        obtain ⟨k1, k2⟩ := hAt.sub_no f2 hzv
        have k4 : IntKind.u32.wrap (E : Int) = ((val us / BB ^ i / V : Nat) : Int) := by
          rw [← k1]
          exact IntWalk.u32_in _ (by unfold BB at f1; omega)
        simp only [vx,T,K5,J0,K6,K7,↓reduceIte,J1,J2,J3,J4,J5,J6,J7,J8,J9,reduceCtorEq,K1,K2,K3,K4]
        simp (disch := omega) only [lG,← X2,← Int.natCast_mul,Int.toNat_natCast,IntWalk.i64_in,IntWalk.u64_in,wrapBB,fdivBB,true_and,and_true,k4]
        refine ⟨by omega, Lq ⟨(i, zs, _), hy.step hzl hzi k2, by simp only [List.length_set]; exact hql⟩ ?_ ?_⟩
        · refine Sa ?_; simp only [rx,Y0,Y1,Y2,Y3,Y4,Y5,Y6,Y7,ren,↓reduceIte,J1,J2,J3,J4,J5,J6,J7,J8,J9,reduceCtorEq,K1,K2,K3,K4,Y8,Y9,X2,X3,X4]
        simp only; omega
      simp only [vx,T,K5,J0,K6,K7,↓reduceIte,J1,J2,J3,J4,J5,J6,J7,J8,J9,reduceCtorEq,K1,K2,K3,K4]
      refine Lq ⟨(D - 1, rest + hi), ⟨by rw [← htp, ← hhi]; exact n2, n3, by simp only; unfold BB; omega, by simp only; omega⟩⟩ ?_ ?_
      · refine Sa ?_; simp only [rx,Y0,Y1,Y2,Y3,Y4,Y5,Y6,Y7,ren,↓reduceIte,J1,J2,J3,J4,J5,J6,J7,J8,J9,reduceCtorEq,K1,K2,K3,K4,Y8,Y9,X2,X3,X4]
      simp only; omega
    have c2 : D < BB := by unfold BB; omega
    simp only [vx,T,K5,J0,K6,K7,↓reduceIte,J1,J2,J3,J4,J5,J6,J7,J8,J9,reduceCtorEq,K1,K2,K3,K4]
    have z1 : IntKind.u64.wrap ((D * nx : Nat) : Int) = ((D * nx : Nat) : Int) := by
      have : D * nx ≤ 4294967295 * 4294967295 := Nat.mul_le_mul (by unfold BB at c2; omega) (by unfold BB at wN; omega)
      exact IntWalk.u64_in _ (by omega)
    have z2 : IntKind.u64.wrap ((rest : Int) * 4294967296) = (rest : Int) * 4294967296 := IntWalk.u64_in _ (by unfold BB at hDr; omega)
    have z3 := or_low64 hDr hqb
    have z4 : IntKind.u64.wrap ((q3 (nl V) i (val us) % BB : Nat) : Int) = ((q3 (nl V) i (val us) % BB : Nat) : Int) := by
      generalize q3 (nl V) i (val us) % BB = q at hqb ⊢
      exact IntWalk.u64_in _ (by omega)
    simp (disch := omega) only [lG,← X2,← Int.natCast_mul,Int.toNat_natCast,IntWalk.i64_in,IntWalk.u64_in,wrapBB,fdivBB,true_and,and_true,x1,x2,x3,g0,z1,z2,z4,z3]
    refine ⟨⟨by omega, by omega⟩, ?_⟩
    refine ⟨fun c3 => Lg ?_, fun c3 => Lg ?_⟩
    · obtain ⟨n1, n2, n3⟩ := hD.next hAt (.inr (by rw [← hnx]; omega))
      rw [← htp, ← hhi] at n2
      simp only [vx,T,K5,J0,K6,K7,↓reduceIte,J1,J2,J3,J4,J5,J6,J7,J8,J9,reduceCtorEq,K1,K2,K3,K4]
      have m1 : IntKind.u64.wrap ((D : Int) - 1) = ((D - 1 : Nat) : Int) := by rw [IntWalk.u64_in _ (by unfold BB at hDl; omega)]; omega
      have m2 : IntKind.u64.wrap ((rest + hi : Nat) : Int) = ((rest + hi : Nat) : Int) := IntWalk.u64_in _ (by unfold BB at hDr w4; omega)
      simp (disch := omega) only [lG,← X2,← Int.natCast_mul,Int.toNat_natCast,IntWalk.i64_in,IntWalk.u64_in,wrapBB,fdivBB,true_and,and_true,m1,m2]
      refine ⟨fun c4 => Lg ?_, fun c4 => Lg ?_⟩
      · obtain ⟨f1, f2, f3⟩ := Dg.fin (D := D - 1) (rest := rest + hi) hAt (by rw [← htp, ← hhi]; exact n2) n3 (.inr (by unfold BB; omega))
        generalize D - 1 = E at f1 f2 f3 ⊢
        simp only [vx,T,K5,J0,K6,K7,↓reduceIte,J1,J2,J3,J4,J5,J6,J7,J8,J9,reduceCtorEq,K1,K2,K3,K4]
        have p1 : IntKind.i64.wrap (((i + nl V : Nat) : Int) + 1) = ((i + nl V + 1 : Nat) : Int) := by rw [IntWalk.i64_in _ (by omega)]; omega
        have p2 : (((i + nl V + 1 : Nat) : Int) - (i : Int)).toNat = nl V + 1 := by omega
        simp (disch := omega) only [lG,← X2,← Int.natCast_mul,Int.toNat_natCast,IntWalk.i64_in,IntWalk.u64_in,wrapBB,fdivBB,true_and,and_true,x3,p1,p2]
        refine ⟨⟨by omega, by omega, by omega⟩, Cm 1 rfl trivial (isubtract_spec us i V E hy.uin (by omega) (by omega) f1) ?_⟩
        rintro r B' ⟨t, zs, rfl, rfl, hzl, hzi, hzu, hzv⟩ _
        have hzd : val zs < BB ^ (i + nl V + 1) := drop_val hzi (by rw [hzu, val_drop hy.uin, Nat.div_eq_of_lt hus0])
        simp only [vx,T,K5,J0,K6,K7,↓reduceIte,J1,J2,J3,J4,J5,J6,J7,J8,J9,reduceCtorEq,K1,K2,K3,K4]
        refine ⟨fun ht => Lg ?_, fun ht => Lg ?_⟩
        · subst ht
          have m1 : IntKind.u64.wrap ((E : Int) - 1) = ((E - 1 : Nat) : Int) := by
            have : 0 < E := by
              rcases Nat.eq_zero_or_pos E with hE0 | hE0
              · subst hE0
                simp only [Nat.zero_mul,Nat.mul_zero,Nat.add_zero,if_true,Nat.mul_one] at hzv
                omega
              exact hE0
            rw [IntWalk.u64_in _ (by unfold BB at f1; omega)]; omega
          simp only [vx,T,K5,J0,K6,K7,↓reduceIte,J1,J2,J3,J4,J5,J6,J7,J8,J9,reduceCtorEq,K1,K2,K3,K4]
          simp (disch := omega) only [lG,← X2,← Int.natCast_mul,Int.toNat_natCast,IntWalk.i64_in,IntWalk.u64_in,wrapBB,fdivBB,true_and,and_true,x3,p1,p2,m1]
          refine ⟨⟨by omega, by omega, by omega⟩, Cm 1 rfl trivial (irestore_spec zs i V hzi (by omega) (by omega)) ?_⟩
          rintro r B' ⟨rfl, zs2, k, rfl, hl2, hi2, hu2, hv2⟩ _
          simp only [if_true,Nat.mul_one] at hzv
          obtain ⟨k1, k2⟩ := hAt.sub_yes f3 f2 hzd (drop_val hi2 (by rw [hu2, hzu, val_drop hy.uin, Nat.div_eq_of_lt hus0])) hzv hv2
          have k3 : E - 1 = val us / BB ^ i / V := by rw [k1]; rfl
          have k4 : IntKind.u32.wrap ((E - 1 : Nat) : Int) = ((val us / BB ^ i / V : Nat) : Int) := by
            rw [k3]
            have := hy.q
            generalize val us / BB ^ i / V = q at this ⊢
            exact IntWalk.u32_in _ (by unfold BB at this; omega)
          simp only [vx,T,K5,J0,K6,K7,↓reduceIte,J1,J2,J3,J4,J5,J6,J7,J8,J9,reduceCtorEq,K1,K2,K3,K4]
          simp (disch := omega) only [lG,← X2,← Int.natCast_mul,Int.toNat_natCast,IntWalk.i64_in,IntWalk.u64_in,wrapBB,fdivBB,true_and,and_true,k4]
          refine ⟨by omega, Lq ⟨(i, zs2, _), hy.step (by rw [hl2, hzl]) hi2 k2, by simp only [List.length_set]; exact hql⟩ ?_ ?_⟩
          · refine Sa ?_; simp only [rx,Y0,Y1,Y2,Y3,Y4,Y5,Y6,Y7,ren,↓reduceIte,J1,J2,J3,J4,J5,J6,J7,J8,J9,reduceCtorEq,K1,K2,K3,K4,Y8,Y9,X2,X3,X4]
          simp only; omega
        subst ht
        simp only [Bool.false_eq_true,if_false,Nat.mul_zero,Nat.add_zero] at hzv
        obtain ⟨k1, k2⟩ := hAt.sub_no f2 hzv
        have k4 : IntKind.u32.wrap (E : Int) = ((val us / BB ^ i / V : Nat) : Int) := by
          rw [← k1]
          exact IntWalk.u32_in _ (by unfold BB at f1; omega)
        simp only [vx,T,K5,J0,K6,K7,↓reduceIte,J1,J2,J3,J4,J5,J6,J7,J8,J9,reduceCtorEq,K1,K2,K3,K4]
        simp (disch := omega) only [lG,← X2,← Int.natCast_mul,Int.toNat_natCast,IntWalk.i64_in,IntWalk.u64_in,wrapBB,fdivBB,true_and,and_true,k4]
        refine ⟨by omega, Lq ⟨(i, zs, _), hy.step hzl hzi k2, by simp only [List.length_set]; exact hql⟩ ?_ ?_⟩
        · refine Sa ?_; simp only [rx,Y0,Y1,Y2,Y3,Y4,Y5,Y6,Y7,ren,↓reduceIte,J1,J2,J3,J4,J5,J6,J7,J8,J9,reduceCtorEq,K1,K2,K3,K4,Y8,Y9,X2,X3,X4]
        simp only; omega
      simp only [vx,T,K5,J0,K6,K7,↓reduceIte,J1,J2,J3,J4,J5,J6,J7,J8,J9,reduceCtorEq,K1,K2,K3,K4]
      refine Lq ⟨(D - 1, rest + hi), ⟨by rw [← htp, ← hhi]; exact n2, n3, by simp only; unfold BB; omega, by simp only; omega⟩⟩ ?_ ?_
      · refine Sa ?_; simp only [rx,Y0,Y1,Y2,Y3,Y4,Y5,Y6,Y7,ren,↓reduceIte,J1,J2,J3,J4,J5,J6,J7,J8,J9,reduceCtorEq,K1,K2,K3,K4,Y8,Y9,X2,X3,X4]
      simp only; omega
    obtain ⟨f1, f2, f3⟩ := Dg.fin hAt hD.top hD.ge (.inl ⟨c2, by rw [← hnx]; omega⟩)
    obtain ⟨E, hE⟩ : ∃ E, E = D := ⟨D, rfl⟩
    rw [← hE] at f1 f2 f3 ⊢
    simp only [vx,T,K5,J0,K6,K7,↓reduceIte,J1,J2,J3,J4,J5,J6,J7,J8,J9,reduceCtorEq,K1,K2,K3,K4]
    have p1 : IntKind.i64.wrap (((i + nl V : Nat) : Int) + 1) = ((i + nl V + 1 : Nat) : Int) := by rw [IntWalk.i64_in _ (by omega)]; omega
    have p2 : (((i + nl V + 1 : Nat) : Int) - (i : Int)).toNat = nl V + 1 := by omega
    simp (disch := omega) only [lG,← X2,← Int.natCast_mul,Int.toNat_natCast,IntWalk.i64_in,IntWalk.u64_in,wrapBB,fdivBB,true_and,and_true,x3,p1,p2]
    refine ⟨⟨by omega, by omega, by omega⟩, Cm 1 rfl trivial (isubtract_spec us i V E hy.uin (by omega) (by omega) f1) ?_⟩
    rintro r B' ⟨t, zs, rfl, rfl, hzl, hzi, hzu, hzv⟩ _
    have hzd : val zs < BB ^ (i + nl V + 1) := drop_val hzi (by rw [hzu, val_drop hy.uin, Nat.div_eq_of_lt hus0])
    simp only [vx,T,K5,J0,K6,K7,↓reduceIte,J1,J2,J3,J4,J5,J6,J7,J8,J9,reduceCtorEq,K1,K2,K3,K4]
    refine ⟨fun ht => Lg ?_, fun ht => Lg ?_⟩
    · subst ht
      have m1 : IntKind.u64.wrap ((E : Int) - 1) = ((E - 1 : Nat) : Int) := by
        have : 0 < E := by
          rcases Nat.eq_zero_or_pos E with hE0 | hE0
          · subst hE0
            simp only [Nat.zero_mul,Nat.mul_zero,Nat.add_zero,if_true,Nat.mul_one] at hzv
            omega
          exact hE0
        rw [IntWalk.u64_in _ (by unfold BB at f1; omega)]; omega
      simp only [vx,T,K5,J0,K6,K7,↓reduceIte,J1,J2,J3,J4,J5,J6,J7,J8,J9,reduceCtorEq,K1,K2,K3,K4]
      simp (disch := omega) only [lG,← X2,← Int.natCast_mul,Int.toNat_natCast,IntWalk.i64_in,IntWalk.u64_in,wrapBB,fdivBB,true_and,and_true,x3,p1,p2,m1]
      refine ⟨⟨by omega, by omega, by omega⟩, Cm 1 rfl trivial (irestore_spec zs i V hzi (by omega) (by omega)) ?_⟩
      rintro r B' ⟨rfl, zs2, k, rfl, hl2, hi2, hu2, hv2⟩ _
      simp only [if_true,Nat.mul_one] at hzv
      obtain ⟨k1, k2⟩ := hAt.sub_yes f3 f2 hzd (drop_val hi2 (by rw [hu2, hzu, val_drop hy.uin, Nat.div_eq_of_lt hus0])) hzv hv2
      have k3 : E - 1 = val us / BB ^ i / V := by rw [k1]; rfl
      have k4 : IntKind.u32.wrap ((E - 1 : Nat) : Int) = ((val us / BB ^ i / V : Nat) : Int) := by
        rw [k3]
        have := hy.q
        generalize val us / BB ^ i / V = q at this ⊢
        exact IntWalk.u32_in _ (by unfold BB at this; omega)
      simp only [vx,T,K5,J0,K6,K7,↓reduceIte,J1,J2,J3,J4,J5,J6,J7,J8,J9,reduceCtorEq,K1,K2,K3,K4]
      simp (disch := omega) only [lG,← X2,← Int.natCast_mul,Int.toNat_natCast,IntWalk.i64_in,IntWalk.u64_in,wrapBB,fdivBB,true_and,and_true,k4]
      refine ⟨by omega, Lq ⟨(i, zs2, _), hy.step (by rw [hl2, hzl]) hi2 k2, by simp only [List.length_set]; exact hql⟩ ?_ ?_⟩
      · refine Sa ?_; simp only [rx,Y0,Y1,Y2,Y3,Y4,Y5,Y6,Y7,ren,↓reduceIte,J1,J2,J3,J4,J5,J6,J7,J8,J9,reduceCtorEq,K1,K2,K3,K4,Y8,Y9,X2,X3,X4]
      simp only; omega
    subst ht
    simp only [Bool.false_eq_true,if_false,Nat.mul_zero,Nat.add_zero] at hzv
    obtain ⟨k1, k2⟩ := hAt.sub_no f2 hzv
    have k4 : IntKind.u32.wrap (E : Int) = ((val us / BB ^ i / V : Nat) : Int) := by
      rw [← k1]
      exact IntWalk.u32_in _ (by unfold BB at f1; omega)
    simp only [vx,T,K5,J0,K6,K7,↓reduceIte,J1,J2,J3,J4,J5,J6,J7,J8,J9,reduceCtorEq,K1,K2,K3,K4]
    simp (disch := omega) only [lG,← X2,← Int.natCast_mul,Int.toNat_natCast,IntWalk.i64_in,IntWalk.u64_in,wrapBB,fdivBB,true_and,and_true,k4]
    refine ⟨by omega, Lq ⟨(i, zs, _), hy.step hzl hzi k2, by simp only [List.length_set]; exact hql⟩ ?_ ?_⟩
    · refine Sa ?_; simp only [rx,Y0,Y1,Y2,Y3,Y4,Y5,Y6,Y7,ren,↓reduceIte,J1,J2,J3,J4,J5,J6,J7,J8,J9,reduceCtorEq,K1,K2,K3,K4,Y8,Y9,X2,X3,X4]
    simp only; omega
  have hj0 : j = 0 := by omega
  subst hj0
  rw [hA, hV] at hy
  obtain ⟨r1, r2, r3⟩ := hy.done h0
  rw [← hV] at r3
  have hul := hy.ulen
  have hqi := hy.qin
  have hui := hy.uin
  have hjl := hy.le
  simp only [← hV] at hjl
  clear hy
  simp only [vx,T,K5,J0,K6,K7,↓reduceIte,J1,J2,J3,J4,J5,J6,J7,J8,J9,reduceCtorEq,K1,K2,K3,K4]
  rw [List.take_of_length_le (by omega)]
  refine Cg (itrim_spec qs hqi (by omega)) ?_
  rw [r1]
  simp only [vx,T,K5,J0,K6,K7,↓reduceIte,J1,J2,J3,J4,J5,J6,J7,J8,J9,reduceCtorEq,K1,K2,K3,K4]
  have r4 : val (us.take (nl V)) = val us := by rw [val_take hui, Nat.mod_eq_of_lt r3]
  have r5 : nl (val us) < 2 ^ 40 := Nat.lt_of_le_of_lt (nl_le_of_lt r3) (by omega)
  refine ⟨by omega, Cg (itrim_spec _ (hui.take _) (by rw [X5]; omega)) ?_⟩
  rw [r4]
  simp only [vx,T,K5,J0,K6,K7,↓reduceIte,J1,J2,J3,J4,J5,J6,J7,J8,J9,reduceCtorEq,K1,K2,K3,K4]
  refine Cg (ishiftRight_spec (val us) (shf b) r5 s1).ints ?_
  simp only [vx,T,K5,J0,K6,K7,↓reduceIte,J1,J2,J3,J4,J5,J6,J7,J8,J9,reduceCtorEq,K1,K2,K3,K4]
  have r6 : val (dig (nl (val us)) (val us / 2 ^ shf b)) = a % b := by
    rw [val_dig_lt (Nat.lt_of_le_of_lt (Nat.div_le_self _ _) (lt_of_nl _)), r2, Nat.mul_div_cancel _ (Nat.pow_pos (by decide))]
  refine Cg (itrim_spec _ (dig_inr _ _) (by rw [dig_length]; omega)) ?_
  rw [r6]
  simp only [vx,T,K5,J0,K6,K7,↓reduceIte,J1,J2,J3,J4,J5,J6,J7,J8,J9,reduceCtorEq,K1,K2,K3,K4]
  refine Va ?_; simp only [vLe,vLeL,rx,Y0,Y1,Y2,Y3,Y4,Y5,Y6,Y7,ren,↓reduceIte,J1,J2,J3,J4,J5,J6,J7,J8,J9,reduceCtorEq,K1,K2,K3,K4]
open Go Go.Eng
theorem dig_get {b lb : Nat} (h : b < BB ^ lb) (i : Nat) : (dig lb b).getD i 0 = ((b / BB ^ i % BB : Nat) : Int) := by
  rw [getD_val (dig_inr _ _), val_dig, Nat.mod_eq_of_lt h]
theorem take_dig (lb b : Nat) : (dig lb b).take lb = dig lb b := List.take_of_length_le (by rw [dig_length]; exact Nat.le_refl _)
structure MulOutD (a b lb i : Nat) (os : List Int) : Prop where
  le : i ≤ nl a
  len : os.length = nl a + lb
  inr : InR os
  zero : ∀ j, i + lb ≤ j → os.getD j 0 = 0
  eq : val os = (a % BB ^ i) * b
structure MulInD (a b lb i k : Nat) (os : List Int) (c : Nat) : Prop where
  le : k ≤ lb
  len : os.length = nl a + lb
  inr : InR os
  zero : ∀ j, i + lb ≤ j → os.getD j 0 = 0
  eq : val os + BB ^ (i + k) * c = (a % BB ^ i) * b + BB ^ i * ((a / BB ^ i % BB) * (b % BB ^ k))
  c : c < BB
theorem MulOutD.init (a b lb : Nat) : MulOutD a b lb 0 (List.replicate (nl a + lb) 0) :=
  ⟨Nat.zero_le _, by simp, InR.replicate _, fun j _ => by simp [X7, List.getElem?_replicate]; split <;> rfl, by rw [val_replicate]; simp [Nat.mod_one]⟩
theorem MulOutD.start {a b lb i : Nat} {os : List Int} (h : MulOutD a b lb i os) : MulInD a b lb i 0 os 0 :=
  ⟨Nat.zero_le _, h.len, h.inr, h.zero, by rw [h.eq]; simp [Nat.mod_one], by decide⟩
theorem MulInD.put {a b lb i k : Nat} {os : List Int} {c o s : Nat} (h : MulInD a b lb i k os c) (hi : i < nl a) (hk : k < lb) (ho : os.getD (i + k) 0 = (o : Int)) (hs : s = (a / BB ^ i % BB) * (b / BB ^ k % BB) + o + c) :
    MulInD a b lb i (k + 1) (os.set (i + k) ((s % BB : Nat) : Int)) (s / BB) := by
  have hl : i + k < os.length := by rw [h.len]; omega
  have hx := modBB (a / BB ^ i)
  have hy := modBB (b / BB ^ k)
  have ho2 : o < BB := by have := h.inr.getD (i + k); rw [ho] at this; unfold BB; omega
  refine ⟨hk, by rw [List.length_set]; exact h.len, h.inr.set _ ⟨by omega, by have := modBB s; omega⟩, fun j hj => ?_, ?_, ?_⟩
  · rw [getD_set_ne (by omega)]; exact h.zero j hj
  · have e := val_set (xs := os) (x := ((s % BB : Nat) : Int)) hl
    rw [ho] at e
    simp only [Int.toNat_natCast] at e
    have h1 := h.eq
    have e2 : BB ^ (i + (k + 1)) * (s / BB) + BB ^ (i + k) * (s % BB) = BB ^ (i + k) * s := by
      rw [← Nat.add_assoc, Nat.pow_succ, Nat.mul_assoc, ← Nat.mul_add, Nat.div_add_mod]
    have e3 : BB ^ (i + k) * s = BB ^ i * ((a / BB ^ i % BB) * (BB ^ k * (b / BB ^ k % BB))) + BB ^ (i + k) * o + BB ^ (i + k) * c := by
      rw [hs, Nat.mul_add, Nat.mul_add, Nat.pow_add]
      congr 2
      simp only [Nat.mul_comm,Nat.mul_left_comm]
    rw [mod_next b k, Nat.mul_add, Nat.mul_add]
    omega
  have hp : (a / BB ^ i % BB) * (b / BB ^ k % BB) ≤ 4294967295 * 4294967295 := Nat.mul_le_mul (by omega) (by omega)
  have h3 := h.c
  rw [Nat.div_lt_iff_lt_mul (by decide)]
  unfold BB at *
  omega
theorem MulInD.next {a b lb i : Nat} {os : List Int} {c : Nat} (hb' : b < BB ^ lb) (h : MulInD a b lb i (lb) os c) (hi : i < nl a) : MulOutD a b lb (i + 1) (os.set (i + lb) ((c % BB : Nat) : Int)) := by
  have hl : i + lb < os.length := by rw [h.len]; omega
  have hc : c % BB = c := Nat.mod_eq_of_lt h.c
  refine ⟨hi, by rw [List.length_set]; exact h.len, h.inr.set _ ⟨by omega, by have := modBB c; omega⟩, fun j hj => ?_, ?_⟩
  · rw [getD_set_ne (by omega)]; exact h.zero j (by omega)
  have e := val_set (xs := os) (x := ((c % BB : Nat) : Int)) hl
  rw [h.zero _ (Nat.le_refl _), hc] at e
  simp only [Int.toNat_natCast,Int.toNat_zero,Nat.mul_zero,Nat.add_zero] at e
  rw [hc, e, h.eq, Nat.mod_eq_of_lt hb', mod_next a, Nat.add_mul, Nat.mul_assoc]
theorem MulOutD.done {a b lb : Nat} {os : List Int} (h : MulOutD a b lb (nl a) os) : val os = a * b := by
  rw [h.eq, mod_all (Nat.le_refl _)]
theorem rtimesD_spec (a b lb : Nat) (ha : nl a < 2 ^ 40) (hb : lb < 2 ^ 40) (hb' : b < BB ^ lb) : Pr Tryz.prog 62 [.one (.ints .u32 (limbs a)), .one (.ints .u32 (dig lb b))] (.one (.ints .u32 (limbs (a * b)))) := by
  refine pv T_ok mixed Tryz.func62 rfl (by decide) _ (by simp [Tryz.ntmps62]) ⟨[0, 1, 4, 5, 6, 7, 8, 18, 24], []⟩ (by kernel_rfl) _ ?_
  show vc T _ _ (Option.get! Tryz.f62.body) _ _
  simp only [Tryz.f62,Tryz.ntmps62,Option.get!,iS,iM,eO,J1]
  simp only [vx,T,K5,J0,K6,K7,↓reduceIte,J1,J2,J3,J4,J5,J6,J7,J8,J9,reduceCtorEq,K1,K2,K3,K4,dig_length,take_dig]
  simp (disch := omega) only [lG,← X2,← Int.natCast_mul,Int.toNat_natCast,IntWalk.i64_in,IntWalk.u64_in,wrapBB,fdivBB,true_and,and_true,dig_get hb']
  refine ⟨⟨by omega, by omega, by omega, by omega⟩, Lk (fun i : {i : Nat × List Int // MulOutD a b lb i.1 i.2} => ⟨[(0, .one (.ints .u32 (limbs a))), (1, .one (.ints .u32 (dig lb b))), (5, .one (.own 1 1 0 (nl a + lb))), (6, .one (.int .i64 i.1.1))], [(1, ⟨.ints 92 .u32 i.1.2, true⟩)], 3, 67⟩) (fun i => nl a - i.1.1) ⟨(0, List.replicate (nl a + lb) 0), MulOutD.init a b lb⟩ ?_ (fun ⟨⟨i, os⟩, hi⟩ => ?_)⟩
  · refine Sa ?_; simp only [rx,Y0,Y1,Y2,Y3,Y4,Y5,Y6,Y7,ren,↓reduceIte,J1,J2,J3,J4,J5,J6,J7,J8,J9,reduceCtorEq,K1,K2,K3,K4,Y8,Y9,X2,X3,X4,take_dig]
  have h1 := hi.le
  have h2 := hi.len
  simp only at h1 h2
  simp only [vx,T,K5,J0,K6,K7,↓reduceIte,J1,J2,J3,J4,J5,J6,J7,J8,J9,reduceCtorEq,K1,K2,K3,K4,dig_length,take_dig]
  refine ⟨fun h => Lg ?_, fun h => Lg ?_⟩
  · simp only [vx,T,K5,J0,K6,K7,↓reduceIte,J1,J2,J3,J4,J5,J6,J7,J8,J9,reduceCtorEq,K1,K2,K3,K4,dig_length,take_dig]
    have hx := modBB (a / BB ^ i)
    refine Lk (fun k : {k : Nat × List Int × Nat // MulInD a b lb i k.1 k.2.1 k.2.2} => ⟨[(0, .one (.ints .u32 (limbs a))), (1, .one (.ints .u32 (dig lb b))), (5, .one (.own 1 1 0 (nl a + lb))), (6, .one (.int .i64 i)), (7, .one (.int .u64 k.1.2.2)), (8, .one (.int .i64 k.1.1))], [(1, ⟨.ints 92 .u32 k.1.2.1, true⟩)], 3, 67⟩) (fun k => lb - k.1.1) ⟨(0, os, 0), hi.start⟩ ?_ (fun ⟨⟨k, os', c⟩, hk⟩ => ?_)
    · refine Sa ?_; simp only [rx,Y0,Y1,Y2,Y3,Y4,Y5,Y6,Y7,ren,↓reduceIte,J1,J2,J3,J4,J5,J6,J7,J8,J9,reduceCtorEq,K1,K2,K3,K4,Y8,Y9,X2,X3,X4,lG,take_dig]
    have h3 := hk.le
    have h4 := hk.len
    have h5 := hk.c
    have h5 : c < 4294967296 := h5
    have hz := hk.inr.getD (i + k)
    simp only at h3 h4 hz
    obtain ⟨o, ho⟩ := Int.eq_ofNat_of_zero_le hz.1
    rw [ho] at hz
    simp only [vx,T,K5,J0,K6,K7,↓reduceIte,J1,J2,J3,J4,J5,J6,J7,J8,J9,reduceCtorEq,K1,K2,K3,K4,dig_length,take_dig]
    refine ⟨fun h' => Lg ?_, fun h' => Lg ?_⟩
    · simp only [vx,T,K5,J0,K6,K7,↓reduceIte,J1,J2,J3,J4,J5,J6,J7,J8,J9,reduceCtorEq,K1,K2,K3,K4,dig_length,take_dig]
      have hy := modBB (b / BB ^ k)
      have hp : (a / BB ^ i % BB) * (b / BB ^ k % BB) ≤ 4294967295 * 4294967295 := Nat.mul_le_mul (by omega) (by omega)
      simp (disch := omega) only [lG,← X2,← Int.natCast_mul,Int.toNat_natCast,IntWalk.i64_in,IntWalk.u64_in,wrapBB,fdivBB,true_and,and_true,ho,dig_get hb']
      refine ⟨by omega, by omega, by omega, by omega, Lq ⟨(k + 1, _, _), hk.put (s := c + o + (a / BB ^ i % BB) * (b / BB ^ k % BB)) (by omega) (by omega) ho (by simp only; omega)⟩ ?_ ?_⟩
      · refine Sa ?_; simp only [rx,Y0,Y1,Y2,Y3,Y4,Y5,Y6,Y7,ren,↓reduceIte,J1,J2,J3,J4,J5,J6,J7,J8,J9,reduceCtorEq,K1,K2,K3,K4,Y8,Y9,X2,X3,X4,take_dig]
      simp only; omega
    simp only [vx,T,K5,J0,K6,K7,↓reduceIte,J1,J2,J3,J4,J5,J6,J7,J8,J9,reduceCtorEq,K1,K2,K3,K4,dig_length,take_dig]
    have hkb : k = lb := by omega
    subst hkb
    simp (disch := omega) only [lG,← X2,← Int.natCast_mul,Int.toNat_natCast,IntWalk.i64_in,IntWalk.u64_in,wrapBB,fdivBB,true_and,and_true,dig_get hb']
    refine ⟨by omega, Lq ⟨(i + 1, _), MulInD.next hb' hk (by omega)⟩ ?_ ?_⟩
    · refine Sa ?_; simp only [rx,Y0,Y1,Y2,Y3,Y4,Y5,Y6,Y7,ren,↓reduceIte,J1,J2,J3,J4,J5,J6,J7,J8,J9,reduceCtorEq,K1,K2,K3,K4,Y8,Y9,X2,X3,X4,take_dig]
    simp only; omega
  simp only [vx,T,K5,J0,K6,K7,↓reduceIte,J1,J2,J3,J4,J5,J6,J7,J8,J9,reduceCtorEq,K1,K2,K3,K4,dig_length,take_dig]
  have hia : i = nl a := by omega
  subst hia
  have hr := hi.inr
  have hv := hi.done
  simp only at hr hv
  rw [List.take_of_length_le (by omega)]
  refine Cg (rtrim_spec _ hr (by omega)) ?_
  rw [hv]
  simp only [vx,T,K5,J0,K6,K7,↓reduceIte,J1,J2,J3,J4,J5,J6,J7,J8,J9,reduceCtorEq,K1,K2,K3,K4,dig_length,take_dig]
  refine Va ?_; simp only [vLe,vLeL,rx,Y0,Y1,Y2,Y3,Y4,Y5,Y6,Y7,ren,↓reduceIte,J1,J2,J3,J4,J5,J6,J7,J8,J9,reduceCtorEq,K1,K2,K3,K4]
open Go Go.Eng
theorem view_inr {xs : List Int} (h : InR xs) (off l : Nat) : InR ((xs.drop off).take l) := (h.drop off).take l
theorem view_get {xs : List Int} {off l i : Nat} (h : i < l) : ((xs.drop off).take l).getD i 0 = xs.getD (off + i) 0 := by
  rw [X7, X7, List.getElem?_take, if_pos h, List.getElem?_drop]
theorem view_len {xs : List Int} {off l : Nat} (h : off + l ≤ xs.length) : ((xs.drop off).take l).length = l := by
  rw [X5, List.length_drop]; omega
theorem view_take {xs : List Int} {off l k : Nat} (h : k ≤ l) : ((xs.drop off).take l).take k = (xs.drop off).take k := by
  rw [List.take_take, Nat.min_eq_left h]
theorem view_limbs {xs : List Int} {off l : Nat} (hx : InR xs) (h : off + l ≤ xs.length) : nl (val ((xs.drop off).take l)) ≤ l ∧ (xs.drop off).take (nl (val ((xs.drop off).take l))) = limbs (val ((xs.drop off).take l)) := by
  have hr := view_inr hx off l
  have hl := view_len h
  have h1 : nl (val ((xs.drop off).take l)) ≤ l := by
    refine nl_le_of_lt ?_
    have := val_lt hr
    rw [hl] at this; exact this
  refine ⟨h1, ?_⟩
  have h2 := val_take hr (nl (val ((xs.drop off).take l)))
  rw [view_take h1, Nat.mod_eq_of_lt (lt_of_nl _)] at h2
  have h3 := dig_of (view_inr hx off (nl (val ((xs.drop off).take l)))) (view_len (by omega)) h2
  rw [dig_full] at h3
  exact h3
theorem rtrimM_spec (xs : List Int) (off len : Nat) (hx : InR xs) (hl : off + len ≤ xs.length) (hlen : xs.length < 2 ^ 41) : Mc Tryz.prog 60 [.one (.own 0 1 off len)] (.ints 92 .u32 xs) (fun r B' => r = .one (.own 0 1 off (nl (val ((xs.drop off).take len)))) ∧ B' = .ints 92 .u32 xs) := by
  refine mut_of_vc T_ok mixed Tryz.func60 rfl (by decide) _ (by simp [Tryz.ntmps60]) ⟨[0, 2, 14], []⟩ (by kernel_rfl) (.ints 92 .u32 xs) trivial _ ?_
  show vc T _ _ (Option.get! Tryz.f60.body) _ _
  simp only [Tryz.f60,Tryz.ntmps60,Option.get!,iS,iM,eO,J1]
  simp only [vx,T,K5,J0,K6,K7,↓reduceIte,J1,J2,J3,J4,J5,J6,J7,J8,J9,reduceCtorEq,K1,K2,K3,K4]
  refine Lk (fun l : {l : Nat // l ≤ len ∧ val ((xs.drop off).take l) = val ((xs.drop off).take len)} => ⟨[(0, .one (.own 0 1 off l.1))], [(0, ⟨.ints 92 .u32 xs, true⟩)], 3, 21⟩) (fun l => l.1) ⟨len, Nat.le_refl _, rfl⟩ ?_ (fun ⟨l, hl1, hl2⟩ => ?_)
  · refine Sa ?_; simp only [rx,Y0,Y1,Y2,Y3,Y4,Y5,Y6,Y7,ren,↓reduceIte,J1,J2,J3,J4,J5,J6,J7,J8,J9,reduceCtorEq,K1,K2,K3,K4,Y8,Y9,X2,X3,X4]
  have hv := view_limbs (l := len) hx hl
  have hfin : (l = 0 ∨ xs.getD (off + (l - 1)) 0 ≠ 0) → nl (val ((xs.drop off).take len)) = l := by
    intro hc
    rw [← hl2]
    have h1 : limbs (val ((xs.drop off).take l)) = (xs.drop off).take l := by
      refine limbs_val_last (view_inr hx off l) ?_
      rcases hc with hc | hc
      · subst hc; exact .inl (List.take_zero)
      rcases Nat.eq_zero_or_pos l with h0 | h0
      · subst h0; exact .inl (List.take_zero)
      refine .inr ?_
      rw [view_len (by omega), view_get (by omega)]; exact hc
    unfold nl
    rw [h1, view_len (by omega)]
  simp only [vx,T,K5,J0,K6,K7,↓reduceIte,J1,J2,J3,J4,J5,J6,J7,J8,J9,reduceCtorEq,K1,K2,K3,K4]
  refine ⟨fun h => Lg ?_, fun h => Lg ?_⟩
  · simp only [vx,T,K5,J0,K6,K7,↓reduceIte,J1,J2,J3,J4,J5,J6,J7,J8,J9,reduceCtorEq,K1,K2,K3,K4]
    have e1 : IntKind.i64.wrap ((l : Int) - 1) = ((l - 1 : Nat) : Int) := by rw [IntWalk.i64_in _ (by omega)]; omega
    simp (disch := omega) only [lG,← X2,← Int.natCast_mul,Int.toNat_natCast,IntWalk.i64_in,IntWalk.u64_in,wrapBB,fdivBB,true_and,and_true,e1]
    refine ⟨by omega, ?_⟩
    refine ⟨fun h0 => Lg ?_, fun h0 => Lg ?_⟩
    · simp only [vx,T,K5,J0,K6,K7,↓reduceIte,J1,J2,J3,J4,J5,J6,J7,J8,J9,reduceCtorEq,K1,K2,K3,K4]
      simp (disch := omega) only [lG,← X2,← Int.natCast_mul,Int.toNat_natCast,IntWalk.i64_in,IntWalk.u64_in,wrapBB,fdivBB,true_and,and_true,e1]
      refine ⟨by omega, Lq ⟨l - 1, by omega, ?_⟩ ?_ ?_⟩
      · have e2 := val_trim (ys := (xs.drop off).take l) (view_inr hx off l) (by rw [view_len (by omega)]; omega) (by rw [view_len (by omega), view_get (by omega)]; exact h0)
        rw [view_len (by omega), view_take (by omega)] at e2
        rw [e2, hl2]
      · refine Sa ?_; simp only [rx,Y0,Y1,Y2,Y3,Y4,Y5,Y6,Y7,ren,↓reduceIte,J1,J2,J3,J4,J5,J6,J7,J8,J9,reduceCtorEq,K1,K2,K3,K4,Y8,Y9,X2,X3,X4]
      simp only; omega
    simp only [vx,T,K5,J0,K6,K7,↓reduceIte,J1,J2,J3,J4,J5,J6,J7,J8,J9,reduceCtorEq,K1,K2,K3,K4]
    rw [hfin (.inr h0)]
  simp only [vx,T,K5,J0,K6,K7,↓reduceIte,J1,J2,J3,J4,J5,J6,J7,J8,J9,reduceCtorEq,K1,K2,K3,K4]
  rw [hfin (.inl (by omega))]
open Go Go.Eng
theorem rminusM_spec (xs : List Int) (off a b : Nat) (hx : InR xs) (hl : off + nl a ≤ xs.length) (hlen : xs.length < 2 ^ 41) (hv : (xs.drop off).take (nl a) = limbs a) (hab : b ≤ a) (ha : nl a < 2 ^ 40) :
    Mc Tryz.prog 59 [.one (.own 0 1 off (nl a)), .one (.ints .u32 (limbs b))] (.ints 92 .u32 xs) (fun r B' => r = .one (.ints .u32 (limbs (a - b))) ∧ B' = .ints 92 .u32 xs) := by
  have hba := nl_mono hab
  have hg : ∀ i, i < nl a → xs.getD (off + i) 0 = ((a / BB ^ i % BB : Nat) : Int) := fun i hi => by rw [← lG, ← hv, view_get hi]
  refine mut_of_vc T_ok mixed Tryz.func59 rfl (by decide) _ (by simp [Tryz.ntmps59]) ⟨[0, 1, 4, 5, 6, 7, 8, 9, 16, 22], []⟩ (by kernel_rfl) (.ints 92 .u32 xs) trivial _ ?_
  show vc T _ _ (Option.get! Tryz.f59.body) _ _
  simp only [Tryz.f59,Tryz.ntmps59,Option.get!,iS,iM,eO,J1]
  simp only [vx,T,K5,J0,K6,K7,↓reduceIte,J1,J2,J3,J4,J5,J6,J7,J8,J9,reduceCtorEq,K1,K2,K3,K4]
  refine ⟨⟨by omega, by omega, by omega, by omega⟩, Lk (fun i : {i : Nat × List Int × Nat // MinusInv a b i.1 i.2.1 i.2.2} => ⟨[(0, .one (.own 0 1 off (nl a))), (1, .one (.ints .u32 (limbs b))), (5, .one (.own 1 1 0 (nl a))), (6, .one (.int .u64 i.1.2.2)), (7, .one (.int .i64 i.1.1))], [(0, ⟨.ints 92 .u32 xs, true⟩), (1, ⟨.ints 92 .u32 i.1.2.1, true⟩)], 3, 48⟩) (fun i => nl a - i.1.1) ⟨(0, List.replicate (nl a) 0, 0), Nat.zero_le _, InR.nil, by simp, by simp [val, Nat.mod_one], Nat.zero_le _⟩ ?_ (fun ⟨⟨i, os, c⟩, hi⟩ => ?_)⟩
  · refine Sa ?_; simp only [rx,Y0,Y1,Y2,Y3,Y4,Y5,Y6,Y7,ren,↓reduceIte,J1,J2,J3,J4,J5,J6,J7,J8,J9,reduceCtorEq,K1,K2,K3,K4,Y8,Y9,X2,X3,X4]
  have h1 := hi.le
  have h2 := hi.len
  have h3 := hi.c
  simp only at h1 h2 h3
  simp only [vx,T,K5,J0,K6,K7,↓reduceIte,J1,J2,J3,J4,J5,J6,J7,J8,J9,reduceCtorEq,K1,K2,K3,K4]
  refine ⟨fun h => Lg ?_, fun h => Lg ?_⟩
  · simp only [vx,T,K5,J0,K6,K7,↓reduceIte,J1,J2,J3,J4,J5,J6,J7,J8,J9,reduceCtorEq,K1,K2,K3,K4]
    have hx1 := modBB (a / BB ^ i)
    have hy := modBB (b / BB ^ i)
    have e1 := IntWalk.u64_in (a / BB ^ i % BB : Nat) (by omega)
    have e2 := IntWalk.u64_in (b / BB ^ i % BB : Nat) (by omega)
    have hgi := hg i (by omega)
    refine ⟨fun h' => Lg ?_, fun h' => Lg ?_⟩
    · simp only [vx,T,K5,J0,K6,K7,↓reduceIte,J1,J2,J3,J4,J5,J6,J7,J8,J9,reduceCtorEq,K1,K2,K3,K4]
      have hp := hi.put (by omega)
      simp only [lG,hgi,e1,e2,rsub_dig hx1 hy h3,rsub_bor hx1 hy h3,IntWalk.i64_in _ (show -9223372036854775808 ≤ (i : Int) + 1 ∧ (i : Int) + 1 ≤ 9223372036854775807 by omega)]
      refine ⟨⟨by omega, by omega⟩, ⟨by omega, by omega⟩, ⟨by omega, by omega⟩, Lq ⟨(i + 1, _, _), hp⟩ ?_ ?_⟩
      · refine Sa ?_; simp only [rx,Y0,Y1,Y2,Y3,Y4,Y5,Y6,Y7,ren,↓reduceIte,J1,J2,J3,J4,J5,J6,J7,J8,J9,reduceCtorEq,K1,K2,K3,K4,Y8,Y9,X2,X3,X4]
      simp only; omega
    simp only [vx,T,K5,J0,K6,K7,↓reduceIte,J1,J2,J3,J4,J5,J6,J7,J8,J9,reduceCtorEq,K1,K2,K3,K4]
    have hy0 := digit_out (x := b) (k := i) (by omega)
    have hp := hi.put (by omega)
    rw [hy0] at hp
    simp only [lG,hgi,e1,e2,rsub_dig0 hx1 h3,rsub_bor0 hx1 h3,IntWalk.i64_in _ (show -9223372036854775808 ≤ (i : Int) + 1 ∧ (i : Int) + 1 ≤ 9223372036854775807 by omega)]
    refine ⟨⟨by omega, by omega⟩, ⟨by omega, by omega⟩, Lq ⟨(i + 1, _, _), hp⟩ ?_ ?_⟩
    · refine Sa ?_; simp only [rx,Y0,Y1,Y2,Y3,Y4,Y5,Y6,Y7,ren,↓reduceIte,J1,J2,J3,J4,J5,J6,J7,J8,J9,reduceCtorEq,K1,K2,K3,K4,Y8,Y9,X2,X3,X4]
    simp only; omega
  simp only [vx,T,K5,J0,K6,K7,↓reduceIte,J1,J2,J3,J4,J5,J6,J7,J8,J9,reduceCtorEq,K1,K2,K3,K4]
  have hia : i = nl a := by omega
  subst hia
  obtain ⟨hv2, hr⟩ := hi.last hab
  simp only at hv2 hr
  rw [List.take_of_length_le (by omega)]
  refine Cg (rtrim_spec _ hr (by omega)) ?_
  rw [hv2]
  simp only [vx,T,K5,J0,K6,K7,↓reduceIte,J1,J2,J3,J4,J5,J6,J7,J8,J9,reduceCtorEq,K1,K2,K3,K4]
theorem top_div {U V n : Nat} (hn : nl V = n) (h0 : 0 < V) : U / V ≤ U / BB ^ (n - 1) / (V / BB ^ (n - 1)) := by
  have hp : 0 < BB ^ (n - 1) := Nat.pow_pos (by decide)
  have hv : 0 < V / BB ^ (n - 1) := Nat.div_pos (by rw [← hn]; exact ge_of_nl h0) hp
  rw [Nat.le_div_iff_mul_le hv, Nat.le_div_iff_mul_le hp, Nat.mul_assoc]
  refine Nat.le_trans (Nat.mul_le_mul_left _ ?_) (Nat.div_mul_le_self U V)
  rw [Nat.mul_comm]; exact Nat.mul_div_le _ _
theorem rdigit_spec (xs : List Int) (off V : Nat) (hx : InR xs) (hV : 0 < V) (hl : off + (nl V + 1) ≤ xs.length) (hlen : xs.length < 2 ^ 39) (hU : val ((xs.drop off).take (nl V + 1)) < V * BB) :
    Mc Tryz.prog 95 [.one (.own 0 1 off (nl V + 1)), .one (.ints .u32 (limbs V))] (.ints 92 .u32 xs)
      (fun r B' => r = .tup [.one (.int .u32 (val ((xs.drop off).take (nl V + 1)) / V : Nat)), .one (.ints .u32 (limbs (V * (val ((xs.drop off).take (nl V + 1)) / V))))] ∧ B' = .ints 92 .u32 xs) := by
  obtain ⟨U, hUd⟩ : ∃ U, U = val ((xs.drop off).take (nl V + 1)) := ⟨_, rfl⟩
  have hnV := nl_pos.2 hV
  have htm := rtrimM_spec xs off (nl V + 1) hx hl (by omega)
  have hvl := view_limbs (l := nl V + 1) hx hl
  have hr := view_inr hx off (nl V + 1)
  have g1 : xs.getD (off + nl V) 0 = ((U / BB ^ nl V % BB : Nat) : Int) := by rw [hUd, ← getD_val hr, view_get (by omega)]
  have g2 : xs.getD (off + (nl V - 1)) 0 = ((U / BB ^ (nl V - 1) % BB : Nat) : Int) := by rw [hUd, ← getD_val hr, view_get (by omega)]
  have hUl := val_lt hr
  rw [view_len hl] at hUl
  rw [← hUd] at htm hvl hU hUl ⊢
  have htop := topW_mod hV
  obtain ⟨t1, t2⟩ := topW_lt hV
  have ed : U / BB ^ nl V * BB + U / BB ^ (nl V - 1) % BB = U / BB ^ (nl V - 1) := by
    have := div_next2 U (nl V - 1)
    rw [show nl V - 1 + 1 = nl V by omega] at this; exact this
  have d1 : U / BB ^ nl V < BB := by
    rw [Nat.div_lt_iff_lt_mul (Nat.pow_pos (by decide)), Nat.mul_comm, ← Nat.pow_succ]; exact hUl
  have d2 : U / BB ^ nl V % BB = U / BB ^ nl V := Nat.mod_eq_of_lt d1
  have d3 := or_low64 d1 (modBB (U / BB ^ (nl V - 1)))
  rw [ed] at d3
  have hq0 := top_div (U := U) rfl hV
  have hq1 : U / V < BB := by rw [Nat.div_lt_iff_lt_mul hV, Nat.mul_comm]; exact hU
  have htp : U / BB ^ (nl V - 1) < BB * BB := by
    rw [← ed]
    have := modBB (U / BB ^ (nl V - 1))
    generalize U / BB ^ nl V = p at *
    generalize U / BB ^ (nl V - 1) % BB = q at *
    unfold BB at *
    omega
  obtain ⟨tp, htpd⟩ : ∃ tp, tp = U / BB ^ (nl V - 1) := ⟨_, rfl⟩
  obtain ⟨hi, hhi⟩ : ∃ hi, hi = topW V := ⟨_, rfl⟩
  have hq0' : U / V ≤ tp / hi := by rw [htpd, hhi]; exact hq0
  rw [← htpd] at d3 htp g2
  rw [← hhi] at htop t1 t2
  obtain ⟨u1, hu1⟩ : ∃ u1, u1 = U / BB ^ nl V := ⟨_, rfl⟩
  rw [d2] at g1
  rw [← hu1] at g1 d1 d3
  obtain ⟨u0, hu0⟩ : ∃ u0, u0 = tp % BB := ⟨_, rfl⟩
  have hu0l : u0 < BB := by rw [hu0]; exact modBB tp
  rw [← hu0] at g2 d3
  have d4 : IntKind.u64.wrap (u1 : Int) = u1 := IntWalk.u64_in _ (by unfold BB at d1; omega)
  have d5 : IntKind.u64.wrap (u0 : Int) = u0 := IntWalk.u64_in _ (by unfold BB at hu0l; omega)
  have d6 : IntKind.u64.wrap ((u1 : Int) * 4294967296) = (u1 : Int) * 4294967296 := IntWalk.u64_in _ (by unfold BB at d1; omega)
  have d7 : IntKind.u64.wrap (hi : Int) = hi := IntWalk.u64_in _ (by unfold BB at t2; omega)
  have d8 : IntKind.u64.wrap ((tp : Int).tdiv hi) = ((tp / hi : Nat) : Int) := by
    have e3 : (tp : Int).tdiv hi = ((tp / hi : Nat) : Int) := rfl
    have := Nat.div_le_self tp hi
    generalize tp / hi = q at *
    rw [e3, IntWalk.u64_in _ (by unfold BB at htp; omega)]
  have x1 : IntKind.i64.wrap ((nl V : Int) - 1) = ((nl V - 1 : Nat) : Int) := by rw [IntWalk.i64_in _ (by omega)]; omega
  refine mut_of_vc T_ok mixed Tryz.func95 rfl (by decide) _ (by simp [Tryz.ntmps95]) ⟨[0, 1, 4, 5, 6, 7, 8, 32, 42], []⟩ (by kernel_rfl) (.ints 92 .u32 xs) trivial _ ?_
  show vc T _ _ (Option.get! Tryz.f95.body) _ _
  simp only [Tryz.f95,Tryz.ntmps95,Option.get!,iS,iM,eO,J1]
  simp only [vx,T,K5,J0,K6,K7,↓reduceIte,J1,J2,J3,J4,J5,J6,J7,J8,J9,reduceCtorEq,K1,K2,K3,K4]
  simp (disch := omega) only [lG,← X2,← Int.natCast_mul,Int.toNat_natCast,IntWalk.i64_in,IntWalk.u64_in,wrapBB,fdivBB,true_and,and_true,x1,g1,g2,htop,d4,d5,d6,d3,d7,d8]
  refine ⟨⟨by omega, by omega⟩, ⟨by omega, by omega⟩, ⟨by omega, by omega⟩, by omega, ?_⟩
  refine ⟨fun hq => Lg ?_, fun hq => Lg ?_⟩
  · obtain ⟨Q, hQ⟩ : ∃ Q : Nat, (4294967295 : Int) = Q := ⟨4294967295, rfl⟩
    have hQ1 : U / V ≤ Q := by unfold BB at hq1; generalize U / V = q at *; omega
    have hQ2 : Q < BB := by unfold BB; omega
    simp only [vx,T,K5,J0,K6,K7,↓reduceIte,J1,J2,J3,J4,J5,J6,J7,J8,J9,reduceCtorEq,K1,K2,K3,K4]
    simp only [hQ]
    simp only [wrapBB]
    refine Cg (rtimesD_spec V Q 1 (by omega) (by decide) (by rw [Nat.pow_one]; exact hQ2)) ?_
    simp only [vx,T,K5,J0,K6,K7,↓reduceIte,J1,J2,J3,J4,J5,J6,J7,J8,J9,reduceCtorEq,K1,K2,K3,K4]
    refine Lk (fun q : {q : Nat // U / V ≤ q ∧ q < BB} => ⟨[(0, .one (.own 0 1 off (nl V + 1))), (1, .one (.ints .u32 (limbs V))), (7, .one (.int .u64 q.1)), (8, .one (.ints .u32 (limbs (V * q.1))))], [(0, ⟨.ints 92 .u32 xs, true⟩)], 3, 51⟩) (fun q => q.1) ⟨Q, hQ1, hQ2⟩ ?_ (fun ⟨q, hqa, hqb⟩ => ?_)
    · refine Sa ?_; simp only [rx,Y0,Y1,Y2,Y3,Y4,Y5,Y6,Y7,ren,↓reduceIte,J1,J2,J3,J4,J5,J6,J7,J8,J9,reduceCtorEq,K1,K2,K3,K4,Y8,Y9,X2,X3,X4]
    have hq3 : nl (V * q) ≤ nl V + 1 := by
      have h1 := nl_mul V q
      have h2 : nl q ≤ 1 := nl_le_of_lt (by rw [Nat.pow_one]; exact hqb)
      omega
    simp only [vx,T,K5,J0,K6,K7,↓reduceIte,J1,J2,J3,J4,J5,J6,J7,J8,J9,reduceCtorEq,K1,K2,K3,K4]
    refine Cm 0 rfl trivial htm ?_
    rintro r B' ⟨rfl, rfl⟩ _
    simp only [vx,T,K5,J0,K6,K7,↓reduceIte,J1,J2,J3,J4,J5,J6,J7,J8,J9,reduceCtorEq,K1,K2,K3,K4]
    rw [hvl.2]
    refine Cg (rcompare_spec U (V * q) (by omega) (by omega)) ?_
    simp only [vx,T,K5,J0,K6,K7,↓reduceIte,J1,J2,J3,J4,J5,J6,J7,J8,J9,reduceCtorEq,K1,K2,K3,K4]
    refine ⟨fun hc => Lg ?_, fun hc => Lg ?_⟩
    · have hc2 := cmpI_neg hc
      have hc3 : U / V < q := by rw [Nat.div_lt_iff_lt_mul hV, Nat.mul_comm]; exact hc2
      have hc4 : V * (q - 1) = V * q - V := by rw [Nat.mul_sub, Nat.mul_one]
      have hc5 : 0 < q := Nat.lt_of_le_of_lt (Nat.zero_le _) hc3
      have hc6 : V ≤ V * q := Nat.le_mul_of_pos_right _ hc5
      have hc7 := Nat.le_sub_one_of_lt hc3
      have m1 : IntKind.u64.wrap ((q : Int) - 1) = ((q - 1 : Nat) : Int) := by rw [IntWalk.u64_in _ (by unfold BB at hqb; omega)]; omega
      simp only [vx,T,K5,J0,K6,K7,↓reduceIte,J1,J2,J3,J4,J5,J6,J7,J8,J9,reduceCtorEq,K1,K2,K3,K4]
      simp only [m1]
      refine Cg (rminus_spec (V * q) V hc6 (by omega)) ?_
      rw [← hc4]
      simp only [vx,T,K5,J0,K6,K7,↓reduceIte,J1,J2,J3,J4,J5,J6,J7,J8,J9,reduceCtorEq,K1,K2,K3,K4]
      refine Lq ⟨q - 1, hc7, by omega⟩ ?_ ?_
      · refine Sa ?_; simp only [rx,Y0,Y1,Y2,Y3,Y4,Y5,Y6,Y7,ren,↓reduceIte,J1,J2,J3,J4,J5,J6,J7,J8,J9,reduceCtorEq,K1,K2,K3,K4,Y8,Y9,X2,X3,X4]
      simp only; omega
    have hc2 := cmpI_nneg hc
    have hc3 : q = U / V := Nat.le_antisymm ((Nat.le_div_iff_mul_le hV).2 (by rw [Nat.mul_comm]; exact hc2)) hqa
    simp only [vx,T,K5,J0,K6,K7,↓reduceIte,J1,J2,J3,J4,J5,J6,J7,J8,J9,reduceCtorEq,K1,K2,K3,K4]
    have m2 : IntKind.u32.wrap (q : Int) = q := IntWalk.u32_in _ (by unfold BB at hqb; omega)
    rw [m2, hc3]
  obtain ⟨Q, hQ⟩ : ∃ Q : Nat, Q = tp / hi := ⟨_, rfl⟩
  rw [← hQ] at hq hq0' ⊢
  have hQ1 : U / V ≤ Q := hq0'
  have hQ2 : Q < BB := by unfold BB; omega
  simp only [vx,T,K5,J0,K6,K7,↓reduceIte,J1,J2,J3,J4,J5,J6,J7,J8,J9,reduceCtorEq,K1,K2,K3,K4]
  simp only [wrapBB]
  refine Cg (rtimesD_spec V Q 1 (by omega) (by decide) (by rw [Nat.pow_one]; exact hQ2)) ?_
  simp only [vx,T,K5,J0,K6,K7,↓reduceIte,J1,J2,J3,J4,J5,J6,J7,J8,J9,reduceCtorEq,K1,K2,K3,K4]
  refine Lk (fun q : {q : Nat // U / V ≤ q ∧ q < BB} => ⟨[(0, .one (.own 0 1 off (nl V + 1))), (1, .one (.ints .u32 (limbs V))), (7, .one (.int .u64 q.1)), (8, .one (.ints .u32 (limbs (V * q.1))))], [(0, ⟨.ints 92 .u32 xs, true⟩)], 3, 51⟩) (fun q => q.1) ⟨Q, hQ1, hQ2⟩ ?_ (fun ⟨q, hqa, hqb⟩ => ?_)
  · refine Sa ?_; simp only [rx,Y0,Y1,Y2,Y3,Y4,Y5,Y6,Y7,ren,↓reduceIte,J1,J2,J3,J4,J5,J6,J7,J8,J9,reduceCtorEq,K1,K2,K3,K4,Y8,Y9,X2,X3,X4]
  have hq3 : nl (V * q) ≤ nl V + 1 := by
    have h1 := nl_mul V q
    have h2 : nl q ≤ 1 := nl_le_of_lt (by rw [Nat.pow_one]; exact hqb)
    omega
  simp only [vx,T,K5,J0,K6,K7,↓reduceIte,J1,J2,J3,J4,J5,J6,J7,J8,J9,reduceCtorEq,K1,K2,K3,K4]
  refine Cm 0 rfl trivial htm ?_
  rintro r B' ⟨rfl, rfl⟩ _
  simp only [vx,T,K5,J0,K6,K7,↓reduceIte,J1,J2,J3,J4,J5,J6,J7,J8,J9,reduceCtorEq,K1,K2,K3,K4]
  rw [hvl.2]
  refine Cg (rcompare_spec U (V * q) (by omega) (by omega)) ?_
  simp only [vx,T,K5,J0,K6,K7,↓reduceIte,J1,J2,J3,J4,J5,J6,J7,J8,J9,reduceCtorEq,K1,K2,K3,K4]
  refine ⟨fun hc => Lg ?_, fun hc => Lg ?_⟩
  · have hc2 := cmpI_neg hc
    have hc3 : U / V < q := by rw [Nat.div_lt_iff_lt_mul hV, Nat.mul_comm]; exact hc2
    have hc4 : V * (q - 1) = V * q - V := by rw [Nat.mul_sub, Nat.mul_one]
    have hc5 : 0 < q := Nat.lt_of_le_of_lt (Nat.zero_le _) hc3
    have hc6 : V ≤ V * q := Nat.le_mul_of_pos_right _ hc5
    have hc7 := Nat.le_sub_one_of_lt hc3
    have m1 : IntKind.u64.wrap ((q : Int) - 1) = ((q - 1 : Nat) : Int) := by rw [IntWalk.u64_in _ (by unfold BB at hqb; omega)]; omega
    simp only [vx,T,K5,J0,K6,K7,↓reduceIte,J1,J2,J3,J4,J5,J6,J7,J8,J9,reduceCtorEq,K1,K2,K3,K4]
    simp only [m1]
    refine Cg (rminus_spec (V * q) V hc6 (by omega)) ?_
    rw [← hc4]
    simp only [vx,T,K5,J0,K6,K7,↓reduceIte,J1,J2,J3,J4,J5,J6,J7,J8,J9,reduceCtorEq,K1,K2,K3,K4]
    refine Lq ⟨q - 1, hc7, by omega⟩ ?_ ?_
    · refine Sa ?_; simp only [rx,Y0,Y1,Y2,Y3,Y4,Y5,Y6,Y7,ren,↓reduceIte,J1,J2,J3,J4,J5,J6,J7,J8,J9,reduceCtorEq,K1,K2,K3,K4,Y8,Y9,X2,X3,X4]
    simp only; omega
  have hc2 := cmpI_nneg hc
  have hc3 : q = U / V := Nat.le_antisymm ((Nat.le_div_iff_mul_le hV).2 (by rw [Nat.mul_comm]; exact hc2)) hqa
  simp only [vx,T,K5,J0,K6,K7,↓reduceIte,J1,J2,J3,J4,J5,J6,J7,J8,J9,reduceCtorEq,K1,K2,K3,K4]
  have m2 : IntKind.u32.wrap (q : Int) = q := IntWalk.u32_in _ (by unfold BB at hqb; omega)
  rw [m2, hc3]
open Go Go.Eng
theorem rdivide_spec (a b : Nat) (h0 : 0 < b) (ha : nl a < 2 ^ 38) (hb : nl b < 2 ^ 38) : Pr Tryz.prog 61 [.one (.ints .u32 (limbs a)), .one (.ints .u32 (limbs b))] (.tup [.one (.ints .u32 (limbs (a / b))), .one (.ints .u32 (limbs (a % b)))]) := by
  have hnb := nl_pos.2 h0
  refine pv T_ok mixed Tryz.func61 rfl (by decide) _ (by simp [Tryz.ntmps61]) ⟨[0, 1, 4, 5, 6, 7, 8, 9, 10, 11, 12, 13, 14, 15, 16, 17, 18, 19, 23, 27, 42, 77, 105, 114], []⟩ (by kernel_rfl) _ ?_
  show vc T _ _ (Option.get! Tryz.f61.body) _ _
  simp only [Tryz.f61,Tryz.ntmps61,Option.get!,iS,iM,eO,J1]
  simp only [vx,T,K5,J0,K6,K7,↓reduceIte,J1,J2,J3,J4,J5,J6,J7,J8,J9,reduceCtorEq,K1,K2,K3,K4]
  refine Cg (rcompare_spec a b (by omega) (by omega)) ?_
  simp only [vx,T,K5,J0,K6,K7,↓reduceIte,J1,J2,J3,J4,J5,J6,J7,J8,J9,reduceCtorEq,K1,K2,K3,K4]
  refine ⟨fun h1 => Lg ?_, fun h1 => Lg ?_⟩
  · simp only [vx,T,K5,J0,K6,K7,↓reduceIte,J1,J2,J3,J4,J5,J6,J7,J8,J9,reduceCtorEq,K1,K2,K3,K4]
    have hlt : a < b := cmpI_neg h1
    refine Va ?_; simp only [vLe,vLeL,rx,Y0,Y1,Y2,Y3,Y4,Y5,Y6,Y7,ren,↓reduceIte,J1,J2,J3,J4,J5,J6,J7,J8,J9,reduceCtorEq,K1,K2,K3,K4,Nat.div_eq_of_lt hlt,Nat.mod_eq_of_lt hlt,limbs_zero]
  have hle : b ≤ a := cmpI_nneg h1
  simp only [vx,T,K5,J0,K6,K7,↓reduceIte,J1,J2,J3,J4,J5,J6,J7,J8,J9,reduceCtorEq,K1,K2,K3,K4]
  refine ⟨fun h2 => Lg ?_, fun h2 => Lg ?_⟩
  · simp only [vx,T,K5,J0,K6,K7,↓reduceIte,J1,J2,J3,J4,J5,J6,J7,J8,J9,reduceCtorEq,K1,K2,K3,K4]
    have ha2 : a < 2 ^ 64 := by have := nl_le_iff.1 (show nl a ≤ 2 by omega); unfold BB at this; omega
    refine Cg (rshort_spec a ha2) ?_
    simp only [vx,T,K5,J0,K6,K7,↓reduceIte,J1,J2,J3,J4,J5,J6,J7,J8,J9,reduceCtorEq,K1,K2,K3,K4]
    refine Cg (rshort_spec b (by omega)) ?_
    simp only [vx,T,K5,J0,K6,K7,↓reduceIte,J1,J2,J3,J4,J5,J6,J7,J8,J9,reduceCtorEq,K1,K2,K3,K4]
    refine ⟨by omega, ?_⟩
    have e1 : IntKind.u64.wrap ((a : Int).tdiv b) = ((a / b : Nat) : Int) := by
      have e3 : (a : Int).tdiv b = ((a / b : Nat) : Int) := rfl
      have := Nat.div_le_self a b
      generalize a / b = q at *
      rw [e3, IntWalk.u64_in _ (by omega)]
    have e2 : (a : Int).tmod b = ((a % b : Nat) : Int) := rfl
    simp only [e1,e2]
    refine Cg (rwords_spec (a / b) (Nat.lt_of_le_of_lt (Nat.div_le_self a b) ha2)) ?_
    simp only [vx,T,K5,J0,K6,K7,↓reduceIte,J1,J2,J3,J4,J5,J6,J7,J8,J9,reduceCtorEq,K1,K2,K3,K4]
    refine ⟨by omega, ?_⟩
    simp only [e2]
    refine Cg (rwords_spec (a % b) (Nat.lt_of_le_of_lt (Nat.mod_le a b) ha2)) ?_
    simp only [vx,T,K5,J0,K6,K7,↓reduceIte,J1,J2,J3,J4,J5,J6,J7,J8,J9,reduceCtorEq,K1,K2,K3,K4]
    refine Va ?_; simp only [vLe,vLeL,rx,Y0,Y1,Y2,Y3,Y4,Y5,Y6,Y7,ren,↓reduceIte,J1,J2,J3,J4,J5,J6,J7,J8,J9,reduceCtorEq,K1,K2,K3,K4]
  simp only [vx,T,K5,J0,K6,K7,↓reduceIte,J1,J2,J3,J4,J5,J6,J7,J8,J9,reduceCtorEq,K1,K2,K3,K4]
  refine ⟨fun h3 => Lg ?_, fun h3 => Lg ?_⟩
  · have h3' : nl b = 1 := by omega
    have hb1 : b < BB := by have := nl_le_iff.1 (show nl b ≤ 1 by omega); simpa using this
    have hm1 := Nat.mod_lt a h0
    have hm2 : IntKind.u64.wrap ((a % b : Nat) : Int) = ((a % b : Nat) : Int) := by
      generalize a % b = m at *
      exact IntWalk.u64_in _ (by unfold BB at hb1; omega)
    simp only [vx,T,K5,J0,K6,K7,↓reduceIte,J1,J2,J3,J4,J5,J6,J7,J8,J9,reduceCtorEq,K1,K2,K3,K4]
    simp (disch := omega) only [lG,← X2,← Int.natCast_mul,Int.toNat_natCast,IntWalk.i64_in,IntWalk.u64_in,wrapBB,fdivBB,true_and,and_true,Nat.pow_zero,Nat.div_one,Nat.mod_eq_of_lt hb1]
    refine ⟨by omega, Cg (rby_spec a b (by omega) h0 hb1) ?_⟩
    simp only [vx,T,K5,J0,K6,K7,↓reduceIte,J1,J2,J3,J4,J5,J6,J7,J8,J9,reduceCtorEq,K1,K2,K3,K4]
    simp only [hm2]
    refine Cg (rwords_spec (a % b) (by unfold BB at hb1; omega)) ?_
    simp only [vx,T,K5,J0,K6,K7,↓reduceIte,J1,J2,J3,J4,J5,J6,J7,J8,J9,reduceCtorEq,K1,K2,K3,K4]
    refine Va ?_; simp only [vLe,vLeL,rx,Y0,Y1,Y2,Y3,Y4,Y5,Y6,Y7,ren,↓reduceIte,J1,J2,J3,J4,J5,J6,J7,J8,J9,reduceCtorEq,K1,K2,K3,K4]
  simp only [vx,T,K5,J0,K6,K7,↓reduceIte,J1,J2,J3,J4,J5,J6,J7,J8,J9,reduceCtorEq,K1,K2,K3,K4]
  have ht := topW_mod h0
  obtain ⟨t1, t2⟩ := topW_lt h0
  obtain ⟨s1, s2, s3⟩ := shf_spec h0
  have s4 := shf_nl h0
  refine Cg (rlength_spec b h0 (by omega)) ?_
  simp only [vx,T,K5,J0,K6,K7,↓reduceIte,J1,J2,J3,J4,J5,J6,J7,J8,J9,reduceCtorEq,K1,K2,K3,K4]
  have hbl : bl (topW b) ≤ 32 := bl_le (by unfold BB at t2; omega)
  have e0 : IntKind.i64.wrap (IntKind.i64.wrap (32 * (nl b : Nat)) - ((32 * (nl b - 1) + bl (topW b) : Nat) : Int)) = ((shf b : Nat) : Int) := by
    have e1 : IntKind.i64.wrap (32 * (nl b : Nat)) = 32 * (nl b : Nat) := IntWalk.i64_in _ (by omega)
    rw [e1, IntWalk.i64_in _ (by omega)]
    unfold shf
    omega
  simp only [e0]
  refine CallK.fresh (rshifted_spec a (shf b) (by omega) s1) ?_
  simp only [vx,T,K5,J0,K6,K7,↓reduceIte,J1,J2,J3,J4,J5,J6,J7,J8,J9,reduceCtorEq,K1,K2,K3,K4]
  refine CallK.fresh (rshifted_spec b (shf b) (by omega) s1) ?_
  simp only [vx,T,K5,J0,K6,K7,↓reduceIte,J1,J2,J3,J4,J5,J6,J7,J8,J9,reduceCtorEq,K1,K2,K3,K4,dig_length]
  have hA2 : 2 * (a * 2 ^ shf b) < BB ^ (nl a + 1) := by
    have h5 := lt_of_nl a
    have h6 : 2 ^ shf b ≤ 2 ^ 31 := Nat.pow_le_pow_right (by decide) (by omega)
    have h7 : a * 2 ^ shf b ≤ a * 2 ^ 31 := Nat.mul_le_mul_left _ h6
    have h8 : BB ^ (nl a + 1) = BB ^ nl a * BB := Nat.pow_succ _ _
    have h9 : a * (2 * 2 ^ 31) < BB ^ nl a * BB := Nat.mul_lt_mul_of_lt_of_le h5 (by decide) (by decide)
    omega
  have hV2 : val (dig (nl b + 1) (b * 2 ^ shf b)) = b * 2 ^ shf b := val_dig_lt (Nat.lt_of_lt_of_le s2 (Nat.pow_le_pow_right (by decide) (by omega)))
  rw [List.take_of_length_le (by rw [dig_length]; exact Nat.le_refl _)]
  refine Cg (rtrim_spec _ (dig_inr _ _) (by rw [dig_length]; omega)) ?_
  rw [hV2]
  have hN : Nrm (b * 2 ^ shf b) (nl (b * 2 ^ shf b)) := ⟨rfl, by omega, by rw [s4]; exact s3⟩
  obtain ⟨A, hA⟩ : ∃ A, A = a * 2 ^ shf b := ⟨_, rfl⟩
  obtain ⟨V, hV⟩ : ∃ V, V = b * 2 ^ shf b := ⟨_, rfl⟩
  have hmono : nl b ≤ nl a := nl_mono hle
  rw [← hA] at hA2 ⊢
  rw [← hV] at s4 hN ⊢
  have hVp := hN.pos
  clear hV2 s2 s3
  simp only [vx,T,K5,J0,K6,K7,↓reduceIte,J1,J2,J3,J4,J5,J6,J7,J8,J9,reduceCtorEq,K1,K2,K3,K4,dig_length]
  have e4 : IntKind.i64.wrap ((nl a : Int) - (nl V : Nat)) = ((nl a + 1 - nl V : Nat) : Int) - 1 := by rw [IntWalk.i64_in _ (by omega)]; omega
  simp (disch := omega) only [lG,← X2,← Int.natCast_mul,Int.toNat_natCast,IntWalk.i64_in,IntWalk.u64_in,wrapBB,fdivBB,true_and,and_true,e4]
  refine ⟨⟨by omega, by omega, by omega, by omega⟩, Lk (fun y : {y : Nat × List Int × List Int // DvInv A V (nl a + 1) y.1 y.2.1 y.2.2 ∧ y.2.2.length = nl a} => ⟨[(10, .one (.int .i64 (shf b))), (11, .one (.own 1 1 0 (nl a + 1))), (12, .one (.ints .u32 (limbs V))), (13, .one (.own 2 1 0 (nl a))), (14, .one (.int .i64 ((y.1.1 : Int) - 1)))], [(1, ⟨.ints 92 .u32 y.1.2.1, true⟩), (2, ⟨.ints 92 .u32 y.1.2.2, true⟩)], 3, 128⟩) (fun y => y.1.1) ⟨(nl a + 1 - nl V, _, List.replicate (nl a) 0), DvInv.init hN (by omega) hA2 (by omega), by simp⟩ ?_ (fun ⟨⟨j, us, qs⟩, hy, hql⟩ => ?_)⟩
  · refine Sa ?_; simp only [rx,Y0,Y1,Y2,Y3,Y4,Y5,Y6,Y7,ren,↓reduceIte,J1,J2,J3,J4,J5,J6,J7,J8,J9,reduceCtorEq,K1,K2,K3,K4,Y8,Y9,X2,X3,X4]
    rfl
  simp only at hy hql
  have hul := hy.ulen
  have hjl := hy.le
  have hui := hy.uin
  simp only [vx,T,K5,J0,K6,K7,↓reduceIte,J1,J2,J3,J4,J5,J6,J7,J8,J9,reduceCtorEq,K1,K2,K3,K4]
  refine ⟨fun h6 => Lg ?_, fun h6 => Lg ?_⟩
  · obtain ⟨i, rfl⟩ : ∃ i, j = i + 1 := ⟨j - 1, by omega⟩
    have hAt := hy.at
    have hus0 : val us < BB ^ (i + nl V + 1) := by
      refine Nat.lt_of_lt_of_le hAt.lt ?_
      have := Nat.mul_le_mul_right (BB ^ (i + 1)) (Nat.le_of_lt hAt.nrm.lt)
      rw [← Nat.pow_add, show nl V + (i + 1) = i + nl V + 1 by omega] at this
      exact this
    have hUv : val ((us.drop i).take (nl V + 1)) = val us / BB ^ i := by
      rw [val_take (hui.drop i), val_drop hui, Nat.mod_eq_of_lt]
      rw [Nat.div_lt_iff_lt_mul (Nat.pow_pos (by decide)), Nat.mul_comm, ← Nat.pow_add, ← Nat.add_assoc]; exact hus0
    have hUl : val us / BB ^ i < BB ^ (nl V + 1) := by
      rw [Nat.div_lt_iff_lt_mul (Nat.pow_pos (by decide)), Nat.mul_comm, ← Nat.pow_add, ← Nat.add_assoc]; exact hus0
    have hdg := rdigit_spec us i V hui hVp (by omega) (by omega) (by rw [hUv]; exact hAt.U.1)
    have htm := rtrimM_spec us i (nl V + 1) hui (by omega) (by omega)
    have hvl := view_limbs (off := i) (l := nl V + 1) hui (by omega)
    rw [hUv] at hdg htm hvl
    have hq := hy.q
    have x0 : ((i + 1 : Nat) : Int) - 1 = (i : Int) := by omega
    have x3 : IntKind.i64.wrap ((i : Int) + (nl V : Nat)) = ((i + nl V : Nat) : Int) := by rw [← X2, IntWalk.i64_in _ (by omega)]
    have p1 : IntKind.i64.wrap (((i + nl V : Nat) : Int) + 1) = ((i + nl V + 1 : Nat) : Int) := by rw [IntWalk.i64_in _ (by omega)]; omega
    have p2 : (((i + nl V + 1 : Nat) : Int) - (i : Int)).toNat = nl V + 1 := by omega
    obtain ⟨U, hUd⟩ : ∃ U, U = val us / BB ^ i := ⟨_, rfl⟩
    rw [← hUd] at hdg htm hvl hUl hq
    obtain ⟨q, hqd⟩ : ∃ q, q = U / V := ⟨_, rfl⟩
    rw [← hqd] at hdg hq
    rw [x0]
    simp only [vx,T,K5,J0,K6,K7,↓reduceIte,J1,J2,J3,J4,J5,J6,J7,J8,J9,reduceCtorEq,K1,K2,K3,K4]
    simp (disch := omega) only [lG,← X2,← Int.natCast_mul,Int.toNat_natCast,IntWalk.i64_in,IntWalk.u64_in,wrapBB,fdivBB,true_and,and_true,x3,p1,p2]
    refine ⟨⟨by omega, by omega, by omega⟩, Cm 1 rfl trivial hdg ?_⟩
    rintro r B' ⟨rfl, rfl⟩ _
    simp only [vx,T,K5,J0,K6,K7,↓reduceIte,J1,J2,J3,J4,J5,J6,J7,J8,J9,reduceCtorEq,K1,K2,K3,K4]
    refine ⟨by omega, Cm 1 rfl trivial htm ?_⟩
    rintro r B' ⟨rfl, rfl⟩ _
    simp only [vx,T,K5,J0,K6,K7,↓reduceIte,J1,J2,J3,J4,J5,J6,J7,J8,J9,reduceCtorEq,K1,K2,K3,K4]
    have hqV : V * q ≤ U := by rw [hqd, Nat.mul_comm]; exact Nat.div_mul_le_self U V
    refine Cm 1 rfl trivial (rminusM_spec us i U (V * q) hui (by omega) (by omega) hvl.2 hqV (by omega)) ?_
    rintro r B' ⟨rfl, rfl⟩ _
    simp only [vx,T,K5,J0,K6,K7,↓reduceIte,J1,J2,J3,J4,J5,J6,J7,J8,J9,reduceCtorEq,K1,K2,K3,K4]
    obtain ⟨D, hD⟩ : ∃ D, D = U - V * q := ⟨_, rfl⟩
    rw [← hD]
    have hDl : D < BB ^ (nl V + 1) := by omega
    have hDn : nl D ≤ nl V + 1 := nl_le_of_lt hDl
    have hUg : ∀ k, k < nl V + 1 → us.getD (i + k) 0 = ((U / BB ^ k % BB : Nat) : Int) := fun k hk => by
      rw [hUd, ← hUv, ← getD_val (view_inr hui i (nl V + 1)), view_get hk]
    refine Lk (fun z : {z : Nat × List Int // CpInv us i U D (nl V + 1) z.1 z.2} => ⟨[(10, .one (.int .i64 (shf b))), (11, .one (.own 1 1 0 (nl a + 1))), (12, .one (.ints .u32 (limbs V))), (13, .one (.own 2 1 0 (nl a))), (14, .one (.int .i64 i)), (15, .one (.own 1 1 i (nl V + 1))), (18, .one (.ints .u32 (limbs D))), (19, .one (.int .i64 z.1.1))], [(1, ⟨.ints 92 .u32 z.1.2, true⟩), (2, ⟨.ints 92 .u32 (qs.set i (q : Int)), true⟩)], 3, 128⟩) (fun z => nl V + 1 - z.1.1) ⟨(0, us), CpInv.init i U D (nl V + 1) hui⟩ ?_ (fun ⟨⟨k, zs⟩, hz⟩ => ?_)
    · refine Sa ?_; simp only [rx,Y0,Y1,Y2,Y3,Y4,Y5,Y6,Y7,ren,↓reduceIte,J1,J2,J3,J4,J5,J6,J7,J8,J9,reduceCtorEq,K1,K2,K3,K4,Y8,Y9,X2,X3,X4]
    simp only at hz
    have hzl := hz.len
    have hzk := hz.le
    simp only [vx,T,K5,J0,K6,K7,↓reduceIte,J1,J2,J3,J4,J5,J6,J7,J8,J9,reduceCtorEq,K1,K2,K3,K4]
    refine ⟨fun hk => Lg ?_, fun hk => Lg ?_⟩
    · simp only [vx,T,K5,J0,K6,K7,↓reduceIte,J1,J2,J3,J4,J5,J6,J7,J8,J9,reduceCtorEq,K1,K2,K3,K4]
      have hkm : k < nl V + 1 := by omega
      have hdk := modBB (D / BB ^ k)
      have k1 : IntKind.i64.wrap ((k : Int) + 1) = ((k + 1 : Nat) : Int) := by rw [IntWalk.i64_in _ (by omega)]; omega
      refine ⟨⟨by omega, by omega⟩, fun h' => Lg ?_, fun h' => Lg ?_⟩
      · simp only [vx,T,K5,J0,K6,K7,↓reduceIte,J1,J2,J3,J4,J5,J6,J7,J8,J9,reduceCtorEq,K1,K2,K3,K4]
        simp only [List.set_set,k1,lG]
        refine ⟨⟨by omega, by omega⟩, by omega, Lq ⟨(k + 1, zs.set (i + k) ((D / BB ^ k % BB : Nat) : Int)), hz.put hkm (by omega) (hUg k hkm) rfl⟩ ?_ ?_⟩
        · refine Sa ?_; simp only [rx,Y0,Y1,Y2,Y3,Y4,Y5,Y6,Y7,ren,↓reduceIte,J1,J2,J3,J4,J5,J6,J7,J8,J9,reduceCtorEq,K1,K2,K3,K4,Y8,Y9,X2,X3,X4]
        simp only; omega
      simp only [vx,T,K5,J0,K6,K7,↓reduceIte,J1,J2,J3,J4,J5,J6,J7,J8,J9,reduceCtorEq,K1,K2,K3,K4]
      simp only [k1]
      refine Lq ⟨(k + 1, zs.set (i + k) 0), hz.put hkm (by omega) (hUg k hkm) (digit_out (x := D) (k := k) (by omega))⟩ ?_ ?_
      · refine Sa ?_; simp only [rx,Y0,Y1,Y2,Y3,Y4,Y5,Y6,Y7,ren,↓reduceIte,J1,J2,J3,J4,J5,J6,J7,J8,J9,reduceCtorEq,K1,K2,K3,K4,Y8,Y9,X2,X3,X4]
      simp only; omega
    have hkm : k = nl V + 1 := by omega
    subst hkm
    have hzv := hz.done hUl hDl
    have i1 : IntKind.i64.wrap ((i : Int) - 1) = (i : Int) - 1 := by rw [IntWalk.i64_in _ (by omega)]
    have hUle : BB ^ i * U ≤ val us := by rw [hUd]; exact Nat.mul_div_le _ _
    have hst : val zs = val us - BB ^ i * (val us / BB ^ i / V * V) := by
      rw [← hUd, ← hqd, Nat.mul_comm q V]
      have h1 : BB ^ i * U = BB ^ i * D + BB ^ i * (V * q) := by rw [← Nat.mul_add]; congr 1; omega
      omega
    have hst2 := hy.step hzl hz.inr hst
    rw [← hUd, ← hqd] at hst2
    simp only [vx,T,K5,J0,K6,K7,↓reduceIte,J1,J2,J3,J4,J5,J6,J7,J8,J9,reduceCtorEq,K1,K2,K3,K4]
    simp only [i1]
    refine Lq ⟨(i, zs, _), hst2, by simp only [List.length_set]; exact hql⟩ ?_ ?_
    · refine Sa ?_; simp only [rx,Y0,Y1,Y2,Y3,Y4,Y5,Y6,Y7,ren,↓reduceIte,J1,J2,J3,J4,J5,J6,J7,J8,J9,reduceCtorEq,K1,K2,K3,K4,Y8,Y9,X2,X3,X4]
    simp only; omega
  have hj0 : j = 0 := by omega
  subst hj0
  subst hA hV
  obtain ⟨q1, q2, q3⟩ := hy.done h0
  have hqi := hy.qin
  clear hy
  simp only [vx,T,K5,J0,K6,K7,↓reduceIte,J1,J2,J3,J4,J5,J6,J7,J8,J9,reduceCtorEq,K1,K2,K3,K4]
  rw [List.take_of_length_le (by omega)]
  refine Cg (rtrim_spec qs hqi (by omega)) ?_
  rw [q1]
  simp only [vx,T,K5,J0,K6,K7,↓reduceIte,J1,J2,J3,J4,J5,J6,J7,J8,J9,reduceCtorEq,K1,K2,K3,K4]
  rw [List.take_of_length_le (by omega)]
  refine Cg (rtrim_spec us hui (by omega)) ?_
  rw [q2]
  have q4 : nl (a % b * 2 ^ shf b) ≤ nl b := by rw [← q2, ← s4]; exact nl_le_of_lt q3
  simp only [vx,T,K5,J0,K6,K7,↓reduceIte,J1,J2,J3,J4,J5,J6,J7,J8,J9,reduceCtorEq,K1,K2,K3,K4]
  refine Cg (rback_spec (a % b * 2 ^ shf b) (shf b) (by omega) s1) ?_
  rw [Nat.mul_div_cancel _ (Nat.pow_pos (by decide))]
  simp only [vx,T,K5,J0,K6,K7,↓reduceIte,J1,J2,J3,J4,J5,J6,J7,J8,J9,reduceCtorEq,K1,K2,K3,K4]
  refine Va ?_; simp only [vLe,vLeL,rx,Y0,Y1,Y2,Y3,Y4,Y5,Y6,Y7,ren,↓reduceIte,J1,J2,J3,J4,J5,J6,J7,J8,J9,reduceCtorEq,K1,K2,K3,K4]
end Go.Proofs.YtpogdlmhmafjlaaGreat
/-
  Integers and rational numbers by their words.
-/
namespace Go.Eng
def zs (z : Int) : Bool := decide (z < 0)
def zm (z : Int) : List Int := limbs z.natAbs
def zn (z : Int) : Nat := nl z.natAbs
def zof (s : Bool) (n : Nat) : Int := if s then -(n : Int) else n
theorem zs_zof (s : Bool) (n : Nat) : zs (zof s n) = (s && decide (0 < n)) := by
  unfold zs zof
  cases s
  · simp
  simp only [if_true,Bool.true_and]; congr 1; simp only [eq_iff_iff]; omega
theorem zof_natAbs (s : Bool) (n : Nat) : (zof s n).natAbs = n := by unfold zof; split <;> omega
theorem zm_zof (s : Bool) (n : Nat) : zm (zof s n) = limbs n := by unfold zm; rw [zof_natAbs]
theorem zof_self (z : Int) : zof (zs z) z.natAbs = z := by unfold zof zs; simp only [decide_eq_true_eq]; split <;> omega
theorem val_zm (z : Int) : val (zm z) = z.natAbs := val_limbs _
theorem zm_inr (z : Int) : InR (zm z) := InR.limbs _
theorem zm_length (z : Int) : (zm z).length = zn z := rfl
theorem zn_eq_zero {z : Int} : zn z = 0 ↔ z = 0 := by unfold zn; rw [nl_eq_zero]; omega
theorem zm_zero : zm 0 = [] := limbs_zero
theorem zs_true {z : Int} : zs z = true ↔ z < 0 := by unfold zs; simp
theorem zs_false {z : Int} : zs z = false ↔ 0 ≤ z := by unfold zs; simp
theorem add_same {a b : Int} (h : zs a = zs b) : zof (zs a) (a.natAbs + b.natAbs) = a + b := by
  unfold zof zs at *
  have h : a < 0 ↔ b < 0 := by simpa using h
  simp only [decide_eq_true_eq]
  split <;> omega
theorem add_less {a b : Int} (h : zs a ≠ zs b) (hl : a.natAbs ≤ b.natAbs) : zof (zs b) (b.natAbs - a.natAbs) = a + b := by
  unfold zof zs at *
  have h : ¬ (a < 0 ↔ b < 0) := by simpa using h
  simp only [decide_eq_true_eq]
  split <;> omega
theorem add_more {a b : Int} (h : zs a ≠ zs b) (hl : b.natAbs ≤ a.natAbs) : zof (zs a) (a.natAbs - b.natAbs) = a + b := by
  unfold zof zs at *
  have h : ¬ (a < 0 ↔ b < 0) := by simpa using h
  simp only [decide_eq_true_eq]
  split <;> omega
theorem zof_mul (s t : Bool) (m n : Nat) : zof (s != t) (m * n) = zof s m * zof t n := by
  cases s <;> cases t <;> simp [zof, Int.neg_mul, Int.mul_neg]
theorem mul_sign (a b : Int) : zof (zs a != zs b) (a.natAbs * b.natAbs) = a * b := by
  rw [zof_mul, zof_self, zof_self]
theorem neg_sign (a : Int) : zof (!zs a) a.natAbs = -a := by
  unfold zof zs
  simp only [Bool.not_eq_true',decide_eq_false_iff_not]
  split <;> omega
theorem fdiv_unique {a b q r : Int} (h : a = b * q + r) (hr : (0 ≤ r ∧ r < b) ∨ (b < r ∧ r ≤ 0)) : a.fdiv b = q ∧ a.fmod b = r := by
  have hb : b ≠ 0 := by omega
  have e : b * (a.fdiv b) + a.fmod b = a := Int.mul_fdiv_add_fmod a b
  have hm : (0 < b → 0 ≤ a.fmod b ∧ a.fmod b < b) ∧ (b < 0 → b < a.fmod b ∧ a.fmod b ≤ 0) := by
    refine ⟨fun hp => ⟨Int.fmod_nonneg_of_pos a hp, Int.fmod_lt_of_pos a hp⟩, fun hn => ?_⟩
    have h1 : a.fmod b = -((-a).fmod (-b)) := by rw [Int.neg_fmod_neg]; omega
    have h2 := Int.fmod_nonneg_of_pos (-a) (show 0 < -b by omega)
    have h3 := Int.fmod_lt_of_pos (-a) (show 0 < -b by omega)
    omega
  have hq : a.fdiv b = q := by
    generalize a.fdiv b = q' at *
    generalize a.fmod b = r' at *
    have e2 : b * (q - q') = r' - r := by rw [Int.mul_sub]; omega
    rcases Int.lt_or_lt_of_ne hb with hb1 | hb1
    · have := hm.2 hb1
      rcases Int.lt_trichotomy (q - q') 0 with h3 | h3 | h3
      · have : b * (q - q') ≥ b * (-1) := Int.mul_le_mul_of_nonpos_left (by omega) (by omega)
        omega
      · omega
      have : b * (q - q') ≤ b * 1 := Int.mul_le_mul_of_nonpos_left (by omega) (by omega)
      omega
    have := hm.1 hb1
    rcases Int.lt_trichotomy (q - q') 0 with h3 | h3 | h3
    · have : b * (q - q') ≤ b * (-1) := Int.mul_le_mul_of_nonneg_left (by omega) (by omega)
      omega
    · omega
    have : b * 1 ≤ b * (q - q') := Int.mul_le_mul_of_nonneg_left (by omega) (by omega)
    omega
  exact ⟨hq, by rw [hq] at e; omega⟩
theorem divmod_plain {a b : Int} (hb : b ≠ 0) (h : zs a = zs b ∨ a.natAbs % b.natAbs = 0) : zof (zs a != zs b) (a.natAbs / b.natAbs) = a.fdiv b ∧ zof (zs b) (a.natAbs % b.natAbs) = a.fmod b := by
  have e := Nat.div_add_mod a.natAbs b.natAbs
  have l := Nat.mod_lt a.natAbs (show 0 < b.natAbs by omega)
  have ha := zof_self a
  have hb' := zof_self b
  have key := fdiv_unique (a := a) (b := b) (q := zof (zs a != zs b) (a.natAbs / b.natAbs)) (r := zof (zs b) (a.natAbs % b.natAbs)) ?_ ?_
  · exact ⟨key.1.symm, key.2.symm⟩
  · have e' : (a.natAbs : Int) = b.natAbs * (a.natAbs / b.natAbs : Nat) + (a.natAbs % b.natAbs : Nat) := by rw [← Int.natCast_mul, ← X2, e]
    have hr0 : zs a ≠ zs b → ((a.natAbs % b.natAbs : Nat) : Int) = 0 := fun hne => by rcases h with h | h; exact absurd h hne; simp [h]
    have e2 : b * zof (zs a != zs b) (a.natAbs / b.natAbs) = zof (zs b) b.natAbs * zof (zs a != zs b) (a.natAbs / b.natAbs) := by rw [hb']
    rw [e2]
    refine ha.symm.trans ?_
    generalize a.natAbs / b.natAbs = q at *
    generalize a.natAbs % b.natAbs = r at *
    generalize a.natAbs = m at *
    generalize b.natAbs = n at *
    generalize zs a = sa at *
    generalize zs b = sb at *
    cases sa <;> cases sb <;> simp [zof] at hr0 ⊢
    · omega
    · subst hr0; rw [Int.neg_mul_neg]; simp at e' ⊢; omega
    · subst hr0; simp at e' ⊢; rw [Int.mul_neg]; omega
    rw [Int.neg_mul]; omega
  cases hsb : zs b
  · left
    have := zs_false.1 hsb
    simp only [zof,Bool.false_eq_true,if_false]
    omega
  right
  have := zs_true.1 hsb
  simp only [zof,if_true]
  omega
theorem divmod_up {a b : Int} (hb : b ≠ 0) (h : zs a ≠ zs b) (hr : 0 < a.natAbs % b.natAbs) : zof (zs a != zs b) (a.natAbs / b.natAbs + 1) = a.fdiv b ∧ zof (zs b) (b.natAbs - a.natAbs % b.natAbs) = a.fmod b := by
  have e := Nat.div_add_mod a.natAbs b.natAbs
  have l := Nat.mod_lt a.natAbs (show 0 < b.natAbs by omega)
  have ha := zof_self a
  have hb' := zof_self b
  have key := fdiv_unique (a := a) (b := b) (q := zof (zs a != zs b) (a.natAbs / b.natAbs + 1)) (r := zof (zs b) (b.natAbs - a.natAbs % b.natAbs)) ?_ ?_
  · exact ⟨key.1.symm, key.2.symm⟩
  · have e' : (a.natAbs : Int) = b.natAbs * (a.natAbs / b.natAbs : Nat) + (a.natAbs % b.natAbs : Nat) := by rw [← Int.natCast_mul, ← X2, e]
    have e3 : b * zof (zs a != zs b) (a.natAbs / b.natAbs + 1) = zof (zs b) b.natAbs * zof (zs a != zs b) (a.natAbs / b.natAbs + 1) := by rw [hb']
    have e2 : ((b.natAbs - a.natAbs % b.natAbs : Nat) : Int) = b.natAbs - (a.natAbs % b.natAbs : Nat) := by omega
    rw [e3]
    refine ha.symm.trans ?_
    generalize a.natAbs / b.natAbs = q at *
    generalize a.natAbs % b.natAbs = r at *
    generalize a.natAbs = m at *
    generalize b.natAbs = n at *
    generalize zs a = sa at *
    generalize zs b = sb at *
    cases sa <;> cases sb <;> simp [zof] at h ⊢
    · rw [e2, Int.neg_add, Int.mul_add, Int.neg_mul_neg]; omega
    rw [e2, Int.neg_add, Int.mul_add, Int.mul_neg]; omega
  cases hsb : zs b
  · left
    have := zs_false.1 hsb
    simp only [zof,Bool.false_eq_true,if_false]
    omega
  right
  have := zs_true.1 hsb
  simp only [zof,if_true]
  omega
end Go.Eng
/-
  The reference's quotient; sizes; signs.
-/
namespace Go.Eng
def sgn (z : Int) : Int := if z = 0 then 0 else if z < 0 then -1 else 1
theorem zn_mul (a b : Int) : zn (a * b) ≤ zn a + zn b := by unfold zn; rw [Int.natAbs_mul]; exact nl_mul _ _
theorem zn_neg (a : Int) : zn (-a) = zn a := by unfold zn; rw [Int.natAbs_neg]
theorem zn_add (a b : Int) : zn (a + b) ≤ max (zn a) (zn b) + 1 :=
  Nat.le_trans (nl_mono (Int.natAbs_add_le a b)) (nl_add _ _)
theorem zn_zof (s : Bool) (n : Nat) : zn (zof s n) = nl n := by unfold zn; rw [zof_natAbs]
theorem zn_le {a b : Int} (h : a.natAbs ≤ b.natAbs) : zn a ≤ zn b := nl_mono h
theorem sgn_mul_range (x y : Int) : -1 ≤ sgn x * sgn y ∧ sgn x * sgn y ≤ 1 := by
  unfold sgn
  (repeat' split) <;> simp
theorem sgn_mul_neg {x y : Int} : sgn x * sgn y < 0 ↔ (x < 0 ∧ 0 < y) ∨ (0 < x ∧ y < 0) := by
  unfold sgn
  (repeat' split) <;> simp <;> omega
theorem rem_ref (a b : Int) : a - zof (zs a != zs b) (a.natAbs / b.natAbs) * b = zof (zs a) (a.natAbs % b.natAbs) := by
  have e1 : zof (zs a != zs b) (a.natAbs / b.natAbs) * b = zof (zs a) (a.natAbs / b.natAbs * b.natAbs) := by
    have := zof_mul (zs a != zs b) (zs b) (a.natAbs / b.natAbs) b.natAbs
    rw [zof_self b] at this
    rw [← this]
    congr 1
    cases zs a <;> cases zs b <;> rfl
  rw [e1]
  have h := Nat.div_add_mod a.natAbs b.natAbs
  rw [Nat.mul_comm] at h
  generalize a.natAbs / b.natAbs * b.natAbs = p at h ⊢
  generalize a.natAbs % b.natAbs = r at h ⊢
  unfold zof zs
  simp only [decide_eq_true_eq]
  split <;> omega
theorem divmod_ref {a b q r : Int} (h0 : b ≠ 0) (hq : q = zof (zs a != zs b) (a.natAbs / b.natAbs)) (hr : r = a - q * b) :
    (sgn r * sgn b < 0 → q - 1 = a.fdiv b ∧ r + b = a.fmod b) ∧ (¬ sgn r * sgn b < 0 → q = a.fdiv b ∧ r = a.fmod b) := by
  have hl : r.natAbs < b.natAbs := by
    rw [hr, hq, rem_ref, zof_natAbs]; exact Nat.mod_lt _ (by omega)
  rw [sgn_mul_neg]
  refine ⟨fun h => ?_, fun h => ?_⟩
  · have := fdiv_unique (a := a) (b := b) (q := q - 1) (r := r + b) (by rw [Int.mul_sub, hr, Int.mul_comm b q]; omega) (by omega)
    exact ⟨this.1.symm, this.2.symm⟩
  have := fdiv_unique (a := a) (b := b) (q := q) (r := r) (by rw [hr, Int.mul_comm b q]; omega) (by omega)
  exact ⟨this.1.symm, this.2.symm⟩
end Go.Eng
namespace Go.Proofs.YtpogdlmhmafjlaaGreat
open Go Go.Eng
def ZV (z : Int) : V := .agg [.bool (zs z), .ints .u32 (zm z)]
theorem isignedZ (b : Bool) (n : Nat) (hn : nl n < 2 ^ 60) : Pr Tryz.prog 109 [.one (.bool b), .one (.ints .u32 (limbs n))] (ZV (zof b n)) := by
  have h := isigned_spec b (limbs n) (InR.limbs n) (by rw [limbs_length]; omega)
  rw [val_limbs] at h
  unfold ZV
  rw [zs_zof, zm_zof]
  exact h
theorem itrimZ (z : Int) (hz : zn z < 2 ^ 60) : Pr Tryz.prog 111 [.one (.ints .u32 (zm z))] (.one (.ints .u32 (limbs z.natAbs))) := by
  have h := itrim_spec (zm z) (zm_inr z) (by rw [zm_length]; omega)
  rw [val_zm] at h
  exact h
theorem cloneL (n : Nat) (hn : nl n < 2 ^ 40) : Pr Tryz.prog 101 [.one (.ints .u32 (limbs n))] (.one (.ints .u32 (limbs n))) := cloneU_spec _ (by rw [limbs_length]; exact hn)
theorem iFromInt_spec (z : Int) (h1 : -9223372036854775808 ≤ z) (h2 : z ≤ 9223372036854775807) : Pr Tryz.prog 79 [.one (.int .i64 z)] (ZV z) := by
  have hu : z.natAbs < 2 ^ 64 := by omega
  have e0 : zof (decide (z < 0)) z.natAbs = z := zof_self z
  have hn := nl_le_of_lt (n := z.natAbs) (k := 2) (by unfold BB; omega)
  refine pv T_ok mixed Tryz.func79 rfl (by decide) _ (by simp [Tryz.ntmps79]) ⟨[0, 2, 3, 7], []⟩ (by kernel_rfl) _ ?_
  show vc T _ _ (Option.get! Tryz.f79.body) _ _
  simp only [Tryz.f79,Tryz.ntmps79,Option.get!,iS,iM,eO,J1]
  simp only [vx,T,K5,J0,K6,K7,↓reduceIte,J1,J2,J3,J4,J5,J6,J7,J8,J9,reduceCtorEq,K1,K2,K3,K4,ZV]
  refine ⟨fun h => Lg ?_, fun h => Lg ?_⟩
  · have e1 : IntKind.u64.wrap (0 - IntKind.u64.wrap z) = (z.natAbs : Int) := by rw [wrap_u64', wrap_u64']; omega
    simp only [vx,T,K5,J0,K6,K7,↓reduceIte,J1,J2,J3,J4,J5,J6,J7,J8,J9,reduceCtorEq,K1,K2,K3,K4,ZV]
    simp only [e1]
    refine Cg (ifromUint_spec z.natAbs hu) ?_
    simp only [vx,T,K5,J0,K6,K7,↓reduceIte,J1,J2,J3,J4,J5,J6,J7,J8,J9,reduceCtorEq,K1,K2,K3,K4,ZV]
    refine Cg (isignedZ _ z.natAbs (by omega)) ?_
    rw [e0]
    simp only [vx,T,K5,J0,K6,K7,↓reduceIte,J1,J2,J3,J4,J5,J6,J7,J8,J9,reduceCtorEq,K1,K2,K3,K4,ZV]
    refine Va ?_; simp only [vLe,vLeL,rx,Y0,Y1,Y2,Y3,Y4,Y5,Y6,Y7,ren,↓reduceIte,J1,J2,J3,J4,J5,J6,J7,J8,J9,reduceCtorEq,K1,K2,K3,K4,ZV]
  have e1 : IntKind.u64.wrap z = (z.natAbs : Int) := by rw [wrap_u64']; omega
  simp only [vx,T,K5,J0,K6,K7,↓reduceIte,J1,J2,J3,J4,J5,J6,J7,J8,J9,reduceCtorEq,K1,K2,K3,K4,ZV]
  simp only [e1]
  refine Cg (ifromUint_spec z.natAbs hu) ?_
  simp only [vx,T,K5,J0,K6,K7,↓reduceIte,J1,J2,J3,J4,J5,J6,J7,J8,J9,reduceCtorEq,K1,K2,K3,K4,ZV]
  refine Cg (isignedZ _ z.natAbs (by omega)) ?_
  rw [e0]
  simp only [vx,T,K5,J0,K6,K7,↓reduceIte,J1,J2,J3,J4,J5,J6,J7,J8,J9,reduceCtorEq,K1,K2,K3,K4,ZV]
  refine Va ?_; simp only [vLe,vLeL,rx,Y0,Y1,Y2,Y3,Y4,Y5,Y6,Y7,ren,↓reduceIte,J1,J2,J3,J4,J5,J6,J7,J8,J9,reduceCtorEq,K1,K2,K3,K4,ZV]
theorem iMul_spec (a b : Int) (ha : zn a < 2 ^ 38) (hb : zn b < 2 ^ 38) : Pr Tryz.prog 76 [ZV a, ZV b] (ZV (a * b)) := by
  have hm := nl_mul a.natAbs b.natAbs
  unfold zn at ha hb
  refine pv T_ok mixed Tryz.func76 rfl (by decide) _ (by simp [Tryz.ntmps76]) ⟨[0, 1, 2, 3, 4], []⟩ (by kernel_rfl) _ ?_
  show vc T _ _ (Option.get! Tryz.f76.body) _ _
  simp only [Tryz.f76,Tryz.ntmps76,Option.get!,iS,iM,eO,J1]
  simp only [vx,T,K5,J0,K6,K7,↓reduceIte,J1,J2,J3,J4,J5,J6,J7,J8,J9,reduceCtorEq,K1,K2,K3,K4,ZV]
  refine Cg (itrimZ a (by unfold zn; omega)) ?_
  simp only [vx,T,K5,J0,K6,K7,↓reduceIte,J1,J2,J3,J4,J5,J6,J7,J8,J9,reduceCtorEq,K1,K2,K3,K4,ZV]
  refine Cg (itrimZ b (by unfold zn; omega)) ?_
  simp only [vx,T,K5,J0,K6,K7,↓reduceIte,J1,J2,J3,J4,J5,J6,J7,J8,J9,reduceCtorEq,K1,K2,K3,K4,ZV]
  refine Cg (itimes_spec a.natAbs b.natAbs (by omega) (by omega)) ?_
  simp only [vx,T,K5,J0,K6,K7,↓reduceIte,J1,J2,J3,J4,J5,J6,J7,J8,J9,reduceCtorEq,K1,K2,K3,K4,ZV]
  refine Cg (isignedZ _ (a.natAbs * b.natAbs) (by omega)) ?_
  rw [mul_sign]
  simp only [vx,T,K5,J0,K6,K7,↓reduceIte,J1,J2,J3,J4,J5,J6,J7,J8,J9,reduceCtorEq,K1,K2,K3,K4,ZV]
  refine Va ?_; simp only [vLe,vLeL,rx,Y0,Y1,Y2,Y3,Y4,Y5,Y6,Y7,ren,↓reduceIte,J1,J2,J3,J4,J5,J6,J7,J8,J9,reduceCtorEq,K1,K2,K3,K4,ZV]
theorem iAdd_spec (a b : Int) (ha : zn a < 2 ^ 38) (hb : zn b < 2 ^ 38) : Pr Tryz.prog 119 [ZV a, ZV b] (ZV (a + b)) := by
  have hm := nl_add a.natAbs b.natAbs
  unfold zn at ha hb
  refine pv T_ok mixed Tryz.func119 rfl (by decide) _ (by simp [Tryz.ntmps119]) ⟨[0, 1, 2, 3, 4, 5, 6, 17, 27], []⟩ (by kernel_rfl) _ ?_
  show vc T _ _ (Option.get! Tryz.f119.body) _ _
  simp only [Tryz.f119,Tryz.ntmps119,Option.get!,iS,iM,eO,J1]
  simp only [vx,T,K5,J0,K6,K7,↓reduceIte,J1,J2,J3,J4,J5,J6,J7,J8,J9,reduceCtorEq,K1,K2,K3,K4,ZV]
  refine Cg (itrimZ a (by unfold zn; omega)) ?_
  simp only [vx,T,K5,J0,K6,K7,↓reduceIte,J1,J2,J3,J4,J5,J6,J7,J8,J9,reduceCtorEq,K1,K2,K3,K4,ZV]
  refine Cg (itrimZ b (by unfold zn; omega)) ?_
  simp only [vx,T,K5,J0,K6,K7,↓reduceIte,J1,J2,J3,J4,J5,J6,J7,J8,J9,reduceCtorEq,K1,K2,K3,K4,ZV,beq_iff_eq]
  refine ⟨fun h => Lg ?_, fun h => Lg ?_⟩
  · simp only [vx,T,K5,J0,K6,K7,↓reduceIte,J1,J2,J3,J4,J5,J6,J7,J8,J9,reduceCtorEq,K1,K2,K3,K4,ZV]
    refine Cg (iplus_spec a.natAbs b.natAbs (by omega) (by omega)) ?_
    simp only [vx,T,K5,J0,K6,K7,↓reduceIte,J1,J2,J3,J4,J5,J6,J7,J8,J9,reduceCtorEq,K1,K2,K3,K4,ZV]
    refine Cg (isignedZ _ (a.natAbs + b.natAbs) (by omega)) ?_
    rw [add_same h]
    simp only [vx,T,K5,J0,K6,K7,↓reduceIte,J1,J2,J3,J4,J5,J6,J7,J8,J9,reduceCtorEq,K1,K2,K3,K4,ZV]
    refine Va ?_; simp only [vLe,vLeL,rx,Y0,Y1,Y2,Y3,Y4,Y5,Y6,Y7,ren,↓reduceIte,J1,J2,J3,J4,J5,J6,J7,J8,J9,reduceCtorEq,K1,K2,K3,K4,ZV]
  have h := beq_eq_false_iff_ne.1 h
  simp only [vx,T,K5,J0,K6,K7,↓reduceIte,J1,J2,J3,J4,J5,J6,J7,J8,J9,reduceCtorEq,K1,K2,K3,K4,ZV]
  refine Cg (icompare_spec a.natAbs b.natAbs (by omega) (by omega)) ?_
  simp only [vx,T,K5,J0,K6,K7,↓reduceIte,J1,J2,J3,J4,J5,J6,J7,J8,J9,reduceCtorEq,K1,K2,K3,K4,ZV]
  refine ⟨fun h2 => Lg ?_, fun h2 => Lg ?_⟩
  · have h3 := cmpI_neg h2
    simp only [vx,T,K5,J0,K6,K7,↓reduceIte,J1,J2,J3,J4,J5,J6,J7,J8,J9,reduceCtorEq,K1,K2,K3,K4,ZV]
    refine Cg (iminus_spec b.natAbs a.natAbs (by omega) (by omega)) ?_
    simp only [vx,T,K5,J0,K6,K7,↓reduceIte,J1,J2,J3,J4,J5,J6,J7,J8,J9,reduceCtorEq,K1,K2,K3,K4,ZV]
    refine Cg (isignedZ _ (b.natAbs - a.natAbs) (Nat.lt_of_le_of_lt (nl_mono (Nat.sub_le _ _)) (by omega))) ?_
    rw [add_less h (by omega)]
    simp only [vx,T,K5,J0,K6,K7,↓reduceIte,J1,J2,J3,J4,J5,J6,J7,J8,J9,reduceCtorEq,K1,K2,K3,K4,ZV]
    refine Va ?_; simp only [vLe,vLeL,rx,Y0,Y1,Y2,Y3,Y4,Y5,Y6,Y7,ren,↓reduceIte,J1,J2,J3,J4,J5,J6,J7,J8,J9,reduceCtorEq,K1,K2,K3,K4,ZV]
  have h3 := cmpI_nneg h2
  simp only [vx,T,K5,J0,K6,K7,↓reduceIte,J1,J2,J3,J4,J5,J6,J7,J8,J9,reduceCtorEq,K1,K2,K3,K4,ZV]
  refine Cg (iminus_spec a.natAbs b.natAbs (by omega) (by omega)) ?_
  simp only [vx,T,K5,J0,K6,K7,↓reduceIte,J1,J2,J3,J4,J5,J6,J7,J8,J9,reduceCtorEq,K1,K2,K3,K4,ZV]
  refine Cg (isignedZ _ (a.natAbs - b.natAbs) (Nat.lt_of_le_of_lt (nl_mono (Nat.sub_le _ _)) (by omega))) ?_
  rw [add_more h h3]
  simp only [vx,T,K5,J0,K6,K7,↓reduceIte,J1,J2,J3,J4,J5,J6,J7,J8,J9,reduceCtorEq,K1,K2,K3,K4,ZV]
  refine Va ?_; simp only [vLe,vLeL,rx,Y0,Y1,Y2,Y3,Y4,Y5,Y6,Y7,ren,↓reduceIte,J1,J2,J3,J4,J5,J6,J7,J8,J9,reduceCtorEq,K1,K2,K3,K4,ZV]
theorem iSign_spec (a : Int) (ha : zn a < 2 ^ 38) : Pr Tryz.prog 121 [ZV a] (.one (.int .i64 (sgn a))) := by
  refine pv T_ok mixed Tryz.func121 rfl (by decide) _ (by simp [Tryz.ntmps121]) ⟨[0, 1, 2, 3, 9], []⟩ (by kernel_rfl) _ ?_
  show vc T _ _ (Option.get! Tryz.f121.body) _ _
  simp only [Tryz.f121,Tryz.ntmps121,Option.get!,iS,iM,eO,J1]
  simp only [vx,T,K5,J0,K6,K7,↓reduceIte,J1,J2,J3,J4,J5,J6,J7,J8,J9,reduceCtorEq,K1,K2,K3,K4,ZV]
  refine Cg (itrimZ a (by omega)) ?_
  simp only [vx,T,K5,J0,K6,K7,↓reduceIte,J1,J2,J3,J4,J5,J6,J7,J8,J9,reduceCtorEq,K1,K2,K3,K4,ZV]
  refine ⟨fun h => Lg ?_, fun h => Lg ?_⟩
  · have h0 : a = 0 := by have := nl_eq_zero (n := a.natAbs); omega
    simp only [vx,T,K5,J0,K6,K7,↓reduceIte,J1,J2,J3,J4,J5,J6,J7,J8,J9,reduceCtorEq,K1,K2,K3,K4,ZV]
    subst h0
    exact Ve rfl
  have h0 : a ≠ 0 := by rintro rfl; exact h (by simp [nl_zero])
  simp only [vx,T,K5,J0,K6,K7,↓reduceIte,J1,J2,J3,J4,J5,J6,J7,J8,J9,reduceCtorEq,K1,K2,K3,K4,ZV]
  refine ⟨fun h2 => Lg ?_, fun h2 => Lg ?_⟩
  · simp only [vx,T,K5,J0,K6,K7,↓reduceIte,J1,J2,J3,J4,J5,J6,J7,J8,J9,reduceCtorEq,K1,K2,K3,K4,ZV]
    refine Ve ?_
    unfold sgn
    rw [if_neg h0, if_pos (zs_true.1 h2)]
  simp only [vx,T,K5,J0,K6,K7,↓reduceIte,J1,J2,J3,J4,J5,J6,J7,J8,J9,reduceCtorEq,K1,K2,K3,K4,ZV]
  refine Ve ?_
  have := zs_false.1 h2
  unfold sgn
  rw [if_neg h0, if_neg (by omega)]
open Go Go.Eng
theorem nl_mod_lt {a b : Nat} (hb : 0 < b) : nl (a % b) ≤ nl b := nl_mono (Nat.le_of_lt (Nat.mod_lt a hb))
theorem iGCD_spec (a b : Int) (ha : zn a < 2 ^ 38) (hb : zn b < 2 ^ 38) : Pr Tryz.prog 112 [ZV a, ZV b] (ZV (Int.gcd a b)) := by
  have hg : Int.gcd a b = Nat.gcd a.natAbs b.natAbs := rfl
  unfold zn at ha hb
  refine pv T_ok mixed Tryz.func112 rfl (by decide) _ (by simp [Tryz.ntmps112]) ⟨[0, 1, 2, 3, 4, 5, 6, 8, 9, 10, 29, 40, 49], [(9, (.cons 4 [2, 3] (.cons 5 [] .nil .nil) .nil))]⟩ (by kernel_rfl) _ ?_
  show vc T _ _ (Option.get! Tryz.f112.body) _ _
  simp only [Tryz.f112,Tryz.ntmps112,Option.get!,iS,iM,eO,J1]
  simp only [vx,T,K5,J0,K6,K7,↓reduceIte,J1,J2,J3,J4,J5,J6,J7,J8,J9,reduceCtorEq,K1,K2,K3,K4,ZV]
  refine Cg (itrimZ a (by unfold zn; omega)) ?_
  simp only [vx,T,K5,J0,K6,K7,↓reduceIte,J1,J2,J3,J4,J5,J6,J7,J8,J9,reduceCtorEq,K1,K2,K3,K4,ZV]
  refine Cg (itrimZ b (by unfold zn; omega)) ?_
  simp only [vx,T,K5,J0,K6,K7,↓reduceIte,J1,J2,J3,J4,J5,J6,J7,J8,J9,reduceCtorEq,K1,K2,K3,K4,ZV]
  refine Lk (fun y : {y : Nat × Nat // Nat.gcd y.1 y.2 = Nat.gcd a.natAbs b.natAbs ∧ nl y.1 < 2 ^ 38 ∧ nl y.2 < 2 ^ 38} => ⟨[(4, .one (.ptr 3 0)), (5, .one (.ints .u32 (limbs y.1.1))), (6, .one (.ints .u32 (limbs y.1.2)))], [(3, ⟨.var [.bool false, .nil], true⟩)], 4, 57⟩) (fun y => y.1.2) ⟨(a.natAbs, b.natAbs), rfl, ha, hb⟩ ?_ (fun ⟨⟨u, v⟩, e, hu, hv⟩ => ?_)
  · refine Sa ?_; simp only [rx,Y0,Y1,Y2,Y3,Y4,Y5,Y6,Y7,ren,↓reduceIte,J1,J2,J3,J4,J5,J6,J7,J8,J9,reduceCtorEq,K1,K2,K3,K4,Y8,Y9,X2,X3,X4]
  simp only at e hu hv
  simp only [vx,T,K5,J0,K6,K7,↓reduceIte,J1,J2,J3,J4,J5,J6,J7,J8,J9,reduceCtorEq,K1,K2,K3,K4,ZV]
  refine ⟨fun h1 => Lg ?_, fun h1 => Lg ?_⟩
  · simp only [vx,T,K5,J0,K6,K7,↓reduceIte,J1,J2,J3,J4,J5,J6,J7,J8,J9,reduceCtorEq,K1,K2,K3,K4,ZV]
    have hv0 : 0 < v := by
      rcases Nat.eq_zero_or_pos v with h | h
      · subst h
        rw [nl_zero] at *
        omega
      exact h
    refine Cg (idivide_spec u v hv0 (by omega) (by omega)) ?_
    simp only [vx,T,K5,J0,K6,K7,↓reduceIte,J1,J2,J3,J4,J5,J6,J7,J8,J9,reduceCtorEq,K1,K2,K3,K4,ZV]
    refine Lq ⟨(v, u % v), by rw [← e, Nat.gcd_comm u v, Nat.gcd_rec v u, Nat.gcd_comm], hv, Nat.lt_of_le_of_lt (nl_mod_lt hv0) hv⟩ ?_ ?_
    · refine Sa ?_; simp only [rx,Y0,Y1,Y2,Y3,Y4,Y5,Y6,Y7,ren,↓reduceIte,J1,J2,J3,J4,J5,J6,J7,J8,J9,reduceCtorEq,K1,K2,K3,K4,Y8,Y9,X2,X3,X4,ZV]
    exact Nat.mod_lt _ hv0
  simp only [vx,T,K5,J0,K6,K7,↓reduceIte,J1,J2,J3,J4,J5,J6,J7,J8,J9,reduceCtorEq,K1,K2,K3,K4,ZV]
  refine ⟨fun h2 => Lg ?_, fun h2 => Lg ?_⟩
  · simp only [vx,T,K5,J0,K6,K7,↓reduceIte,J1,J2,J3,J4,J5,J6,J7,J8,J9,reduceCtorEq,K1,K2,K3,K4,ZV]
    refine ⟨fun h3 => Lg ?_, fun h3 => Lg ?_⟩
    · simp only [vx,T,K5,J0,K6,K7,↓reduceIte,J1,J2,J3,J4,J5,J6,J7,J8,J9,reduceCtorEq,K1,K2,K3,K4,ZV]
      have hv0 : 0 < v := by
        rcases Nat.eq_zero_or_pos v with h | h
        · subst h
          rw [nl_zero] at *
          omega
        exact h
      refine Cg (idivide_spec u v hv0 (by omega) (by omega)) ?_
      simp only [vx,T,K5,J0,K6,K7,↓reduceIte,J1,J2,J3,J4,J5,J6,J7,J8,J9,reduceCtorEq,K1,K2,K3,K4,ZV]
      refine Lq ⟨(v, u % v), by rw [← e, Nat.gcd_comm u v, Nat.gcd_rec v u, Nat.gcd_comm], hv, Nat.lt_of_le_of_lt (nl_mod_lt hv0) hv⟩ ?_ ?_
      · refine Sa ?_; simp only [rx,Y0,Y1,Y2,Y3,Y4,Y5,Y6,Y7,ren,↓reduceIte,J1,J2,J3,J4,J5,J6,J7,J8,J9,reduceCtorEq,K1,K2,K3,K4,Y8,Y9,X2,X3,X4,ZV]
      exact Nat.mod_lt _ hv0
    simp only [vx,T,K5,J0,K6,K7,↓reduceIte,J1,J2,J3,J4,J5,J6,J7,J8,J9,reduceCtorEq,K1,K2,K3,K4,ZV]
    refine ⟨fun h0 => Lg ?_, fun h0 => Lg ?_⟩
    · have hv0 : v = 0 := nl_eq_zero.1 (by omega)
      subst hv0
      rw [Nat.gcd_zero_right] at e
      simp only [vx,T,K5,J0,K6,K7,↓reduceIte,J1,J2,J3,J4,J5,J6,J7,J8,J9,reduceCtorEq,K1,K2,K3,K4,ZV]
      refine Cg (cloneL u (by omega)) ?_
      simp only [vx,T,K5,J0,K6,K7,↓reduceIte,J1,J2,J3,J4,J5,J6,J7,J8,J9,reduceCtorEq,K1,K2,K3,K4,ZV]
      refine Cg (isignedZ false u (by omega)) ?_
      have e2 : zof false u = ((Int.gcd a b : Nat) : Int) := by rw [hg, ← e]; rfl
      rw [e2]
      simp only [vx,T,K5,J0,K6,K7,↓reduceIte,J1,J2,J3,J4,J5,J6,J7,J8,J9,reduceCtorEq,K1,K2,K3,K4,ZV]
      refine Va ?_; simp only [vLe,vLeL,rx,Y0,Y1,Y2,Y3,Y4,Y5,Y6,Y7,ren,↓reduceIte,J1,J2,J3,J4,J5,J6,J7,J8,J9,reduceCtorEq,K1,K2,K3,K4,ZV]
    have hu2 : u < 2 ^ 64 := by have := nl_le_iff.1 (show nl u ≤ 2 by omega); unfold BB at this; omega
    have hv2 : v < 2 ^ 64 := by have := nl_le_iff.1 (show nl v ≤ 2 by omega); unfold BB at this; omega
    simp only [vx,T,K5,J0,K6,K7,↓reduceIte,J1,J2,J3,J4,J5,J6,J7,J8,J9,reduceCtorEq,K1,K2,K3,K4,ZV]
    refine Cg (itoUint_spec u hu2) ?_
    simp only [vx,T,K5,J0,K6,K7,↓reduceIte,J1,J2,J3,J4,J5,J6,J7,J8,J9,reduceCtorEq,K1,K2,K3,K4,ZV]
    refine Cg (itoUint_spec v hv2) ?_
    simp only [vx,T,K5,J0,K6,K7,↓reduceIte,J1,J2,J3,J4,J5,J6,J7,J8,J9,reduceCtorEq,K1,K2,K3,K4,ZV]
    refine Lk (fun y : {y : Nat × Nat // Nat.gcd y.1 y.2 = Nat.gcd a.natAbs b.natAbs ∧ y.1 < 2 ^ 64 ∧ y.2 < 2 ^ 64} => ⟨[(4, .one (.ptr 3 0)), (9, .one (.int .u64 y.1.1)), (10, .one (.int .u64 y.1.2))], [(3, ⟨.var [.bool false, .nil], true⟩)], 4, 57⟩) (fun y => y.1.2) ⟨(u, v), e, hu2, hv2⟩ ?_ (fun ⟨⟨u, v⟩, e, hu, hv⟩ => ?_)
    · refine Sa ?_; simp only [rx,Y0,Y1,Y2,Y3,Y4,Y5,Y6,Y7,ren,↓reduceIte,J1,J2,J3,J4,J5,J6,J7,J8,J9,reduceCtorEq,K1,K2,K3,K4,Y8,Y9,X2,X3,X4]
    simp only at e hu hv
    simp only [vx,T,K5,J0,K6,K7,↓reduceIte,J1,J2,J3,J4,J5,J6,J7,J8,J9,reduceCtorEq,K1,K2,K3,K4,ZV]
    refine ⟨fun h5 => Lg ?_, fun h5 => Lg ?_⟩
    · simp only [vx,T,K5,J0,K6,K7,↓reduceIte,J1,J2,J3,J4,J5,J6,J7,J8,J9,reduceCtorEq,K1,K2,K3,K4,ZV]
      have e2 : (u : Int).tmod v = ((u % v : Nat) : Int) := rfl
      simp only [e2]
      refine ⟨by omega, by omega, Lq ⟨(v, u % v), by rw [← e, Nat.gcd_comm u v, Nat.gcd_rec v u, Nat.gcd_comm], hv, Nat.lt_trans (Nat.mod_lt u (by omega)) hv⟩ ?_ ?_⟩
      · refine Sa ?_; simp only [rx,Y0,Y1,Y2,Y3,Y4,Y5,Y6,Y7,ren,↓reduceIte,J1,J2,J3,J4,J5,J6,J7,J8,J9,reduceCtorEq,K1,K2,K3,K4,Y8,Y9,X2,X3,X4,ZV]
      exact Nat.mod_lt _ (by omega)
    have hv0 : v = 0 := by omega
    subst hv0
    rw [Nat.gcd_zero_right] at e
    have hn := nl_le_of_lt (n := u) (k := 2) (by unfold BB; omega)
    simp only [vx,T,K5,J0,K6,K7,↓reduceIte,J1,J2,J3,J4,J5,J6,J7,J8,J9,reduceCtorEq,K1,K2,K3,K4,ZV]
    refine Cg (ifromUint_spec u (by omega)) ?_
    simp only [vx,T,K5,J0,K6,K7,↓reduceIte,J1,J2,J3,J4,J5,J6,J7,J8,J9,reduceCtorEq,K1,K2,K3,K4,ZV]
    refine Cg (isignedZ false u (by omega)) ?_
    have e2 : zof false u = ((Int.gcd a b : Nat) : Int) := by rw [hg, ← e]; rfl
    rw [e2]
    simp only [vx,T,K5,J0,K6,K7,↓reduceIte,J1,J2,J3,J4,J5,J6,J7,J8,J9,reduceCtorEq,K1,K2,K3,K4,ZV]
    refine Va ?_; simp only [vLe,vLeL,rx,Y0,Y1,Y2,Y3,Y4,Y5,Y6,Y7,ren,↓reduceIte,J1,J2,J3,J4,J5,J6,J7,J8,J9,reduceCtorEq,K1,K2,K3,K4,ZV]
  simp only [vx,T,K5,J0,K6,K7,↓reduceIte,J1,J2,J3,J4,J5,J6,J7,J8,J9,reduceCtorEq,K1,K2,K3,K4,ZV]
  refine ⟨fun h0 => Lg ?_, fun h0 => Lg ?_⟩
  · have hv0 : v = 0 := nl_eq_zero.1 (by omega)
    subst hv0
    rw [Nat.gcd_zero_right] at e
    simp only [vx,T,K5,J0,K6,K7,↓reduceIte,J1,J2,J3,J4,J5,J6,J7,J8,J9,reduceCtorEq,K1,K2,K3,K4,ZV]
    refine Cg (cloneL u (by omega)) ?_
    simp only [vx,T,K5,J0,K6,K7,↓reduceIte,J1,J2,J3,J4,J5,J6,J7,J8,J9,reduceCtorEq,K1,K2,K3,K4,ZV]
    refine Cg (isignedZ false u (by omega)) ?_
    have e2 : zof false u = ((Int.gcd a b : Nat) : Int) := by rw [hg, ← e]; rfl
    rw [e2]
    simp only [vx,T,K5,J0,K6,K7,↓reduceIte,J1,J2,J3,J4,J5,J6,J7,J8,J9,reduceCtorEq,K1,K2,K3,K4,ZV]
    refine Va ?_; simp only [vLe,vLeL,rx,Y0,Y1,Y2,Y3,Y4,Y5,Y6,Y7,ren,↓reduceIte,J1,J2,J3,J4,J5,J6,J7,J8,J9,reduceCtorEq,K1,K2,K3,K4,ZV]
  have hu2 : u < 2 ^ 64 := by have := nl_le_iff.1 (show nl u ≤ 2 by omega); unfold BB at this; omega
  have hv2 : v < 2 ^ 64 := by have := nl_le_iff.1 (show nl v ≤ 2 by omega); unfold BB at this; omega
  simp only [vx,T,K5,J0,K6,K7,↓reduceIte,J1,J2,J3,J4,J5,J6,J7,J8,J9,reduceCtorEq,K1,K2,K3,K4,ZV]
  refine Cg (itoUint_spec u hu2) ?_
  simp only [vx,T,K5,J0,K6,K7,↓reduceIte,J1,J2,J3,J4,J5,J6,J7,J8,J9,reduceCtorEq,K1,K2,K3,K4,ZV]
  refine Cg (itoUint_spec v hv2) ?_
  simp only [vx,T,K5,J0,K6,K7,↓reduceIte,J1,J2,J3,J4,J5,J6,J7,J8,J9,reduceCtorEq,K1,K2,K3,K4,ZV]
  refine Lk (fun y : {y : Nat × Nat // Nat.gcd y.1 y.2 = Nat.gcd a.natAbs b.natAbs ∧ y.1 < 2 ^ 64 ∧ y.2 < 2 ^ 64} => ⟨[(4, .one (.ptr 3 0)), (9, .one (.int .u64 y.1.1)), (10, .one (.int .u64 y.1.2))], [(3, ⟨.var [.bool false, .nil], true⟩)], 4, 57⟩) (fun y => y.1.2) ⟨(u, v), e, hu2, hv2⟩ ?_ (fun ⟨⟨u, v⟩, e, hu, hv⟩ => ?_)
  · refine Sa ?_; simp only [rx,Y0,Y1,Y2,Y3,Y4,Y5,Y6,Y7,ren,↓reduceIte,J1,J2,J3,J4,J5,J6,J7,J8,J9,reduceCtorEq,K1,K2,K3,K4,Y8,Y9,X2,X3,X4]
  simp only at e hu hv
  simp only [vx,T,K5,J0,K6,K7,↓reduceIte,J1,J2,J3,J4,J5,J6,J7,J8,J9,reduceCtorEq,K1,K2,K3,K4,ZV]
  refine ⟨fun h5 => Lg ?_, fun h5 => Lg ?_⟩
  · simp only [vx,T,K5,J0,K6,K7,↓reduceIte,J1,J2,J3,J4,J5,J6,J7,J8,J9,reduceCtorEq,K1,K2,K3,K4,ZV]
    have e2 : (u : Int).tmod v = ((u % v : Nat) : Int) := rfl
    simp only [e2]
    refine ⟨by omega, by omega, Lq ⟨(v, u % v), by rw [← e, Nat.gcd_comm u v, Nat.gcd_rec v u, Nat.gcd_comm], hv, Nat.lt_trans (Nat.mod_lt u (by omega)) hv⟩ ?_ ?_⟩
    · refine Sa ?_; simp only [rx,Y0,Y1,Y2,Y3,Y4,Y5,Y6,Y7,ren,↓reduceIte,J1,J2,J3,J4,J5,J6,J7,J8,J9,reduceCtorEq,K1,K2,K3,K4,Y8,Y9,X2,X3,X4,ZV]
    exact Nat.mod_lt _ (by omega)
  have hv0 : v = 0 := by omega
  subst hv0
  rw [Nat.gcd_zero_right] at e
  have hn := nl_le_of_lt (n := u) (k := 2) (by unfold BB; omega)
  simp only [vx,T,K5,J0,K6,K7,↓reduceIte,J1,J2,J3,J4,J5,J6,J7,J8,J9,reduceCtorEq,K1,K2,K3,K4,ZV]
  refine Cg (ifromUint_spec u (by omega)) ?_
  simp only [vx,T,K5,J0,K6,K7,↓reduceIte,J1,J2,J3,J4,J5,J6,J7,J8,J9,reduceCtorEq,K1,K2,K3,K4,ZV]
  refine Cg (isignedZ false u (by omega)) ?_
  have e2 : zof false u = ((Int.gcd a b : Nat) : Int) := by rw [hg, ← e]; rfl
  rw [e2]
  simp only [vx,T,K5,J0,K6,K7,↓reduceIte,J1,J2,J3,J4,J5,J6,J7,J8,J9,reduceCtorEq,K1,K2,K3,K4,ZV]
  refine Va ?_; simp only [vLe,vLeL,rx,Y0,Y1,Y2,Y3,Y4,Y5,Y6,Y7,ren,↓reduceIte,J1,J2,J3,J4,J5,J6,J7,J8,J9,reduceCtorEq,K1,K2,K3,K4,ZV]
open Go Go.Eng
def okI (b : Bool) (xs : List Int) : Bool := decide (limbs (val xs) = xs ∧ (b = true → xs ≠ []))
theorem okI_of {b : Bool} {xs : List Int} (h : okI b xs = true) : ∃ z : Int, b = zs z ∧ xs = zm z := by
  unfold okI at h
  simp only [decide_eq_true_eq] at h
  refine ⟨zof b (val xs), ?_, by rw [zm_zof, h.1]⟩
  rw [zs_zof]
  cases b
  · rfl
  have := h.2 rfl
  have h0 : val xs ≠ 0 := fun e => this (by rw [← h.1, e, limbs_zero])
  simp; omega
theorem okI_Z (z : Int) : okI (zs z) (zm z) = true := by
  unfold okI
  simp only [decide_eq_true_eq]
  refine ⟨by rw [val_zm]; rfl, fun h e => ?_⟩
  have : zn z = 0 := by rw [← zm_length, e]; rfl
  have := zn_eq_zero.1 this
  subst this
  cases h
theorem limbs_last {n : Nat} (h : 0 < n) : (limbs n).getD (nl n - 1) 0 ≠ 0 := by
  rw [lG, topW_mod h]
  have := (topW_lt h).1
  omega
theorem okI_nil (b : Bool) : okI b [] = !b := by
  have : limbs (val []) = [] := limbs_zero
  unfold okI
  cases b <;> simp [this]
theorem okI_last {b : Bool} {xs : List Int} (hx : InR xs) (h0 : xs ≠ []) : okI b xs = decide (xs.getD (xs.length - 1) 0 ≠ 0) := by
  unfold okI
  simp only [h0,ne_eq,not_false_eq_true,implies_true,and_true]
  congr 1
  simp only [eq_iff_iff]
  constructor
  · intro h e
    rw [← h, limbs_length] at e
    have hp : 0 < val xs := by
      rcases Nat.eq_zero_or_pos (val xs) with h1 | h1
      · rw [h1, limbs_zero] at h; exact absurd h.symm h0
      exact h1
    exact limbs_last hp e
  intro h
  exact limbs_val_last hx (.inr h)
theorem iValid_spec (b : Bool) (xs : List Int) (hx : InR xs) (hl : xs.length < 2 ^ 40) : Pr Tryz.prog 205 [.agg [.bool b, .ints .u32 xs]] (.one (.bool (okI b xs))) := by
  refine pv T_ok mixed Tryz.func205 rfl (by decide) _ (by simp [Tryz.ntmps205]) ⟨[0, 1, 2, 3], []⟩ (by kernel_rfl) _ ?_
  show vc T _ _ (Option.get! Tryz.f205.body) _ _
  simp only [Tryz.f205,Tryz.ntmps205,Option.get!,iS,iM,eO,J1]
  simp only [vx,T,K5,J0,K6,K7,↓reduceIte,J1,J2,J3,J4,J5,J6,J7,J8,J9,reduceCtorEq,K1,K2,K3,K4]
  refine ⟨fun h1 => Lg ?_, fun h1 => Lg ?_⟩
  · have hx0 : xs = [] := List.length_eq_zero_iff.1 (by omega)
    subst hx0
    simp only [vx,T,K5,J0,K6,K7,↓reduceIte,J1,J2,J3,J4,J5,J6,J7,J8,J9,reduceCtorEq,K1,K2,K3,K4]
    cases b
    · refine ⟨fun h2 => Lg ?_, fun h2 => Lg ?_⟩
      · simp only [vx,T,K5,J0,K6,K7,↓reduceIte,J1,J2,J3,J4,J5,J6,J7,J8,J9,reduceCtorEq,K1,K2,K3,K4]
        refine Ve ?_
        rw [okI_nil]; rfl
      cases h2
    refine ⟨fun h2 => absurd h2 (by decide), fun h2 => Lg ?_⟩
    simp only [vx,T,K5,J0,K6,K7,↓reduceIte,J1,J2,J3,J4,J5,J6,J7,J8,J9,reduceCtorEq,K1,K2,K3,K4]
    refine ⟨fun h3 => absurd h3 (by decide), fun h3 => Lg ?_⟩
    simp only [vx,T,K5,J0,K6,K7,↓reduceIte,J1,J2,J3,J4,J5,J6,J7,J8,J9,reduceCtorEq,K1,K2,K3,K4]
    refine Ve ?_
    rw [okI_nil]; rfl
  have hx0 : xs ≠ [] := by rintro rfl; exact h1 rfl
  simp only [vx,T,K5,J0,K6,K7,↓reduceIte,J1,J2,J3,J4,J5,J6,J7,J8,J9,reduceCtorEq,K1,K2,K3,K4]
  have i1 : IntKind.i64.wrap ((xs.length : Int) - 1) = ((xs.length - 1 : Nat) : Int) := by rw [IntWalk.i64_in _ (by omega)]; omega
  refine ⟨fun h2 => Lg ?_, fun h2 => absurd h2 (by omega)⟩
  simp only [vx,T,K5,J0,K6,K7,↓reduceIte,J1,J2,J3,J4,J5,J6,J7,J8,J9,reduceCtorEq,K1,K2,K3,K4]
  simp (disch := omega) only [lG,← X2,← Int.natCast_mul,Int.toNat_natCast,IntWalk.i64_in,IntWalk.u64_in,wrapBB,fdivBB,true_and,and_true,i1]
  refine ⟨by omega, ?_⟩
  refine Ve ?_
  rw [okI_last hx hx0]
theorem iDivMod_spec (a b : Int) (ha : zn a < 2 ^ 38) (hb : zn b < 2 ^ 38) (h0 : b ≠ 0) : Pr Tryz.prog 153 [ZV a, ZV b] (.tup [ZV (a.fdiv b), ZV (a.fmod b), .one (.int .i64 0)]) := by
  unfold zn at ha hb
  have hbp : 0 < b.natAbs := by omega
  have hbn := nl_pos.2 hbp
  refine pv T_ok mixed Tryz.func153 rfl (by decide) _ (by simp [Tryz.ntmps153]) ⟨[0, 1, 2, 3, 4, 5, 6, 7, 8, 9, 15, 35], []⟩ (by kernel_rfl) _ ?_
  show vc T _ _ (Option.get! Tryz.f153.body) _ _
  simp only [Tryz.f153,Tryz.ntmps153,Option.get!,iS,iM,eO,J1]
  simp only [vx,T,K5,J0,K6,K7,↓reduceIte,J1,J2,J3,J4,J5,J6,J7,J8,J9,reduceCtorEq,K1,K2,K3,K4,ZV]
  refine Cg (itrimZ b (by unfold zn; omega)) ?_
  simp only [vx,T,K5,J0,K6,K7,↓reduceIte,J1,J2,J3,J4,J5,J6,J7,J8,J9,reduceCtorEq,K1,K2,K3,K4,ZV]
  refine ⟨fun h => Lg ?_, fun h => Lg ?_⟩
  · omega
  simp only [vx,T,K5,J0,K6,K7,↓reduceIte,J1,J2,J3,J4,J5,J6,J7,J8,J9,reduceCtorEq,K1,K2,K3,K4,ZV]
  refine Cg (itrimZ a (by unfold zn; omega)) ?_
  simp only [vx,T,K5,J0,K6,K7,↓reduceIte,J1,J2,J3,J4,J5,J6,J7,J8,J9,reduceCtorEq,K1,K2,K3,K4,ZV]
  refine Cg (idivide_spec a.natAbs b.natAbs hbp (by omega) (by omega)) ?_
  have hr := nl_mod_lt (a := a.natAbs) hbp
  have hq : nl (a.natAbs / b.natAbs) ≤ nl a.natAbs := nl_mono (Nat.div_le_self _ _)
  simp only [vx,T,K5,J0,K6,K7,↓reduceIte,J1,J2,J3,J4,J5,J6,J7,J8,J9,reduceCtorEq,K1,K2,K3,K4,ZV]
  refine ⟨fun h1 => Lg ?_, fun h1 => Lg ?_⟩
  · simp only [vx,T,K5,J0,K6,K7,↓reduceIte,J1,J2,J3,J4,J5,J6,J7,J8,J9,reduceCtorEq,K1,K2,K3,K4,ZV]
    refine ⟨fun h2 => Lg ?_, fun h2 => Lg ?_⟩
    · simp only [vx,T,K5,J0,K6,K7,↓reduceIte,J1,J2,J3,J4,J5,J6,J7,J8,J9,reduceCtorEq,K1,K2,K3,K4,ZV]
      have l1 : limbs 1 = [1] := by rw [limbs_pos (by decide), show (1 : Nat) / BB = 0 by decide, limbs_zero]; rfl
      rw [← l1]
      have hp := nl_add (a.natAbs / b.natAbs) 1
      have n1 : nl 1 = 1 := by unfold nl; rw [l1]; rfl
      refine Cg (iplus_spec (a.natAbs / b.natAbs) 1 (by omega) (by omega)) ?_
      simp only [vx,T,K5,J0,K6,K7,↓reduceIte,J1,J2,J3,J4,J5,J6,J7,J8,J9,reduceCtorEq,K1,K2,K3,K4,ZV]
      refine Cg (iminus_spec b.natAbs (a.natAbs % b.natAbs) (Nat.le_of_lt (Nat.mod_lt _ hbp)) (by omega)) ?_
      have key := divmod_up (a := a) (b := b) h0 h1 (nl_pos.1 (by omega))
      simp only [vx,T,K5,J0,K6,K7,↓reduceIte,J1,J2,J3,J4,J5,J6,J7,J8,J9,reduceCtorEq,K1,K2,K3,K4,ZV]
      refine Cg (isignedZ _ (a.natAbs / b.natAbs + 1) (by omega)) ?_
      rw [key.1]
      simp only [vx,T,K5,J0,K6,K7,↓reduceIte,J1,J2,J3,J4,J5,J6,J7,J8,J9,reduceCtorEq,K1,K2,K3,K4,ZV]
      refine Cg (isignedZ _ (b.natAbs - a.natAbs % b.natAbs) (Nat.lt_of_le_of_lt (nl_mono (Nat.sub_le _ _)) (by omega))) ?_
      rw [key.2]
      simp only [vx,T,K5,J0,K6,K7,↓reduceIte,J1,J2,J3,J4,J5,J6,J7,J8,J9,reduceCtorEq,K1,K2,K3,K4,ZV]
      refine Va ?_; simp only [vLe,vLeL,rx,Y0,Y1,Y2,Y3,Y4,Y5,Y6,Y7,ren,↓reduceIte,J1,J2,J3,J4,J5,J6,J7,J8,J9,reduceCtorEq,K1,K2,K3,K4,ZV]
    simp only [vx,T,K5,J0,K6,K7,↓reduceIte,J1,J2,J3,J4,J5,J6,J7,J8,J9,reduceCtorEq,K1,K2,K3,K4,ZV]
    have key := divmod_plain (a := a) (b := b) h0 (.inr (nl_eq_zero.1 (by omega)))
    refine Cg (isignedZ _ (a.natAbs / b.natAbs) (by omega)) ?_
    rw [key.1]
    simp only [vx,T,K5,J0,K6,K7,↓reduceIte,J1,J2,J3,J4,J5,J6,J7,J8,J9,reduceCtorEq,K1,K2,K3,K4,ZV]
    refine Cg (isignedZ _ (a.natAbs % b.natAbs) (by omega)) ?_
    rw [key.2]
    simp only [vx,T,K5,J0,K6,K7,↓reduceIte,J1,J2,J3,J4,J5,J6,J7,J8,J9,reduceCtorEq,K1,K2,K3,K4,ZV]
    refine Va ?_; simp only [vLe,vLeL,rx,Y0,Y1,Y2,Y3,Y4,Y5,Y6,Y7,ren,↓reduceIte,J1,J2,J3,J4,J5,J6,J7,J8,J9,reduceCtorEq,K1,K2,K3,K4,ZV]
  simp only [vx,T,K5,J0,K6,K7,↓reduceIte,J1,J2,J3,J4,J5,J6,J7,J8,J9,reduceCtorEq,K1,K2,K3,K4,ZV]
  have key := divmod_plain (a := a) (b := b) h0 (.inl (by simpa using h1))
  refine Cg (isignedZ _ (a.natAbs / b.natAbs) (by omega)) ?_
  rw [key.1]
  simp only [vx,T,K5,J0,K6,K7,↓reduceIte,J1,J2,J3,J4,J5,J6,J7,J8,J9,reduceCtorEq,K1,K2,K3,K4,ZV]
  refine Cg (isignedZ _ (a.natAbs % b.natAbs) (by omega)) ?_
  rw [key.2]
  simp only [vx,T,K5,J0,K6,K7,↓reduceIte,J1,J2,J3,J4,J5,J6,J7,J8,J9,reduceCtorEq,K1,K2,K3,K4,ZV]
  refine Va ?_; simp only [vLe,vLeL,rx,Y0,Y1,Y2,Y3,Y4,Y5,Y6,Y7,ren,↓reduceIte,J1,J2,J3,J4,J5,J6,J7,J8,J9,reduceCtorEq,K1,K2,K3,K4,ZV]
open Go Go.Eng
theorem rsignedZ (b : Bool) (n : Nat) (hn : nl n < 2 ^ 60) : Pr Tryz.prog 56 [.one (.bool b), .one (.ints .u32 (limbs n))] (ZV (zof b n)) := by
  have h := rsigned_spec b (limbs n) (InR.limbs n) (by rw [limbs_length]; omega)
  rw [val_limbs] at h
  unfold ZV
  rw [zs_zof, zm_zof]
  exact h
theorem rtrimZ (z : Int) (hz : zn z < 2 ^ 60) : Pr Tryz.prog 60 [.one (.ints .u32 (zm z))] (.one (.ints .u32 (limbs z.natAbs))) := by
  have h := rtrim_spec (zm z) (zm_inr z) (by rw [zm_length]; omega)
  rw [val_zm] at h
  exact h
theorem zm_eq (z : Int) : zm z = limbs z.natAbs := rfl
theorem rFromInt_spec (z : Int) (h1 : -9223372036854775808 ≤ z) (h2 : z ≤ 9223372036854775807) : Pr Tryz.prog 41 [.one (.int .i64 z)] (ZV z) := by
  have hu : z.natAbs < 2 ^ 64 := by omega
  have e0 : zof (decide (z < 0)) z.natAbs = z := zof_self z
  have hn := nl_le_of_lt (n := z.natAbs) (k := 2) (by unfold BB; omega)
  refine pv T_ok mixed Tryz.func41 rfl (by decide) _ (by simp [Tryz.ntmps41]) ⟨[0, 2, 4], []⟩ (by kernel_rfl) _ ?_
  show vc T _ _ (Option.get! Tryz.f41.body) _ _
  simp only [Tryz.f41,Tryz.ntmps41,Option.get!,iS,iM,eO,J1]
  simp only [vx,T,K5,J0,K6,K7,↓reduceIte,J1,J2,J3,J4,J5,J6,J7,J8,J9,reduceCtorEq,K1,K2,K3,K4,ZV]
  refine ⟨fun h => Lg ?_, fun h => Lg ?_⟩
  · have e1 : IntKind.u64.wrap (0 - IntKind.u64.wrap z) = (z.natAbs : Int) := by rw [wrap_u64', wrap_u64']; omega
    simp only [vx,T,K5,J0,K6,K7,↓reduceIte,J1,J2,J3,J4,J5,J6,J7,J8,J9,reduceCtorEq,K1,K2,K3,K4,ZV]
    simp only [e1]
    refine Cg (rwords_spec z.natAbs hu) ?_
    simp only [vx,T,K5,J0,K6,K7,↓reduceIte,J1,J2,J3,J4,J5,J6,J7,J8,J9,reduceCtorEq,K1,K2,K3,K4,ZV]
    have e2 : zof true z.natAbs = z := by rw [← e0, zof_natAbs]; simp [h]
    refine Cg (rsignedZ _ z.natAbs (by omega)) ?_
    rw [e2]
    simp only [vx,T,K5,J0,K6,K7,↓reduceIte,J1,J2,J3,J4,J5,J6,J7,J8,J9,reduceCtorEq,K1,K2,K3,K4,ZV]
    refine Va ?_; simp only [vLe,vLeL,rx,Y0,Y1,Y2,Y3,Y4,Y5,Y6,Y7,ren,↓reduceIte,J1,J2,J3,J4,J5,J6,J7,J8,J9,reduceCtorEq,K1,K2,K3,K4,ZV]
  have e1 : IntKind.u64.wrap z = (z.natAbs : Int) := by rw [wrap_u64']; omega
  simp only [vx,T,K5,J0,K6,K7,↓reduceIte,J1,J2,J3,J4,J5,J6,J7,J8,J9,reduceCtorEq,K1,K2,K3,K4,ZV]
  simp only [e1]
  refine Cg (rwords_spec z.natAbs hu) ?_
  simp only [vx,T,K5,J0,K6,K7,↓reduceIte,J1,J2,J3,J4,J5,J6,J7,J8,J9,reduceCtorEq,K1,K2,K3,K4,ZV]
  have e2 : zof false z.natAbs = z := by rw [← e0, zof_natAbs]; simp [h]
  refine Cg (rsignedZ _ z.natAbs (by omega)) ?_
  rw [e2]
  simp only [vx,T,K5,J0,K6,K7,↓reduceIte,J1,J2,J3,J4,J5,J6,J7,J8,J9,reduceCtorEq,K1,K2,K3,K4,ZV]
  refine Va ?_; simp only [vLe,vLeL,rx,Y0,Y1,Y2,Y3,Y4,Y5,Y6,Y7,ren,↓reduceIte,J1,J2,J3,J4,J5,J6,J7,J8,J9,reduceCtorEq,K1,K2,K3,K4,ZV]
theorem rNorm_spec (a : Int) (ha : zn a < 2 ^ 59) : Pr Tryz.prog 55 [ZV a] (ZV a) := by
  refine pv T_ok mixed Tryz.func55 rfl (by decide) _ (by simp [Tryz.ntmps55]) ⟨[0, 1, 2], []⟩ (by kernel_rfl) _ ?_
  show vc T _ _ (Option.get! Tryz.f55.body) _ _
  simp only [Tryz.f55,Tryz.ntmps55,Option.get!,iS,iM,eO,J1]
  simp only [vx,T,K5,J0,K6,K7,↓reduceIte,J1,J2,J3,J4,J5,J6,J7,J8,J9,reduceCtorEq,K1,K2,K3,K4,ZV]
  simp only [zm_eq]
  refine Cg (rsignedZ (zs a) a.natAbs (by unfold zn at ha; omega)) ?_
  rw [zof_self]
  simp only [vx,T,K5,J0,K6,K7,↓reduceIte,J1,J2,J3,J4,J5,J6,J7,J8,J9,reduceCtorEq,K1,K2,K3,K4,ZV]
  refine Va ?_; simp only [vLe,vLeL,rx,Y0,Y1,Y2,Y3,Y4,Y5,Y6,Y7,ren,↓reduceIte,J1,J2,J3,J4,J5,J6,J7,J8,J9,reduceCtorEq,K1,K2,K3,K4,ZV,zm_eq]
theorem rSign_spec (a : Int) (ha : zn a < 2 ^ 59) : Pr Tryz.prog 54 [ZV a] (.one (.int .i64 (sgn a))) := by
  refine pv T_ok mixed Tryz.func54 rfl (by decide) _ (by simp [Tryz.ntmps54]) ⟨[0, 1, 2, 8, 10], []⟩ (by kernel_rfl) _ ?_
  show vc T _ _ (Option.get! Tryz.f54.body) _ _
  simp only [Tryz.f54,Tryz.ntmps54,Option.get!,iS,iM,eO,J1]
  simp only [vx,T,K5,J0,K6,K7,↓reduceIte,J1,J2,J3,J4,J5,J6,J7,J8,J9,reduceCtorEq,K1,K2,K3,K4,ZV]
  refine Cg (rNorm_spec a ha) ?_
  simp only [vx,T,K5,J0,K6,K7,↓reduceIte,J1,J2,J3,J4,J5,J6,J7,J8,J9,reduceCtorEq,K1,K2,K3,K4,ZV]
  refine ⟨fun h => Lg ?_, fun h => Lg ?_⟩
  · have h0 : a = 0 := zn_eq_zero.1 (by rw [zm_length] at h; omega)
    simp only [vx,T,K5,J0,K6,K7,↓reduceIte,J1,J2,J3,J4,J5,J6,J7,J8,J9,reduceCtorEq,K1,K2,K3,K4,ZV]
    subst h0
    exact Ve rfl
  have h0 : a ≠ 0 := by rintro rfl; exact h (by rw [zm_zero]; rfl)
  simp only [vx,T,K5,J0,K6,K7,↓reduceIte,J1,J2,J3,J4,J5,J6,J7,J8,J9,reduceCtorEq,K1,K2,K3,K4,ZV]
  refine ⟨fun h2 => Lg ?_, fun h2 => Lg ?_⟩
  · simp only [vx,T,K5,J0,K6,K7,↓reduceIte,J1,J2,J3,J4,J5,J6,J7,J8,J9,reduceCtorEq,K1,K2,K3,K4,ZV]
    refine Ve ?_
    unfold sgn
    rw [if_neg h0, if_pos (zs_true.1 h2)]
  simp only [vx,T,K5,J0,K6,K7,↓reduceIte,J1,J2,J3,J4,J5,J6,J7,J8,J9,reduceCtorEq,K1,K2,K3,K4,ZV]
  refine Ve ?_
  have := zs_false.1 h2
  unfold sgn
  rw [if_neg h0, if_neg (by omega)]
theorem rNeg_spec (a : Int) (ha : zn a < 2 ^ 59) : Pr Tryz.prog 123 [ZV a] (ZV (-a)) := by
  refine pv T_ok mixed Tryz.func123 rfl (by decide) _ (by simp [Tryz.ntmps123]) ⟨[0, 1, 2], []⟩ (by kernel_rfl) _ ?_
  show vc T _ _ (Option.get! Tryz.f123.body) _ _
  simp only [Tryz.f123,Tryz.ntmps123,Option.get!,iS,iM,eO,J1]
  simp only [vx,T,K5,J0,K6,K7,↓reduceIte,J1,J2,J3,J4,J5,J6,J7,J8,J9,reduceCtorEq,K1,K2,K3,K4,ZV]
  simp only [zm_eq]
  refine Cg (rsignedZ _ a.natAbs (by unfold zn at ha; omega)) ?_
  rw [neg_sign]
  simp only [vx,T,K5,J0,K6,K7,↓reduceIte,J1,J2,J3,J4,J5,J6,J7,J8,J9,reduceCtorEq,K1,K2,K3,K4,ZV]
  refine Va ?_; simp only [vLe,vLeL,rx,Y0,Y1,Y2,Y3,Y4,Y5,Y6,Y7,ren,↓reduceIte,J1,J2,J3,J4,J5,J6,J7,J8,J9,reduceCtorEq,K1,K2,K3,K4,ZV,zm_eq]
theorem rMul_spec (a b : Int) (ha : zn a < 2 ^ 38) (hb : zn b < 2 ^ 38) : Pr Tryz.prog 21 [ZV a, ZV b] (ZV (a * b)) := by
  have hm := nl_mul a.natAbs b.natAbs
  unfold zn at ha hb
  refine pv T_ok mixed Tryz.func21 rfl (by decide) _ (by simp [Tryz.ntmps21]) ⟨[0, 1, 2, 3, 4], []⟩ (by kernel_rfl) _ ?_
  show vc T _ _ (Option.get! Tryz.f21.body) _ _
  simp only [Tryz.f21,Tryz.ntmps21,Option.get!,iS,iM,eO,J1]
  simp only [vx,T,K5,J0,K6,K7,↓reduceIte,J1,J2,J3,J4,J5,J6,J7,J8,J9,reduceCtorEq,K1,K2,K3,K4,ZV]
  refine Cg (rNorm_spec a (by unfold zn; omega)) ?_
  simp only [vx,T,K5,J0,K6,K7,↓reduceIte,J1,J2,J3,J4,J5,J6,J7,J8,J9,reduceCtorEq,K1,K2,K3,K4,ZV]
  refine Cg (rNorm_spec b (by unfold zn; omega)) ?_
  simp only [vx,T,K5,J0,K6,K7,↓reduceIte,J1,J2,J3,J4,J5,J6,J7,J8,J9,reduceCtorEq,K1,K2,K3,K4,ZV]
  simp only [zm_eq]
  refine Cg (rtimes_spec a.natAbs b.natAbs (by omega) (by omega)) ?_
  simp only [vx,T,K5,J0,K6,K7,↓reduceIte,J1,J2,J3,J4,J5,J6,J7,J8,J9,reduceCtorEq,K1,K2,K3,K4,ZV]
  refine Cg (rsignedZ _ (a.natAbs * b.natAbs) (by omega)) ?_
  rw [mul_sign]
  simp only [vx,T,K5,J0,K6,K7,↓reduceIte,J1,J2,J3,J4,J5,J6,J7,J8,J9,reduceCtorEq,K1,K2,K3,K4,ZV]
  refine Va ?_; simp only [vLe,vLeL,rx,Y0,Y1,Y2,Y3,Y4,Y5,Y6,Y7,ren,↓reduceIte,J1,J2,J3,J4,J5,J6,J7,J8,J9,reduceCtorEq,K1,K2,K3,K4,ZV,zm_eq]
theorem rAdd_spec (a b : Int) (ha : zn a < 2 ^ 39) (hb : zn b < 2 ^ 39) : Pr Tryz.prog 19 [ZV a, ZV b] (ZV (a + b)) := by
  have hm := nl_add a.natAbs b.natAbs
  unfold zn at ha hb
  refine pv T_ok mixed Tryz.func19 rfl (by decide) _ (by simp [Tryz.ntmps19]) ⟨[0, 1, 2, 3, 4, 13, 27], []⟩ (by kernel_rfl) _ ?_
  show vc T _ _ (Option.get! Tryz.f19.body) _ _
  simp only [Tryz.f19,Tryz.ntmps19,Option.get!,iS,iM,eO,J1]
  simp only [vx,T,K5,J0,K6,K7,↓reduceIte,J1,J2,J3,J4,J5,J6,J7,J8,J9,reduceCtorEq,K1,K2,K3,K4,ZV]
  refine Cg (rNorm_spec a (by unfold zn; omega)) ?_
  simp only [vx,T,K5,J0,K6,K7,↓reduceIte,J1,J2,J3,J4,J5,J6,J7,J8,J9,reduceCtorEq,K1,K2,K3,K4,ZV]
  refine Cg (rNorm_spec b (by unfold zn; omega)) ?_
  simp only [vx,T,K5,J0,K6,K7,↓reduceIte,J1,J2,J3,J4,J5,J6,J7,J8,J9,reduceCtorEq,K1,K2,K3,K4,ZV,beq_iff_eq]
  refine ⟨fun h => Lg ?_, fun h => Lg ?_⟩
  · simp only [vx,T,K5,J0,K6,K7,↓reduceIte,J1,J2,J3,J4,J5,J6,J7,J8,J9,reduceCtorEq,K1,K2,K3,K4,ZV]
    simp only [zm_eq]
    refine Cg (rplus_spec a.natAbs b.natAbs (by omega) (by omega)) ?_
    simp only [vx,T,K5,J0,K6,K7,↓reduceIte,J1,J2,J3,J4,J5,J6,J7,J8,J9,reduceCtorEq,K1,K2,K3,K4,ZV]
    refine Cg (rsignedZ _ (a.natAbs + b.natAbs) (by omega)) ?_
    rw [add_same h]
    simp only [vx,T,K5,J0,K6,K7,↓reduceIte,J1,J2,J3,J4,J5,J6,J7,J8,J9,reduceCtorEq,K1,K2,K3,K4,ZV]
    refine Va ?_; simp only [vLe,vLeL,rx,Y0,Y1,Y2,Y3,Y4,Y5,Y6,Y7,ren,↓reduceIte,J1,J2,J3,J4,J5,J6,J7,J8,J9,reduceCtorEq,K1,K2,K3,K4,ZV,zm_eq]
  have h := beq_eq_false_iff_ne.1 h
  simp only [vx,T,K5,J0,K6,K7,↓reduceIte,J1,J2,J3,J4,J5,J6,J7,J8,J9,reduceCtorEq,K1,K2,K3,K4,ZV]
  simp only [zm_eq]
  refine Cg (rcompare_spec a.natAbs b.natAbs (by omega) (by omega)) ?_
  simp only [vx,T,K5,J0,K6,K7,↓reduceIte,J1,J2,J3,J4,J5,J6,J7,J8,J9,reduceCtorEq,K1,K2,K3,K4,ZV]
  refine ⟨fun h2 => Lg ?_, fun h2 => Lg ?_⟩
  · have h3 : b.natAbs ≤ a.natAbs := cmpI_nneg (by omega)
    simp only [vx,T,K5,J0,K6,K7,↓reduceIte,J1,J2,J3,J4,J5,J6,J7,J8,J9,reduceCtorEq,K1,K2,K3,K4,ZV]
    refine Cg (rminus_spec a.natAbs b.natAbs (by omega) (by omega)) ?_
    simp only [vx,T,K5,J0,K6,K7,↓reduceIte,J1,J2,J3,J4,J5,J6,J7,J8,J9,reduceCtorEq,K1,K2,K3,K4,ZV]
    refine Cg (rsignedZ _ (a.natAbs - b.natAbs) (Nat.lt_of_le_of_lt (nl_mono (Nat.sub_le _ _)) (by omega))) ?_
    rw [add_more h h3]
    simp only [vx,T,K5,J0,K6,K7,↓reduceIte,J1,J2,J3,J4,J5,J6,J7,J8,J9,reduceCtorEq,K1,K2,K3,K4,ZV]
    refine Va ?_; simp only [vLe,vLeL,rx,Y0,Y1,Y2,Y3,Y4,Y5,Y6,Y7,ren,↓reduceIte,J1,J2,J3,J4,J5,J6,J7,J8,J9,reduceCtorEq,K1,K2,K3,K4,ZV,zm_eq]
  have h3 : a.natAbs < b.natAbs := cmpI_neg (by omega)
  simp only [vx,T,K5,J0,K6,K7,↓reduceIte,J1,J2,J3,J4,J5,J6,J7,J8,J9,reduceCtorEq,K1,K2,K3,K4,ZV]
  refine Cg (rminus_spec b.natAbs a.natAbs (by omega) (by omega)) ?_
  simp only [vx,T,K5,J0,K6,K7,↓reduceIte,J1,J2,J3,J4,J5,J6,J7,J8,J9,reduceCtorEq,K1,K2,K3,K4,ZV]
  refine Cg (rsignedZ _ (b.natAbs - a.natAbs) (Nat.lt_of_le_of_lt (nl_mono (Nat.sub_le _ _)) (by omega))) ?_
  rw [add_less h (by omega)]
  simp only [vx,T,K5,J0,K6,K7,↓reduceIte,J1,J2,J3,J4,J5,J6,J7,J8,J9,reduceCtorEq,K1,K2,K3,K4,ZV]
  refine Va ?_; simp only [vLe,vLeL,rx,Y0,Y1,Y2,Y3,Y4,Y5,Y6,Y7,ren,↓reduceIte,J1,J2,J3,J4,J5,J6,J7,J8,J9,reduceCtorEq,K1,K2,K3,K4,ZV,zm_eq]
theorem rSub_spec (a b : Int) (ha : zn a < 2 ^ 39) (hb : zn b < 2 ^ 39) : Pr Tryz.prog 97 [ZV a, ZV b] (ZV (a - b)) := by
  refine pv T_ok mixed Tryz.func97 rfl (by decide) _ (by simp [Tryz.ntmps97]) ⟨[0, 1, 2, 3, 4], []⟩ (by kernel_rfl) _ ?_
  show vc T _ _ (Option.get! Tryz.f97.body) _ _
  simp only [Tryz.f97,Tryz.ntmps97,Option.get!,iS,iM,eO,J1]
  simp only [vx,T,K5,J0,K6,K7,↓reduceIte,J1,J2,J3,J4,J5,J6,J7,J8,J9,reduceCtorEq,K1,K2,K3,K4,ZV]
  refine Cg (rNeg_spec b (by omega)) ?_
  simp only [vx,T,K5,J0,K6,K7,↓reduceIte,J1,J2,J3,J4,J5,J6,J7,J8,J9,reduceCtorEq,K1,K2,K3,K4,ZV]
  refine Cg (rAdd_spec a (-b) (by omega) (by rw [zn_neg]; omega)) ?_
  rw [← Int.sub_eq_add_neg]
  simp only [vx,T,K5,J0,K6,K7,↓reduceIte,J1,J2,J3,J4,J5,J6,J7,J8,J9,reduceCtorEq,K1,K2,K3,K4,ZV]
  refine Va ?_; simp only [vLe,vLeL,rx,Y0,Y1,Y2,Y3,Y4,Y5,Y6,Y7,ren,↓reduceIte,J1,J2,J3,J4,J5,J6,J7,J8,J9,reduceCtorEq,K1,K2,K3,K4,ZV]
theorem rGCD_spec (a b : Int) (ha : zn a < 2 ^ 38) (hb : zn b < 2 ^ 38) : Pr Tryz.prog 20 [ZV a, ZV b] (ZV (Int.gcd a b)) := by
  have hg : Int.gcd a b = Nat.gcd a.natAbs b.natAbs := rfl
  unfold zn at ha hb
  refine pv T_ok mixed Tryz.func20 rfl (by decide) _ (by simp [Tryz.ntmps20]) ⟨[0, 1, 2, 3, 4, 5, 6, 8, 17], []⟩ (by kernel_rfl) _ ?_
  show vc T _ _ (Option.get! Tryz.f20.body) _ _
  simp only [Tryz.f20,Tryz.ntmps20,Option.get!,iS,iM,eO,J1]
  simp only [vx,T,K5,J0,K6,K7,↓reduceIte,J1,J2,J3,J4,J5,J6,J7,J8,J9,reduceCtorEq,K1,K2,K3,K4,ZV]
  refine Cg (rtrimZ a (by unfold zn; omega)) ?_
  simp only [vx,T,K5,J0,K6,K7,↓reduceIte,J1,J2,J3,J4,J5,J6,J7,J8,J9,reduceCtorEq,K1,K2,K3,K4,ZV]
  refine Cg (rtrimZ b (by unfold zn; omega)) ?_
  simp only [vx,T,K5,J0,K6,K7,↓reduceIte,J1,J2,J3,J4,J5,J6,J7,J8,J9,reduceCtorEq,K1,K2,K3,K4,ZV]
  refine Lk (fun y : {y : Nat × Nat // Nat.gcd y.1 y.2 = Nat.gcd a.natAbs b.natAbs ∧ nl y.1 < 2 ^ 38 ∧ nl y.2 < 2 ^ 38} => ⟨[(4, .one (.ptr 3 0)), (5, .one (.ints .u32 (limbs y.1.1))), (6, .one (.ints .u32 (limbs y.1.2)))], [(3, ⟨.var [.bool false, .nil], true⟩)], 4, 28⟩) (fun y => y.1.2) ⟨(a.natAbs, b.natAbs), rfl, ha, hb⟩ ?_ (fun ⟨⟨u, v⟩, e, hu, hv⟩ => ?_)
  · refine Sa ?_; simp only [rx,Y0,Y1,Y2,Y3,Y4,Y5,Y6,Y7,ren,↓reduceIte,J1,J2,J3,J4,J5,J6,J7,J8,J9,reduceCtorEq,K1,K2,K3,K4,Y8,Y9,X2,X3,X4]
  simp only at e hu hv
  simp only [vx,T,K5,J0,K6,K7,↓reduceIte,J1,J2,J3,J4,J5,J6,J7,J8,J9,reduceCtorEq,K1,K2,K3,K4,ZV]
  refine ⟨fun h1 => Lg ?_, fun h1 => Lg ?_⟩
  · have hv0 : 0 < v := nl_pos.1 (by omega)
    simp only [vx,T,K5,J0,K6,K7,↓reduceIte,J1,J2,J3,J4,J5,J6,J7,J8,J9,reduceCtorEq,K1,K2,K3,K4,ZV]
    refine Cg (rdivide_spec u v hv0 (by omega) (by omega)) ?_
    simp only [vx,T,K5,J0,K6,K7,↓reduceIte,J1,J2,J3,J4,J5,J6,J7,J8,J9,reduceCtorEq,K1,K2,K3,K4,ZV]
    refine Lq ⟨(v, u % v), by rw [← e, Nat.gcd_comm u v, Nat.gcd_rec v u, Nat.gcd_comm], hv, Nat.lt_of_le_of_lt (nl_mod_lt hv0) hv⟩ ?_ ?_
    · refine Sa ?_; simp only [rx,Y0,Y1,Y2,Y3,Y4,Y5,Y6,Y7,ren,↓reduceIte,J1,J2,J3,J4,J5,J6,J7,J8,J9,reduceCtorEq,K1,K2,K3,K4,Y8,Y9,X2,X3,X4,ZV]
    exact Nat.mod_lt _ hv0
  have hv0 : v = 0 := nl_eq_zero.1 (by omega)
  subst hv0
  rw [Nat.gcd_zero_right] at e
  simp only [vx,T,K5,J0,K6,K7,↓reduceIte,J1,J2,J3,J4,J5,J6,J7,J8,J9,reduceCtorEq,K1,K2,K3,K4,ZV]
  refine Cg (rsignedZ false u (by omega)) ?_
  have e2 : zof false u = ((Int.gcd a b : Nat) : Int) := by rw [hg, ← e]; rfl
  rw [e2]
  simp only [vx,T,K5,J0,K6,K7,↓reduceIte,J1,J2,J3,J4,J5,J6,J7,J8,J9,reduceCtorEq,K1,K2,K3,K4,ZV]
  refine Va ?_; simp only [vLe,vLeL,rx,Y0,Y1,Y2,Y3,Y4,Y5,Y6,Y7,ren,↓reduceIte,J1,J2,J3,J4,J5,J6,J7,J8,J9,reduceCtorEq,K1,K2,K3,K4,ZV]
theorem limbs_len {xs : List Int} (hx : InR xs) : limbs (val xs) = xs ↔ nl (val xs) = xs.length := by
  refine ⟨fun h => by unfold nl; rw [h], fun h => ?_⟩
  have h3 := dig_of hx h.symm rfl
  rw [dig_full] at h3
  exact h3.symm
theorem okI_bad {b : Bool} {xs : List Int} (hx : InR xs) (h : nl (val xs) ≠ xs.length) : okI b xs = false := by
  unfold okI
  simp [limbs_len hx, h]
theorem okI_good {b : Bool} {xs : List Int} (hx : InR xs) (h : nl (val xs) = xs.length) : okI b xs = (!b || decide (0 < xs.length)) := by
  unfold okI
  cases b <;> simp [limbs_len hx, h]
  cases xs <;> simp
theorem zn_small {z : Int} (h : z.natAbs < 18446744073709551616) : zn z ≤ 2 := nl_le_of_lt (by unfold BB; omega)
theorem rValid_spec (b : Bool) (xs : List Int) (hx : InR xs) (hl : xs.length < 2 ^ 40) : Pr Tryz.prog 53 [.agg [.bool b, .ints .u32 xs]] (.one (.bool (okI b xs))) := by
  refine pv T_ok mixed Tryz.func53 rfl (by decide) _ (by simp [Tryz.ntmps53]) ⟨[0, 1, 2], []⟩ (by kernel_rfl) _ ?_
  show vc T _ _ (Option.get! Tryz.f53.body) _ _
  simp only [Tryz.f53,Tryz.ntmps53,Option.get!,iS,iM,eO,J1]
  simp only [vx,T,K5,J0,K6,K7,↓reduceIte,J1,J2,J3,J4,J5,J6,J7,J8,J9,reduceCtorEq,K1,K2,K3,K4]
  refine Cg (rtrim_spec xs hx (by omega)) ?_
  simp only [vx,T,K5,J0,K6,K7,↓reduceIte,J1,J2,J3,J4,J5,J6,J7,J8,J9,reduceCtorEq,K1,K2,K3,K4]
  refine ⟨fun h1 => Lg ?_, fun h1 => Lg ?_⟩
  · simp only [vx,T,K5,J0,K6,K7,↓reduceIte,J1,J2,J3,J4,J5,J6,J7,J8,J9,reduceCtorEq,K1,K2,K3,K4]
    have hg := okI_good (b := b) hx (by omega)
    refine ⟨fun h2 => Lg ?_, fun h2 => Lg ?_⟩
    · simp only [vx,T,K5,J0,K6,K7,↓reduceIte,J1,J2,J3,J4,J5,J6,J7,J8,J9,reduceCtorEq,K1,K2,K3,K4]
      refine Ve ?_
      rw [hg, h2]; rfl
    simp only [vx,T,K5,J0,K6,K7,↓reduceIte,J1,J2,J3,J4,J5,J6,J7,J8,J9,reduceCtorEq,K1,K2,K3,K4]
    refine Ve ?_
    rw [hg, h2]
    congr 2
    simp
  simp only [vx,T,K5,J0,K6,K7,↓reduceIte,J1,J2,J3,J4,J5,J6,J7,J8,J9,reduceCtorEq,K1,K2,K3,K4]
  refine Ve ?_
  rw [okI_bad hx (by omega)]
theorem rDivMod_spec (a b : Int) (ha : zn a < 2 ^ 36) (hb : zn b < 2 ^ 36) (h0 : b ≠ 0) : Pr Tryz.prog 63 [ZV a, ZV b] (.tup [ZV (a.fdiv b), ZV (a.fmod b), .one (.int .i64 0)]) := by
  have hbp : 0 < b.natAbs := by omega
  have hbn := nl_pos.2 hbp
  obtain ⟨q, hqd⟩ : ∃ q, q = zof (zs a != zs b) (a.natAbs / b.natAbs) := ⟨_, rfl⟩
  have hqn : zn q ≤ zn a := by rw [hqd, zn_zof]; exact nl_mono (Nat.div_le_self _ _)
  have hqb := zn_mul q b
  obtain ⟨r, hrd⟩ : ∃ r, r = a - q * b := ⟨_, rfl⟩
  have hrn : zn r ≤ zn b := by
    rw [hrd, hqd, rem_ref, zn_zof]; exact nl_mono (Nat.le_of_lt (Nat.mod_lt _ hbp))
  obtain ⟨key1, key2⟩ := divmod_ref h0 hqd hrd
  refine pv T_ok mixed Tryz.func63 rfl (by decide) _ (by simp [Tryz.ntmps63]) ⟨[0, 1, 2, 3, 4, 5, 6, 7, 9, 10, 18, 46], [(10, (.cons 2 [1] (.cons 3 [] (.cons 4 [] .nil .nil) .nil) .nil))]⟩ (by kernel_rfl) _ ?_
  show vc T _ _ (Option.get! Tryz.f63.body) _ _
  simp only [Tryz.f63,Tryz.ntmps63,Option.get!,iS,iM,eO,J1]
  simp only [vx,T,K5,J0,K6,K7,↓reduceIte,J1,J2,J3,J4,J5,J6,J7,J8,J9,reduceCtorEq,K1,K2,K3,K4,ZV]
  refine Cg (rNorm_spec a (by omega)) ?_
  simp only [vx,T,K5,J0,K6,K7,↓reduceIte,J1,J2,J3,J4,J5,J6,J7,J8,J9,reduceCtorEq,K1,K2,K3,K4,ZV]
  refine Cg (rNorm_spec b (by omega)) ?_
  simp only [vx,T,K5,J0,K6,K7,↓reduceIte,J1,J2,J3,J4,J5,J6,J7,J8,J9,reduceCtorEq,K1,K2,K3,K4,ZV]
  refine ⟨fun h => Lg ?_, fun h => Lg ?_⟩
  · rw [zm_length] at h
    exact absurd (zn_eq_zero.1 (by omega)) h0
  simp only [vx,T,K5,J0,K6,K7,↓reduceIte,J1,J2,J3,J4,J5,J6,J7,J8,J9,reduceCtorEq,K1,K2,K3,K4,ZV]
  simp only [zm_eq]
  refine Cg (rdivide_spec a.natAbs b.natAbs hbp (by unfold zn at ha; omega) (by unfold zn at hb; omega)) ?_
  simp only [vx,T,K5,J0,K6,K7,↓reduceIte,J1,J2,J3,J4,J5,J6,J7,J8,J9,reduceCtorEq,K1,K2,K3,K4,ZV]
  refine Cg (rsignedZ (zs a != zs b) (a.natAbs / b.natAbs) (by rw [← zn_zof (zs a != zs b), ← hqd]; omega)) ?_
  rw [← hqd]
  simp only [vx,T,K5,J0,K6,K7,↓reduceIte,J1,J2,J3,J4,J5,J6,J7,J8,J9,reduceCtorEq,K1,K2,K3,K4,ZV,← zm_eq]
  refine Cg (rMul_spec q b (by omega) (by omega)) ?_
  simp only [vx,T,K5,J0,K6,K7,↓reduceIte,J1,J2,J3,J4,J5,J6,J7,J8,J9,reduceCtorEq,K1,K2,K3,K4,ZV]
  refine Cg (rSub_spec a (q * b) (by omega) (by omega)) ?_
  rw [← hrd]
  simp only [vx,T,K5,J0,K6,K7,↓reduceIte,J1,J2,J3,J4,J5,J6,J7,J8,J9,reduceCtorEq,K1,K2,K3,K4,ZV]
  refine Cg (rSign_spec r (by omega)) ?_
  simp only [vx,T,K5,J0,K6,K7,↓reduceIte,J1,J2,J3,J4,J5,J6,J7,J8,J9,reduceCtorEq,K1,K2,K3,K4,ZV]
  refine Cg (rSign_spec b (by omega)) ?_
  have hw : IntKind.i64.wrap (sgn r * sgn b) = sgn r * sgn b := by
    have := sgn_mul_range r b
    exact IntWalk.i64_in _ (by omega)
  simp only [vx,T,K5,J0,K6,K7,↓reduceIte,J1,J2,J3,J4,J5,J6,J7,J8,J9,reduceCtorEq,K1,K2,K3,K4,ZV,hw]
  refine ⟨fun h3 => Lg ?_, fun h3 => Lg ?_⟩
  · obtain ⟨k1, k2⟩ := key1 h3
    simp only [vx,T,K5,J0,K6,K7,↓reduceIte,J1,J2,J3,J4,J5,J6,J7,J8,J9,reduceCtorEq,K1,K2,K3,K4,ZV]
    refine Cg (rFromInt_spec 1 (by omega) (by omega)) ?_
    simp only [vx,T,K5,J0,K6,K7,↓reduceIte,J1,J2,J3,J4,J5,J6,J7,J8,J9,reduceCtorEq,K1,K2,K3,K4,ZV]
    have z1 : zn 1 ≤ 2 := zn_small (by decide)
    refine Cg (rSub_spec q 1 (by omega) (by omega)) ?_
    rw [k1]
    simp only [vx,T,K5,J0,K6,K7,↓reduceIte,J1,J2,J3,J4,J5,J6,J7,J8,J9,reduceCtorEq,K1,K2,K3,K4,ZV]
    refine Cg (rAdd_spec r b (by omega) (by omega)) ?_
    rw [k2]
    simp only [vx,T,K5,J0,K6,K7,↓reduceIte,J1,J2,J3,J4,J5,J6,J7,J8,J9,reduceCtorEq,K1,K2,K3,K4,ZV]
    refine Va ?_; simp only [vLe,vLeL,rx,Y0,Y1,Y2,Y3,Y4,Y5,Y6,Y7,ren,↓reduceIte,J1,J2,J3,J4,J5,J6,J7,J8,J9,reduceCtorEq,K1,K2,K3,K4,ZV]
  obtain ⟨k1, k2⟩ := key2 h3
  simp only [vx,T,K5,J0,K6,K7,↓reduceIte,J1,J2,J3,J4,J5,J6,J7,J8,J9,reduceCtorEq,K1,K2,K3,K4,ZV]
  rw [← k1, ← k2]
  refine Va ?_; simp only [vLe,vLeL,rx,Y0,Y1,Y2,Y3,Y4,Y5,Y6,Y7,ren,↓reduceIte,J1,J2,J3,J4,J5,J6,J7,J8,J9,reduceCtorEq,K1,K2,K3,K4,ZV]
end Go.Proofs.YtpogdlmhmafjlaaGreat
/-
  Rational numbers: what the code's quotients come to.
-/
namespace Go.Eng
def qm (q : Rat) : Nat := max (zn q.num) (nl q.den)
theorem gcd_pos {n : Int} {d : Nat} (hd : 0 < d) : 0 < Int.gcd n d := by
  unfold Int.gcd
  exact Nat.gcd_pos_of_pos_right _ (by simpa using hd)
theorem mk_num {n : Int} {d : Nat} (hd : 0 < d) : n.fdiv (Int.gcd n d) = (mkRat n d).num := by
  rw [Rat.num_mkRat, if_neg (by omega), Int.fdiv_eq_ediv_of_nonneg _ (by omega)]
  unfold Int.gcd
  rw [Nat.gcd_comm]; rfl
theorem mk_den {n : Int} {d : Nat} (hd : 0 < d) : (d : Int).fdiv (Int.gcd n d) = ((mkRat n d).den : Int) := by
  rw [Rat.den_mkRat, if_neg (by omega), Int.fdiv_eq_ediv_of_nonneg _ (by omega)]
  unfold Int.gcd
  rw [Nat.gcd_comm]; rfl
theorem fdiv_one (n : Int) : n.fdiv 1 = n := by rw [Int.fdiv_eq_ediv_of_nonneg _ (by omega)]; exact Int.ediv_one n
theorem zn_num_mk (n : Int) (d : Nat) : zn (mkRat n d).num ≤ zn n := by
  rw [Rat.num_mkRat]
  split
  · unfold zn; rw [Int.natAbs_zero, nl_zero]; omega
  refine zn_le ?_
  exact Int.natAbs_ediv_le_natAbs _ _
theorem nl_den_mk {n : Int} {d : Nat} (h : 0 < d) : nl (mkRat n d).den ≤ nl d := by
  rw [Rat.den_mkRat, if_neg (by omega)]
  exact nl_mono (Nat.div_le_self _ _)
theorem qm_mk {n : Int} {d : Nat} (h : 0 < d) : qm (mkRat n d) ≤ max (zn n) (nl d) := by
  have h1 := zn_num_mk n d
  have h2 := nl_den_mk (n := n) h
  unfold qm; omega
theorem qm_mul (a b : Rat) : qm (a * b) ≤ qm a + qm b := by
  rw [Rat.mul_def']
  have h := qm_mk (n := a.num * b.num) (Nat.mul_pos a.den_pos b.den_pos)
  have h1 := zn_mul a.num b.num
  have h2 := nl_mul a.den b.den
  unfold qm at *; omega
theorem zn_nat (n : Nat) : zn (n : Int) = nl n := rfl
theorem qm_add (a b : Rat) : qm (a + b) ≤ qm a + qm b + 1 := by
  rw [Rat.add_def']
  have h := qm_mk (n := a.num * b.den + b.num * a.den) (Nat.mul_pos a.den_pos b.den_pos)
  have h1 := zn_mul a.num b.den
  have h2 := zn_mul b.num a.den
  have h3 := zn_add (a.num * b.den) (b.num * a.den)
  have h4 := nl_mul a.den b.den
  rw [zn_nat] at h1 h2
  unfold qm at *; omega
theorem add_one {a b : Rat} (ha : a.den = 1) (hb : b.den = 1) : (a + b).num = a.num + b.num ∧ (a + b).den = 1 := by
  rw [Rat.add_def', ha, hb]
  constructor
  · rw [Rat.num_mkRat]; simp
  rw [Rat.den_mkRat]; simp
theorem mul_one' {a b : Rat} (ha : a.den = 1) (hb : b.den = 1) : (a * b).num = a.num * b.num ∧ (a * b).den = 1 := by
  rw [Rat.mul_def', ha, hb]
  constructor
  · rw [Rat.num_mkRat]; simp
  rw [Rat.den_mkRat]; simp
theorem add_cop {a b : Rat} (h : a.den.gcd b.den = 1) : (a + b).num = a.num * b.den + b.num * a.den ∧ (a + b).den = a.den * b.den := by
  show (Rat.add a b).num = _ ∧ (Rat.add a b).den = _
  delta Rat.add
  dsimp only
  rw [dif_pos h]
  exact ⟨rfl, rfl⟩
theorem add_gen {a b : Rat} {g : Nat} (hg : g = a.den.gcd b.den) {num : Int} (hn : num = a.num * ((b.den / g : Nat) : Int) + b.num * ((a.den / g : Nat) : Int)) {h : Nat} (hh : h = num.natAbs.gcd g) :
    num.fdiv h = (a + b).num ∧ (((a.den / g) * (b.den / h) : Nat) : Int) = ((a + b).den : Int) := by
  have hgp : 0 < g := by rw [hg]; exact Nat.gcd_pos_of_pos_left _ a.den_pos
  have hga : g ∣ a.den := by rw [hg]; exact Nat.gcd_dvd_left _ _
  have hgb : g ∣ b.den := by rw [hg]; exact Nat.gcd_dvd_right _ _
  have hdp : 0 < a.den / g := Nat.div_pos (Nat.le_of_dvd a.den_pos hga) hgp
  have e1 : a + b = mkRat num (a.den / g * b.den) := by
    rw [Rat.add_def', ← Rat.mkRat_mul_right (a := g) (n := num) (by omega)]
    congr 1
    · rw [hn, Int.add_mul, Int.mul_assoc, Int.mul_assoc, ← Int.natCast_mul, ← Int.natCast_mul, Nat.div_mul_cancel hgb, Nat.div_mul_cancel hga]
    rw [Nat.mul_right_comm, Nat.div_mul_cancel hga]
  have e2 : num.natAbs.gcd g = num.natAbs.gcd (a.den / g * b.den) := by
    have := Rat.add.aux a b (g := g) hg rfl rfl
    simp only [← hn] at this
    exact this
  have hp : 0 < a.den / g * b.den := Nat.mul_pos hdp b.den_pos
  have e3 : h = Int.gcd num ((a.den / g * b.den : Nat) : Int) := by rw [hh, e2]; rfl
  have hhb : h ∣ b.den := Nat.dvd_trans (by rw [hh]; exact Nat.gcd_dvd_right _ _) hgb
  rw [e1]
  constructor
  · rw [← mk_num hp, ← e3]
  rw [← mk_den hp, ← e3, Int.fdiv_eq_ediv_of_nonneg _ (by omega), ← Nat.mul_div_assoc _ hhb, Int.natCast_ediv]
theorem mul_gen (a b : Rat) {g h : Nat} (hg : g = a.num.natAbs.gcd b.den) (hh : h = b.num.natAbs.gcd a.den) :
    a.num.fdiv g * b.num.fdiv h = (a * b).num ∧ (((a.den / h) * (b.den / g) : Nat) : Int) = ((a * b).den : Int) := by
  have hga : (g : Int) ∣ a.num := Int.ofNat_dvd_left.2 (by rw [hg]; exact Nat.gcd_dvd_left _ _)
  have hhb : (h : Int) ∣ b.num := Int.ofNat_dvd_left.2 (by rw [hh]; exact Nat.gcd_dvd_left _ _)
  rw [Int.fdiv_eq_ediv_of_nonneg _ (by omega), Int.fdiv_eq_ediv_of_nonneg _ (by omega)]
  have e : a * b = Rat.mul a b := rfl
  rw [e]
  delta Rat.mul
  dsimp only
  simp only [Int.divExact_eq_tdiv,Nat.divExact_eq_div]
  subst hg hh
  refine ⟨?_, rfl⟩
  rw [Int.tdiv_eq_ediv_of_dvd hga, Int.tdiv_eq_ediv_of_dvd hhb]
end Go.Eng
