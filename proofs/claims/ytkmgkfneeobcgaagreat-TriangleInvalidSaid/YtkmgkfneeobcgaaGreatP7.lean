/-
  TriangleInvalid: for every input the law returns true, and each argument reads afterwards as it read before. No condition.
  (Text 7 of 8; made by a program out of smaller texts.)
-/
import Derived.IntWalk
import Derived.RangeFuncBox
import Derived.RangeFuncLeaves
import Derived.Shelf.Abstract
import Derived.WalkKit
import Derived.OwnWalkIn
import Derived.TacticsInMore
import Derived.LoopNIn
import Derived.LoopIn
import Derived.Lib.Hide
import Derived.Test.YtkmgkfneeobcgaaGreatChecked
import Derived.Test.YtkmgkfneeobcgaaGreatP6
set_option linter.unusedSimpArgs false
set_option linter.unusedVariables false
open Nat renaming reduceAdd → s_n1, reduceMul → s_n2, reduceSub → s_n3, reduceEqDiff → s_n4, reduceLT → s_n5, reduceLeDiff → s_n6, reduceBEq → s_n7, reduceDiv → s_n8, reduceMod → s_n9, reducePow → s_n0
open Int renaming reduceToNat → s_i1, reduceLE → s_i2, reduceLT → s_i3, reduceEq → s_i4, reducePow → s_i5, reduceSub → s_i6, reduceNeg → s_i7

/-! ## TgA -/
namespace Go.Proofs.YtkmgkfneeobcgaaGreat
open Go Go.Eng Go.Eng.Run Go.Gra

noncomputable def gtbs : List Tbl := [addTs .lf eg1, addTs .lf eg2, addTs .lf eg3, addTs .lf eg4, addTs .lf eg5, addTs .lf eg6, addTs .lf eg7, addTs .lf eg8, addTs .lf eg9, addTs .lf eg10, addTs .lf eg11, addTs .lf eg12, addTs .lf eg13, addTs .lf eg14, addTs .lf eg15, addTs .lf eg16, addTs .lf es1, addTs .lf es2, addTs .lf es3, addTs .lf es4]
theorem gtbs_ok : TblsOk Tryz.prog gtbs := ⟨eg1_ok, eg2_ok, eg3_ok, eg4_ok, eg5_ok, eg6_ok, eg7_ok, eg8_ok, eg9_ok, eg10_ok, eg11_ok, eg12_ok, eg13_ok, eg14_ok, eg15_ok, eg16_ok, es1_ok, es2_ok, es3_ok, es4_ok, trivial⟩

noncomputable def eX (es : List E) : List X := es.flatMap fun e => [.cl (.int .i64 e.1), .cl (.int .i64 e.2)]
noncomputable def gE (n : Nat) (es : List E) : EV := .v (.agg [.cl (.int .i64 n), .op 2 (eX es)])
noncomputable def tE (t : List X) : EV := .v (.agg t)

theorem eX_get : ∀ (es : List E) (i j : Nat), i < es.length → j < 2 → (denL (eX es)).getD (i * 2 + j) .any = .int .i64 (if j = 0 then (es.getD i (0, 0)).1 else (es.getD i (0, 0)).2)
  | [], i, j, hi, _ => absurd hi (by simp)
  | e :: es, 0, j, _, hj => by
    have : j = 0 ∨ j = 1 := by omega
    rcases this with rfl | rfl <;> rfl
  | e :: es, i + 1, j, hi, hj => by
    have := eX_get es i j (by simpa using hi) hj
    rw [show (i + 1) * 2 + j = (i * 2 + j) + 1 + 1 by omega]
    exact this
theorem eX_len : ∀ es : List E, (eX es).length = es.length * 2
  | [] => rfl
  | e :: es => by
    have := eX_len es
    simp only [eX, List.flatMap_cons, List.length_append, List.length_cons, List.length_nil] at this ⊢
    omega
theorem edC_le {m : Nat} {f : Nat → E} : CLe (edC m f) (X.op 2 (eX ((List.range m).map f))).den := by
  refine CLe.rows (by rw [eX_len]; simp) fun i j hi hj => .of_eq ?_
  rw [eX_get _ i j (by simpa using hi) hj, List.getD_eq_getElem?_getD, List.getElem?_map, List.getElem?_range hi]
  rfl

/-- The arguments of a call, by content. -/
theorem g_le {n m : Nat} {f : Nat → E} : VLeN (.agg [.int .i64 n, edC m f]) (argV (gE n ((List.range m).map f))) := VLeN_aggA ⟨.refl _, edC_le, trivial⟩

/-- A tree: three numbers, and no parts or some. -/
noncomputable def shS : X → Bool
  | .cl .nil => true
  | .op w _ => Nat.beq w 4
  | _ => false
noncomputable def shp : List X → Bool
  | [.cl (.int .i64 _), .cl (.int .i64 _), .cl (.int .i64 _), x] => shS x
  | _ => false
noncomputable def sh0 : List X → Bool
  | [.cl (.int .i64 a), .cl (.int .i64 b), .cl (.int .i64 c), .cl .nil] => decide (a = 0) && (decide (b = 0) && decide (c = 0))
  | _ => false
noncomputable def chk2 (n : Nat) (es : List E) (t : List X) : Bool := match t with
  | [.cl (.int .i64 a), .cl (.int .i64 b), .cl (.int .i64 c), .op w p] => Nat.beq w 4 && (Nat.beq p.length 12 && (shp (p.take 4) && (shp ((p.drop 4).take 4) && (shp ((p.drop 8).take 4) &&
      (isB gtbs 27 [gE n es, tE (p.take 4)] false && (isB gtbs 27 [gE n es, tE ((p.drop 4).take 4)] false && (isB gtbs 27 [gE n es, tE ((p.drop 8).take 4)] false &&
       isB gtbs 27 [gE n es, tE [.cl (.int .i64 b), .cl (.int .i64 a), .cl (.int .i64 c), .op 4 p]] false)))))))
  | _ => false
noncomputable def chk1 (n : Nat) (es : List E) (t : List X) (m : Nat) : Bool :=
  isB gtbs 18 [tE t, .v (.one (.cl (.int .i64 40)))] true && (isB gtbs 19 [gE n es, tE t] true && (isI gtbs 20 [tE t] m && (shp t &&
  (Nat.beq m 0 || (isB gtbs 27 [gE n es, tE t] true && (isI gtbs 16 [tE t] m && (isB gtbs 26 [gE n es] true && (Nat.ble 3 es.length && chk2 n es t))))))))
noncomputable def chk (n : Nat) (es : List E) : Bool := match lkT gtbs 11 [gE n es] with
  | some (.tup [.agg t, .one (.cl (.int .i64 e))]) => if e = 0 then chk1 n es t 0 || (chk1 n es t 1 || chk1 n es t 2) else sh0 t
  | _ => false
set_option maxRecDepth 100000 in
theorem chk_all : ((List.range 5).all fun n => (subs (pairs n)).all fun es => Nat.ble 6 es.length || chk n es) = true := by kernel_rfl

end Go.Proofs.YtkmgkfneeobcgaaGreat

/-! ## TgB -/
namespace Go.Proofs.YtkmgkfneeobcgaaGreat
open Go Go.Eng Go.Eng.Run Go.Gra

/-- A tree, by content. -/
def tC (a b c : Int) (P : C) : List C := [.int .i64 a, .int .i64 b, .int .i64 c, P]
def ShC (P : C) : Prop := P = .nil ∨ ∃ w F, P = .rows 4 w F

structure InvF (n : Int) (m : Nat) (f : Nat → E) (a b c : Int) (P : C) (k : Nat) : Prop where
  comp : PureCalls Tryz.prog 27 [.agg (gA n m f), .agg (tC a b c P)] (.one (.bool true))
  mer : PureCalls Tryz.prog 16 [.agg (tC a b c P)] (.one (.int .i64 k))
  gv : PureCalls Tryz.prog 26 [.agg (gA n m f)] (.one (.bool true))
  m3 : 3 ≤ m
  parts : ∃ F, P = .rows 4 3 F ∧ ∀ q, q < 3 → ∃ a' b' c' P', F q 0 = .int .i64 a' ∧ F q 1 = .int .i64 b' ∧ F q 2 = .int .i64 c' ∧ F q 3 = P' ∧ ShC P' ∧ PureCalls Tryz.prog 27 [.agg (gA n m f), .agg (tC a' b' c' P')] (.one (.bool false))
  swap : PureCalls Tryz.prog 27 [.agg (gA n m f), .agg (tC b a c P)] (.one (.bool false))

structure TF (n : Int) (m : Nat) (f : Nat → E) (a b c : Int) (P : C) (k : Nat) : Prop where
  sh : ShC P
  k2 : k ≤ 2
  build : PureCalls Tryz.prog 11 [.agg (gA n m f)] (.tup [.agg (tC a b c P), .one (.int .i64 0)])
  small : PureCalls Tryz.prog 18 [.agg (tC a b c P), .one (.int .i64 40)] (.one (.bool true))
  valid : PureCalls Tryz.prog 19 [.agg (gA n m f), .agg (tC a b c P)] (.one (.bool true))
  merges : PureCalls Tryz.prog 20 [.agg (tC a b c P)] (.one (.int .i64 k))
  inv : k = 0 ∨ InvF n m f a b c P k

theorem shS_ok {x : X} (h : shS x = true) : ShC x.den := by
  unfold shS at h
  split at h
  · exact .inl rfl
  · obtain rfl := Nat.eq_of_beq_eq_true h
    exact .inr ⟨_, _, by simp only [X.den]; exact rfl⟩
  · cases h
theorem shp_ok {t : List X} (h : shp t = true) : ∃ a b c x, t = [.cl (.int .i64 a), .cl (.int .i64 b), .cl (.int .i64 c), x] ∧ shS x = true := by
  unfold shp at h
  split at h
  · exact ⟨_, _, _, _, rfl, h⟩
  · cases h
theorem sh0_ok {t : List X} (h : sh0 t = true) : t.map X.den = tC 0 0 0 .nil := by
  unfold sh0 at h
  split at h
  · rename_i a b c
    simp only [Bool.and_eq_true, decide_eq_true_eq] at h
    obtain ⟨rfl, rfl, rfl⟩ := h
    simp only [List.map_cons, List.map_nil, X.den, tC]
  · cases h
theorem den4 (a b c : Int) (x : X) : [X.cl (.int .i64 a), .cl (.int .i64 b), .cl (.int .i64 c), x].map X.den = tC a b c x.den := by
  simp only [List.map_cons, List.map_nil, X.den, tC]

section
variable {n m : Nat} {f : Nat → E}
theorem g1 {fn : FuncId} {r : V} (h : PureCalls Tryz.prog fn ([gE n ((List.range m).map f)].map argV) r) : PureCalls Tryz.prog fn [.agg (gA n m f)] r := h.args ⟨g_le, trivial⟩
theorem g2 {fn : FuncId} {r : V} {t : List X} (h : PureCalls Tryz.prog fn ([gE n ((List.range m).map f), tE t].map argV) r) : PureCalls Tryz.prog fn [.agg (gA n m f), .agg (t.map X.den)] r := h.args ⟨g_le, .refl _, trivial⟩

theorem part_get {p : List X} {q : Nat} {x0 x1 x2 x3 : X} (h : (p.drop (q * 4)).take 4 = [x0, x1, x2, x3]) : (denL p).getD (q * 4 + 0) .any = x0.den ∧ (denL p).getD (q * 4 + 1) .any = x1.den ∧ (denL p).getD (q * 4 + 2) .any = x2.den ∧ (denL p).getD (q * 4 + 3) .any = x3.den := by
  have g : ∀ j, j < 4 → p[q * 4 + j]? = [x0, x1, x2, x3][j]? := fun j hj => by
    rw [← h, List.getElem?_take, if_pos hj, List.getElem?_drop]
  refine ⟨?_, ?_, ?_, ?_⟩ <;> rw [denL_getD, g _ (by decide)] <;> rfl

theorem chk2_ok {t : List X} {a b c : Int} {x : X} (ht : t = [.cl (.int .i64 a), .cl (.int .i64 b), .cl (.int .i64 c), x]) (h : chk2 n ((List.range m).map f) t = true) :
    (∃ F, x.den = .rows 4 3 F ∧ ∀ q, q < 3 → ∃ a' b' c' P', F q 0 = .int .i64 a' ∧ F q 1 = .int .i64 b' ∧ F q 2 = .int .i64 c' ∧ F q 3 = P' ∧ ShC P' ∧ PureCalls Tryz.prog 27 [.agg (gA n m f), .agg (tC a' b' c' P')] (.one (.bool false))) ∧
    PureCalls Tryz.prog 27 [.agg (gA n m f), .agg (tC b a c x.den)] (.one (.bool false)) := by
  subst ht
  unfold chk2 at h
  split at h
  · rename_i a1 b1 c1 w p heq
    simp only [List.cons.injEq, X.cl.injEq, C.int.injEq, true_and, and_true] at heq
    obtain ⟨rfl, rfl, rfl, rfl⟩ := heq
    simp only [Bool.and_eq_true] at h
    obtain ⟨hw, hl, s0, s1, s2, p0, p1, p2, sw⟩ := h
    obtain rfl := Nat.eq_of_beq_eq_true hw
    have hl := Nat.eq_of_beq_eq_true hl
    have one : ∀ q, shp ((p.drop (q * 4)).take 4) = true → isB gtbs 27 [gE n ((List.range m).map f), tE ((p.drop (q * 4)).take 4)] false = true →
        ∃ a' b' c' P', (denL p).getD (q * 4 + 0) .any = .int .i64 a' ∧ (denL p).getD (q * 4 + 1) .any = .int .i64 b' ∧ (denL p).getD (q * 4 + 2) .any = .int .i64 c' ∧ (denL p).getD (q * 4 + 3) .any = P' ∧ ShC P' ∧
          PureCalls Tryz.prog 27 [.agg (gA n m f), .agg (tC a' b' c' P')] (.one (.bool false)) := fun q hs hp => by
      obtain ⟨a', b', c', x', e, hx⟩ := shp_ok hs
      obtain ⟨e0, e1, e2, e3⟩ := part_get e
      have k := g2 (isB_ok gtbs_ok hp)
      rw [e, den4] at k
      exact ⟨a', b', c', x'.den, by rw [e0]; simp only [X.den], by rw [e1]; simp only [X.den], by rw [e2]; simp only [X.den], e3, shS_ok hx, k⟩
    refine ⟨⟨fun i j => (denL p).getD (i * 4 + j) .any, by simp only [X.den, hl], fun q hq => ?_⟩, ?_⟩
    · have : q = 0 ∨ q = 1 ∨ q = 2 := by omega
      rcases this with rfl | rfl | rfl
      · exact one 0 s0 p0
      · exact one 1 s1 p1
      · exact one 2 s2 p2
    · have k := g2 (isB_ok gtbs_ok sw)
      rwa [den4] at k
  · cases h

theorem chk1_ok {t : List X} {k : Nat} (hb : PureCalls Tryz.prog 11 [.agg (gA n m f)] (.tup [.agg (t.map X.den), .one (.int .i64 0)])) (hk : k ≤ 2) (h : chk1 n ((List.range m).map f) t k = true) : ∃ a b c P, TF n m f a b c P k := by
  unfold chk1 at h
  simp only [Bool.and_eq_true, Bool.or_eq_true] at h
  obtain ⟨h1, h2, h3, h4, h5⟩ := h
  obtain ⟨a, b, c, x, ht, hx⟩ := shp_ok h4
  have q1 : PureCalls Tryz.prog 18 [.agg (t.map X.den), .one (.int .i64 40)] (.one (.bool true)) := isB_ok gtbs_ok h1
  have q2 := g2 (isB_ok gtbs_ok h2)
  have q3 : PureCalls Tryz.prog 20 [.agg (t.map X.den)] (.one (.int .i64 k)) := isI_ok gtbs_ok h3
  rw [ht, den4] at q1 q2 q3 hb
  refine ⟨a, b, c, x.den, shS_ok hx, hk, hb, q1, q2, q3, ?_⟩
  rcases h5 with h5 | ⟨h5, h6, h7, h8, h9⟩
  · exact .inl (Nat.eq_of_beq_eq_true h5)
  · have r1 := g2 (isB_ok gtbs_ok h5)
    have r2 : PureCalls Tryz.prog 16 [.agg (t.map X.den)] (.one (.int .i64 k)) := isI_ok gtbs_ok h6
    rw [ht, den4] at r1 r2
    obtain ⟨r3, r4⟩ := chk2_ok ht h9
    exact .inr ⟨r1, r2, g1 (isB_ok gtbs_ok h7), by simpa using Nat.le_of_ble_eq_true h8, r3, r4⟩

end

theorem graph_facts {n : Int} {m : Nat} {f : Nat → E} (h : GV n 4 m f) (h5 : m ≤ 5) :
    (∃ e, e ≠ 0 ∧ PureCalls Tryz.prog 11 [.agg (gA n m f)] (.tup [.agg (tC 0 0 0 .nil), .one (.int .i64 e)])) ∨ ∃ a b c P k, TF n m f a b c P k := by
  obtain ⟨k, rfl, hk, hm⟩ := h.mem
  have h1 := List.all_eq_true.1 (List.all_eq_true.1 chk_all k (List.mem_range.2 (by omega))) _ hm
  rw [Bool.or_eq_true] at h1
  rcases h1 with h1 | h1
  · have := Nat.le_of_ble_eq_true h1
    simp at this
    omega
  · unfold chk at h1
    split at h1
    · rename_i t e he
      have hb := g1 (lkT_ok gtbs_ok he)
      have hb : PureCalls Tryz.prog 11 [.agg (gA k m f)] (.tup [.agg (t.map X.den), .one (.int .i64 e)]) := hb
      split at h1
      · rename_i e0
        subst e0
        simp only [Bool.or_eq_true] at h1
        rcases h1 with h1 | h1 | h1
        · obtain ⟨a, b, c, P, h⟩ := chk1_ok hb (by decide) h1; exact .inr ⟨a, b, c, P, _, h⟩
        · obtain ⟨a, b, c, P, h⟩ := chk1_ok hb (by decide) h1; exact .inr ⟨a, b, c, P, _, h⟩
        · obtain ⟨a, b, c, P, h⟩ := chk1_ok hb (by decide) h1; exact .inr ⟨a, b, c, P, _, h⟩
      · rw [sh0_ok h1] at hb
        exact .inl ⟨e, by assumption, hb⟩
    · cases h1

end Go.Proofs.YtkmgkfneeobcgaaGreat

/-! ## Limbs -/
namespace Go.Eng

def BB : Nat := 4294967296

def val : List Int → Nat
  | [] => 0
  | x :: xs => x.toNat + BB * val xs

def InR (xs : List Int) : Prop := ∀ x ∈ xs, 0 ≤ x ∧ x < 4294967296

def limbs (n : Nat) : List Int := if h : n = 0 then [] else ((n % BB : Nat) : Int) :: limbs (n / BB)
termination_by n
decreasing_by exact Nat.div_lt_self (by omega) (by decide)

theorem limbs_zero : limbs 0 = [] := by unfold limbs; simp
theorem limbs_pos {n : Nat} (h : 0 < n) : limbs n = ((n % BB : Nat) : Int) :: limbs (n / BB) := by
  rw [limbs]; rw [dif_neg (by omega)]

theorem InR.nil : InR [] := fun _ h => by simp at h
theorem InR.cons {x : Int} {xs : List Int} (hx : 0 ≤ x ∧ x < 4294967296) (h : InR xs) : InR (x :: xs) := fun y hy => by
  rcases List.mem_cons.1 hy with rfl | hy
  · exact hx
  · exact h y hy
theorem InR.tail {x : Int} {xs : List Int} (h : InR (x :: xs)) : InR xs := fun y hy => h y (by simp [hy])
theorem InR.head {x : Int} {xs : List Int} (h : InR (x :: xs)) : 0 ≤ x ∧ x < 4294967296 := h x (by simp)
theorem InR.append {xs ys : List Int} (h : InR xs) (h' : InR ys) : InR (xs ++ ys) := fun y hy => by
  rcases List.mem_append.1 hy with hy | hy
  · exact h y hy
  · exact h' y hy
theorem InR.take {xs : List Int} (h : InR xs) (i : Nat) : InR (xs.take i) := fun y hy => h y (List.mem_of_mem_take hy)
theorem InR.drop {xs : List Int} (h : InR xs) (i : Nat) : InR (xs.drop i) := fun y hy => h y (List.mem_of_mem_drop hy)
theorem InR.getD {xs : List Int} (h : InR xs) (i : Nat) : 0 ≤ xs.getD i 0 ∧ xs.getD i 0 < 4294967296 := by
  rw [List.getD_eq_getElem?_getD]
  cases hi : xs[i]? with
  | none => simp
  | some x => exact h x (List.mem_of_getElem? hi)
theorem InR.set {xs : List Int} (h : InR xs) (i : Nat) {x : Int} (hx : 0 ≤ x ∧ x < 4294967296) : InR (xs.set i x) := fun y hy => by
  rcases List.mem_or_eq_of_mem_set hy with hy | rfl
  · exact h y hy
  · exact hx
theorem InR.replicate (n : Nat) : InR (List.replicate n 0) := fun y hy => by
  rw [(List.mem_replicate.1 hy).2]; decide
theorem InR.one {x : Int} (h : 0 ≤ x ∧ x < 4294967296) : InR [x] := InR.cons h InR.nil

theorem InR.limbs : ∀ (n : Nat), InR (limbs n) := by
  intro n
  induction n using Nat.strongRecOn with
  | _ n ih =>
    by_cases h : n = 0
    · subst h; rw [limbs_zero]; exact InR.nil
    · rw [limbs_pos (by omega)]
      have : n % BB < 4294967296 := Nat.mod_lt n (show BB > 0 by decide)
      exact InR.cons ⟨by omega, by omega⟩ (ih _ (Nat.div_lt_self (by omega) (by decide)))

theorem val_limbs : ∀ (n : Nat), val (limbs n) = n := by
  intro n
  induction n using Nat.strongRecOn with
  | _ n ih =>
    by_cases h : n = 0
    · subst h; rw [limbs_zero]; rfl
    · rw [limbs_pos (by omega)]
      simp only [val]
      rw [ih _ (Nat.div_lt_self (by omega) (by decide))]
      have := Nat.mod_add_div n BB
      omega

theorem val_append : ∀ (xs ys : List Int), val (xs ++ ys) = val xs + BB ^ xs.length * val ys
  | [], ys => by simp [val]
  | x :: xs, ys => by
    simp only [List.cons_append, val, val_append xs ys, List.length_cons, Nat.pow_succ]
    rw [Nat.mul_add, Nat.mul_comm (BB ^ xs.length) BB, Nat.mul_assoc]
    omega

theorem val_lt : ∀ {xs : List Int}, InR xs → val xs < BB ^ xs.length
  | [], _ => by simp [val]
  | x :: xs, h => by
    have h1 := val_lt h.tail
    have h2 := h.head
    simp only [val, List.length_cons, Nat.pow_succ]
    have : BB * (val xs + 1) ≤ BB * BB ^ xs.length := Nat.mul_le_mul_left _ h1
    rw [Nat.mul_comm (BB ^ xs.length) BB]
    have h3 : x.toNat < BB := by unfold BB; omega
    rw [Nat.mul_add] at this
    omega

theorem val_replicate : ∀ (n : Nat), val (List.replicate n 0) = 0
  | 0 => rfl
  | n + 1 => by simp [List.replicate_succ, val, val_replicate n]

/-- The word at a place. -/
theorem getD_val : ∀ {xs : List Int}, InR xs → ∀ i, xs.getD i 0 = ((val xs / BB ^ i % BB : Nat) : Int)
  | [], _, i => by simp [val]
  | x :: xs, h, 0 => by
    have h2 := h.head
    have h3 : x.toNat < BB := by unfold BB; omega
    simp only [List.getD_cons_zero, val, Nat.pow_zero, Nat.div_one, Nat.add_mul_mod_self_left, Nat.mod_eq_of_lt h3]
    omega
  | x :: xs, h, i + 1 => by
    have h2 := h.head
    have h3 : x.toNat < BB := by unfold BB; omega
    simp only [List.getD_cons_succ, val]
    rw [getD_val h.tail i, Nat.pow_succ, Nat.mul_comm (BB ^ i) BB, ← Nat.div_div_eq_div_mul, Nat.add_mul_div_left _ _ (by decide : 0 < BB), Nat.div_eq_of_lt h3, Nat.zero_add]

theorem val_take {xs : List Int} (h : InR xs) (i : Nat) : val (xs.take i) = val xs % BB ^ i := by
  by_cases hi : i ≤ xs.length
  · have e := val_append (xs.take i) (xs.drop i)
    rw [List.take_append_drop, List.length_take, Nat.min_eq_left hi] at e
    have hl := val_lt (h.take i)
    rw [List.length_take, Nat.min_eq_left hi] at hl
    rw [e, Nat.add_mul_mod_self_left, Nat.mod_eq_of_lt hl]
  · rw [List.take_of_length_le (by omega), Nat.mod_eq_of_lt]
    exact Nat.lt_of_lt_of_le (val_lt h) (Nat.pow_le_pow_right (by decide) (by omega))

theorem val_drop {xs : List Int} (h : InR xs) (i : Nat) : val (xs.drop i) = val xs / BB ^ i := by
  by_cases hi : i ≤ xs.length
  · have e := val_append (xs.take i) (xs.drop i)
    rw [List.take_append_drop, List.length_take, Nat.min_eq_left hi] at e
    have hl := val_lt (h.take i)
    rw [List.length_take, Nat.min_eq_left hi] at hl
    rw [e, Nat.add_mul_div_left _ _ (Nat.pow_pos (by decide)), Nat.div_eq_of_lt hl, Nat.zero_add]
  · rw [List.drop_of_length_le (by omega), Nat.div_eq_of_lt]; rfl
    exact Nat.lt_of_lt_of_le (val_lt h) (Nat.pow_le_pow_right (by decide) (by omega))

theorem val_set : ∀ {xs : List Int} {i : Nat} {x : Int}, i < xs.length → val (xs.set i x) + BB ^ i * (xs.getD i 0).toNat = val xs + BB ^ i * x.toNat
  | [], i, x, h => by simp at h
  | y :: ys, 0, x, _ => by simp [val]; omega
  | y :: ys, i + 1, x, h => by
    have := val_set (xs := ys) (i := i) (x := x) (by simpa using h)
    simp only [List.set_cons_succ, val, List.getD_cons_succ, Nat.pow_succ]
    rw [Nat.mul_comm (BB ^ i) BB, Nat.mul_assoc, Nat.mul_assoc]
    have h2 : BB * (val (ys.set i x) + BB ^ i * (ys.getD i 0).toNat) = BB * (val ys + BB ^ i * x.toNat) := by rw [this]
    rw [Nat.mul_add, Nat.mul_add] at h2
    omega

/-- A list with no nought at its end is the number's own. -/
theorem limbs_val_last : ∀ {xs : List Int}, InR xs → (xs = [] ∨ xs.getD (xs.length - 1) 0 ≠ 0) → limbs (val xs) = xs
  | [], _, _ => limbs_zero
  | [x], h, hl => by
    have h2 := h.head
    have hx : x ≠ 0 := by simpa using hl
    have h3 : x.toNat < BB := by unfold BB; omega
    simp only [val, Nat.mul_zero, Nat.add_zero]
    rw [limbs_pos (by omega), Nat.mod_eq_of_lt h3, Nat.div_eq_of_lt h3, limbs_zero]
    congr 1; omega
  | x :: y :: ys, h, hl => by
    have h2 := h.head
    have h3 : x.toNat < BB := by unfold BB; omega
    have ih := limbs_val_last h.tail (.inr (by
      rcases hl with hl | hl
      · cases hl
      · simpa using hl))
    have hpos : 0 < val (y :: ys) := by
      rcases Nat.eq_zero_or_pos (val (y :: ys)) with h0 | h0
      · rw [h0, limbs_zero] at ih; cases ih
      · exact h0
    have e : val (x :: y :: ys) = x.toNat + BB * val (y :: ys) := rfl
    have hp : 0 < val (x :: y :: ys) := by
      rw [e]
      have : 0 < BB * val (y :: ys) := Nat.mul_pos (by decide) hpos
      omega
    rw [limbs_pos hp, e, Nat.add_mul_mod_self_left, Nat.mod_eq_of_lt h3, Nat.add_mul_div_left _ _ (by decide : 0 < BB), Nat.div_eq_of_lt h3, Nat.zero_add, ih]
    congr 1; omega

theorem limbs_val_ge {xs : List Int} (h : InR xs) (hl : xs.length = 0 ∨ BB ^ (xs.length - 1) ≤ val xs) : limbs (val xs) = xs := by
  refine limbs_val_last h ?_
  rcases hl with hl | hl
  · exact .inl (List.length_eq_zero_iff.1 hl)
  · by_cases hn : xs = []
    · exact .inl hn
    · refine .inr fun h0 => ?_
      have hp : 0 < xs.length := List.length_pos_iff.2 hn
      rw [getD_val h] at h0
      have hv := val_lt h
      have h1 : val xs / BB ^ (xs.length - 1) < BB := by
        rw [Nat.div_lt_iff_lt_mul (Nat.pow_pos (by decide)), Nat.mul_comm, ← Nat.pow_succ, show (xs.length - 1).succ = xs.length by omega]; exact hv
      rw [Nat.mod_eq_of_lt h1] at h0
      have h2 : 1 ≤ val xs / BB ^ (xs.length - 1) := by
        rw [Nat.le_div_iff_mul_le (Nat.pow_pos (by decide))]; omega
      omega

/-- How many words a number has. -/
def nl (n : Nat) : Nat := (limbs n).length

theorem limbs_length (n : Nat) : (limbs n).length = nl n := rfl

theorem take_limbs (n : Nat) : (limbs n).take (nl n) = limbs n := List.take_length

theorem nl_zero : nl 0 = 0 := by unfold nl; rw [limbs_zero]; rfl
theorem nl_le_of_lt : ∀ {k n : Nat}, n < BB ^ k → nl n ≤ k
  | 0, n, h => by
    have : n = 0 := by simpa using h
    subst this; rw [nl_zero]; omega
  | k + 1, n, h => by
    by_cases h0 : n = 0
    · subst h0; rw [nl_zero]; omega
    · unfold nl
      rw [limbs_pos (by omega)]
      have : nl (n / BB) ≤ k := nl_le_of_lt (by rw [Nat.div_lt_iff_lt_mul (by decide), ← Nat.pow_succ]; exact h)
      unfold nl at this
      simp only [List.length_cons]; omega
theorem lt_of_nl (n : Nat) : n < BB ^ nl n := by
  have := val_lt (InR.limbs n)
  rw [val_limbs] at this; exact this
theorem nl_le_iff {k n : Nat} : nl n ≤ k ↔ n < BB ^ k :=
  ⟨fun h => Nat.lt_of_lt_of_le (lt_of_nl n) (Nat.pow_le_pow_right (by decide) h), nl_le_of_lt⟩
theorem nl_mono {m n : Nat} (h : m ≤ n) : nl m ≤ nl n := nl_le_of_lt (Nat.lt_of_le_of_lt h (lt_of_nl n))
theorem nl_pos {n : Nat} : 0 < nl n ↔ 0 < n := by
  constructor
  · intro h
    rcases Nat.eq_zero_or_pos n with h0 | h0
    · subst h0; rw [nl_zero] at h; omega
    · exact h0
  · intro h
    rcases Nat.eq_zero_or_pos (nl n) with h0 | h0
    · have := lt_of_nl n
      rw [h0] at this
      simp at this; omega
    · exact h0
theorem nl_eq_zero {n : Nat} : nl n = 0 ↔ n = 0 := by
  have := nl_pos (n := n); omega
theorem ge_of_nl {n : Nat} (h : 0 < n) : BB ^ (nl n - 1) ≤ n := by
  rcases Nat.lt_or_ge n (BB ^ (nl n - 1)) with h1 | h1
  · have := nl_le_of_lt h1
    have := nl_pos.2 h
    omega
  · exact h1
theorem nl_mul (m n : Nat) : nl (m * n) ≤ nl m + nl n := by
  apply nl_le_of_lt
  rw [Nat.pow_add]
  exact Nat.mul_lt_mul'' (lt_of_nl m) (lt_of_nl n)
theorem nl_add (m n : Nat) : nl (m + n) ≤ max (nl m) (nl n) + 1 := by
  apply nl_le_of_lt
  rw [Nat.pow_succ]
  have h1 : m < BB ^ max (nl m) (nl n) := nl_le_iff.1 (Nat.le_max_left _ _)
  have h2 : n < BB ^ max (nl m) (nl n) := nl_le_iff.1 (Nat.le_max_right _ _)
  have h3 : BB ^ max (nl m) (nl n) * 2 ≤ BB ^ max (nl m) (nl n) * BB := Nat.mul_le_mul_left _ (by decide)
  omega

end Go.Eng

namespace Go.Eng
open Go
set_option linter.defProp false in
def vx := And.intro vcs (And.intro vcu (And.intro vcn (And.intro vcl (And.intro vcr (And.intro @limbs_length (And.intro @take_limbs (And.intro @Nat.min_def (And.intro @IntKind.bits.eq_1 (And.intro @IntKind.bits.eq_2 (And.intro @IntKind.bits.eq_3 (And.intro @IntKind.bits.eq_4 (And.intro @IntKind.bits.eq_5 (And.intro @IntKind.bits.eq_6 (And.intro @IntKind.bits.eq_7 (@IntKind.bits.eq_8)))))))))))))))
set_option linter.defProp false in
def rx := And.intro vcn (And.intro vcl (And.intro vcq (And.intro @limbs_length (@take_limbs))))
end Go.Eng

/-! ## FnYa -/
namespace Go.Proofs.YtkmgkfneeobcgaaGreat
open Go Go.Eng Go.Gra

/-! ### Graphs: the law's own copy; the reference's Valid. -/
set_option maxRecDepth 10000 in
theorem own40 {n : Int} {m : Nat} {f : Nat → E} (hm : m < 2 ^ 40) : PureCalls Tryz.prog 10 [.agg (gA n m f)] (.agg (gA n m f)) := by
  refine pure_of_vc T_ok mixed Tryz.func10 rfl (by decide) _ (by simp [Tryz.ntmps10]) ⟨[0, 1, 2], [(1, (.cons 5 [0, 1] (.cons 6 [] (.cons 7 [] .nil .nil) .nil) .nil))]⟩ (by kernel_rfl) _ ?_
  show vc T Tryz.prog ⟨[0, 1, 2], [(1, (.cons 5 [0, 1] (.cons 6 [] (.cons 7 [] .nil .nil) .nil) .nil))]⟩ (Option.get! Tryz.f10.body) _ _
  simp only [Tryz.f10, Tryz.ntmps10, Option.get!, initSt, initM, envOf, Nat.reduceAdd]
  simp only [vx, T, seval, gA, edC]
  refine ⟨⟨by omega, by omega⟩, ?_⟩
  exact VLe.of_eq (by simp)

open Classical in
set_option maxRecDepth 10000 in
set_option maxHeartbeats 1000000 in
theorem valid36 {n most : Int} {m : Nat} {f : Nat → E} (hm : m < 2 ^ 40) : PureCalls Tryz.prog 17 [.agg (gA n m f), .one (.int .i64 most)] (.one (.bool (decide (GV n most m f)))) := by
  have no : ¬ GV n most m f → decide (GV n most m f) = false := decide_eq_false
  refine pure_of_vc T_ok mixed Tryz.func17 rfl (by decide) _ (by simp [Tryz.ntmps17]) ⟨[0, 1, 2, 4, 5, 6, 15, 20, 44, 82], []⟩ (by kernel_rfl) _ ?_
  show vc T Tryz.prog ⟨[0, 1, 2, 4, 5, 6, 15, 20, 44, 82], []⟩ (Option.get! Tryz.f17.body) _ _
  simp only [Tryz.f17, Tryz.ntmps17, Option.get!, initSt, initM, envOf, Nat.reduceAdd]
  simp only [vx, T, seval, gA, edC]
  refine ⟨fun h0 => Later.go ?_, fun h0 => Later.go ?_⟩
  · have e := no fun h => absurd h.1 (by omega)
    simp only [vx, T, seval, gA, edC]
    exact VLe.of_eq (by rw [e])
  simp only [vx, T, seval, gA, edC]
  refine ⟨fun h1 => Later.go ?_, fun h1 => Later.go ?_⟩
  · have e := no fun h => absurd h.2.1 (by omega)
    simp only [vx, T, seval, gA, edC]
    exact VLe.of_eq (by rw [e])
  simp only [vx, T, seval, gA, edC]
  refine LoopK.go (fun y : {i : Nat // i ≤ m ∧ ∀ k, k < i → 0 ≤ (f k).1 ∧ (f k).1 < (f k).2 ∧ (f k).2 < n ∧ (0 < k → lt (f (k - 1)) (f k))} => ⟨[(0, .agg (gA n m f)), (1, .one (.int .i64 most)), (2, .one (.ptr 1 0)), (4, .one (.bool false)), (5, .one (.int .i64 y.1))], [(1, ⟨.var (gA n m f), true⟩)], 2, 83⟩) (fun y => m - y.1) ⟨0, Nat.zero_le _, fun k h => absurd h (Nat.not_lt_zero _)⟩ ?_ (fun ⟨i, hi, hb⟩ => ?_)
  · refine Sub.auto ?_; simp only [rx, envRen, vRen, cRen, lRen, ownRen, bRen, apartRen, emptyBk, ren, seval, autoR, autoOne, Int.natCast_add, Int.natCast_one, Int.natCast_zero, gA, edC]
  simp only
  have wi : IntKind.i64.wrap ((i : Int) + 1) = ((i + 1 : Nat) : Int) := by rw [IntWalk.i64_in _ (by omega)]; omega
  simp only [vx, T, seval, gA, edC]
  refine ⟨fun h2 => Later.go ?_, fun h2 => Later.go ?_⟩
  · have out : ¬ (0 ≤ (f i).1 ∧ (f i).1 < (f i).2 ∧ (f i).2 < n ∧ (0 < i → lt (f (i - 1)) (f i))) → decide (GV n most m f) = false := fun h => no fun g => h (g.2.2 i (by omega))
    simp only [vx, T, seval, gA, edC]
    refine ⟨by omega, ?_⟩
    refine ⟨fun h3 => Later.go ?_, fun h3 => Later.go ?_⟩
    · have e := out fun h => absurd h.1 (by omega)
      simp only [vx, T, seval, gA, edC]
      exact VLe.of_eq (by rw [e])
    simp only [vx, T, seval, gA, edC]
    refine ⟨fun h4 => Later.go ?_, fun h4 => Later.go ?_⟩
    · have e := out fun h => absurd h.2.1 (by omega)
      simp only [vx, T, seval, gA, edC]
      exact VLe.of_eq (by rw [e])
    simp only [vx, T, seval, gA, edC]
    refine ⟨fun h5 => Later.go ?_, fun h5 => Later.go ?_⟩
    · have e := out fun h => absurd h.2.2.1 (by omega)
      simp only [vx, T, seval, gA, edC]
      exact VLe.of_eq (by rw [e])
    simp only [vx, T, seval, gA, edC]
    refine ⟨fun h6 => Later.go ?_, fun h6 => Later.go ?_⟩
    · have wj : (IntKind.i64.wrap ((i : Int) - 1)) = ((i - 1 : Nat) : Int) := by rw [IntWalk.i64_in _ (by omega)]; omega
      simp only [vx, T, seval, gA, edC, wj, Int.toNat_natCast]
      refine ⟨by omega, ?_⟩
      refine ⟨fun h7 => Later.go ?_, fun h7 => Later.go ?_⟩
      · have e := out fun h => absurd (h.2.2.2 (by omega)) (by unfold lt; omega)
        simp only [vx, T, seval, gA, edC]
        exact VLe.of_eq (by rw [e])
      simp only [vx, T, seval, gA, edC, wj, Int.toNat_natCast]
      refine ⟨by omega, ?_⟩
      refine ⟨fun h8 => Later.go ?_, fun h8 => Later.go ?_⟩
      · simp only [vx, T, seval, gA, edC, wj, Int.toNat_natCast]
        refine ⟨by omega, ?_⟩
        refine ⟨fun h9 => Later.go ?_, fun h9 => Later.go ?_⟩
        · have e := out fun h => absurd (h.2.2.2 (by omega)) (by unfold lt; omega)
          simp only [vx, T, seval, gA, edC]
          exact VLe.of_eq (by rw [e])
        simp only [vx, T, seval, gA, edC, wi]
        refine loopQ.go ⟨i + 1, by omega, fun k hk => ?_⟩ ?_ (by show m - (i + 1) < m - i; omega)
        · by_cases e : k = i
          · subst e; exact ⟨by omega, by omega, by omega, fun _ => by unfold lt; omega⟩
          · exact hb k (by omega)
        · refine Sub.auto ?_; simp only [rx, envRen, vRen, cRen, lRen, ownRen, bRen, apartRen, emptyBk, ren, seval, autoR, autoOne, Int.natCast_add, Int.natCast_one, Int.natCast_zero, gA, edC]
      · simp only [vx, T, seval, gA, edC, wi]
        refine loopQ.go ⟨i + 1, by omega, fun k hk => ?_⟩ ?_ (by show m - (i + 1) < m - i; omega)
        · by_cases e : k = i
          · subst e; exact ⟨by omega, by omega, by omega, fun _ => by unfold lt; omega⟩
          · exact hb k (by omega)
        · refine Sub.auto ?_; simp only [rx, envRen, vRen, cRen, lRen, ownRen, bRen, apartRen, emptyBk, ren, seval, autoR, autoOne, Int.natCast_add, Int.natCast_one, Int.natCast_zero, gA, edC]
    · simp only [vx, T, seval, gA, edC, wi]
      refine loopQ.go ⟨i + 1, by omega, fun k hk => ?_⟩ ?_ (by show m - (i + 1) < m - i; omega)
      · by_cases e : k = i
        · subst e; exact ⟨by omega, by omega, by omega, fun _ => by omega⟩
        · exact hb k (by omega)
      · refine Sub.auto ?_; simp only [rx, envRen, vRen, cRen, lRen, ownRen, bRen, apartRen, emptyBk, ren, seval, autoR, autoOne, Int.natCast_add, Int.natCast_one, Int.natCast_zero, gA, edC]
  · have e : decide (GV n most m f) = true := decide_eq_true ⟨by omega, by omega, fun k hk => hb k (by omega)⟩
    simp only [vx, T, seval, gA, edC]
    exact VLe.of_eq (by rw [e])
end Go.Proofs.YtkmgkfneeobcgaaGreat

/-! ## FnYd -/
namespace Go.Proofs.YtkmgkfneeobcgaaGreat
open Go Go.Eng Go.Gra

/-! ### The tree of a case, with its branches. -/
/-- The flags. -/
def bkC (nb : Nat) (bk : Nat → Bool) : C := .rows 1 nb fun i _ => .bool (bk i)
/-- A case, by content. -/
def cA (n : Int) (m : Nat) (f : Nat → E) (ls : List Int) (nb : Nat) (bk : Nat → Bool) : List C := [.int .i64 n, edC m f, .ints .u8 ls, bkC nb bk]
/-- The branches. -/
def brs (nb : Nat) (bk : Nat → Bool) (k : Nat) : List Int := (List.range k).map fun i => if i < nb ∧ bk i = true then -1 else 1
theorem brs_succ (nb : Nat) (bk : Nat → Bool) (k : Nat) : brs nb bk (k + 1) = brs nb bk k ++ [if k < nb ∧ bk k = true then -1 else 1] := by
  unfold brs
  rw [List.range_succ, List.map_append]
  rfl
theorem brs_len (nb : Nat) (bk : Nat → Bool) (k : Nat) : (brs nb bk k).length = k := by simp [brs]
def noTree : V := .tup [.agg (tC 0 0 0 .nil), .one .nil, .one (.bool false)]

section
variable {n : Int} {m : Nat} {f : Nat → E} {ls : List Int} {nb : Nat} {bk : Nat → Bool}
open Classical in
set_option maxRecDepth 10000 in
theorem tree_no (h : 5 < m ∨ ¬ GV n 4 m f ∨ 10 < ls.length ∨ 20 < nb) : PureCalls Tryz.prog 5 [.agg (cA n m f ls nb bk)] noTree := by
  refine pure_of_vc T_ok mixed Tryz.func5 rfl (by decide) _ (by simp [Tryz.ntmps5]) ⟨[0, 1, 2, 3, 4, 5, 6, 7, 8, 9, 32, 54, 58, 59, 60, 73], []⟩ (by kernel_rfl) _ ?_
  show vc T Tryz.prog ⟨[0, 1, 2, 3, 4, 5, 6, 7, 8, 9, 32, 54, 58, 59, 60, 73], []⟩ (Option.get! Tryz.f5.body) _ _
  simp only [Tryz.f5, Tryz.ntmps5, Option.get!, initSt, initM, envOf, Nat.reduceAdd]
  simp only [vx, T, seval, cA, edC, bkC]
  refine ⟨fun h1 => Later.go ?_, fun h1 => Later.go ?_⟩
  · simp only [vx, T, seval, cA, edC, bkC]
    exact VLe.of_eq rfl
  have v := valid36 (n := n) (most := 4) (f := f) (m := m) (by omega)
  simp only [gA, edC] at v
  simp only [vx, T, seval, cA, edC, bkC]
  refine CallK.go v ?_
  by_cases h2 : GV n 4 m f
  · rw [decide_eq_true h2]
    simp only [vx, T, seval, cA, edC, bkC]
    refine ⟨fun h3 => Later.go ?_, fun h3 => Later.go ?_⟩
    · simp only [vx, T, seval, cA, edC, bkC]
      exact VLe.of_eq rfl
    simp only [vx, T, seval, cA, edC, bkC]
    refine ⟨fun h4 => Later.go ?_, fun h4 => Later.go ?_⟩
    · simp only [vx, T, seval, cA, edC, bkC]
      exact VLe.of_eq rfl
    rcases h with h | h | h | h
    · omega
    · exact absurd h2 h
    · omega
    · omega
  · rw [decide_eq_false h2]
    simp only [vx, T, seval, cA, edC, bkC]
    exact VLe.of_eq rfl

open Classical in
set_option maxRecDepth 10000 in
theorem tree_err (hm : m ≤ 5) (hl : ls.length ≤ 10) (hn : nb ≤ 20) (hg : GV n 4 m f) {e : Int} (he : e ≠ 0) (hb : PureCalls Tryz.prog 11 [.agg (gA n m f)] (.tup [.agg (tC 0 0 0 .nil), .one (.int .i64 e)])) :
    PureCalls Tryz.prog 5 [.agg (cA n m f ls nb bk)] noTree := by
  have v := valid36 (n := n) (most := 4) (m := m) (f := f) (by omega)
  rw [decide_eq_true hg] at v
  have ow := own40 (n := n) (m := m) (f := f) (by omega)
  simp only [gA, edC, tC] at v ow hb
  refine pure_of_vc T_ok mixed Tryz.func5 rfl (by decide) _ (by simp [Tryz.ntmps5]) ⟨[0, 1, 2, 3, 4, 5, 6, 7, 8, 9, 32, 54, 58, 59, 60, 73], []⟩ (by kernel_rfl) _ ?_
  show vc T Tryz.prog ⟨[0, 1, 2, 3, 4, 5, 6, 7, 8, 9, 32, 54, 58, 59, 60, 73], []⟩ (Option.get! Tryz.f5.body) _ _
  simp only [Tryz.f5, Tryz.ntmps5, Option.get!, initSt, initM, envOf, Nat.reduceAdd]
  simp only [vx, T, seval, cA, edC, bkC]
  refine ⟨fun h => absurd h (by omega), fun _ => Later.go ?_⟩
  simp only [vx, T, seval, cA, edC, bkC]
  refine CallK.go v ?_
  simp only [vx, T, seval, cA, edC, bkC]
  refine ⟨fun h => absurd h (by omega), fun _ => Later.go ?_⟩
  simp only [vx, T, seval, cA, edC, bkC]
  refine ⟨fun h => absurd h (by omega), fun _ => Later.go ?_⟩
  simp only [vx, T, seval, cA, edC, bkC]
  refine CallK.go ow ?_
  simp only [vx, T, seval, cA, edC, bkC]
  refine CallK.go hb ?_
  simp only [vx, T, seval, cA, edC, bkC]
  refine ⟨fun h => Later.go ?_, fun h => absurd h (by omega)⟩
  simp only [vx, T, seval, cA, edC, bkC]
  exact VLe.of_eq rfl

open Classical in
set_option maxRecDepth 10000 in
set_option maxHeartbeats 1000000 in
theorem tree_yes (hm : m ≤ 5) (hl : ls.length ≤ 10) (hn : nb ≤ 20) (hg : GV n 4 m f) {a b c : Int} {P : C} {k : Nat} (t : TF n m f a b c P k) :
    FreshG Tryz.prog 5 [.agg (cA n m f ls nb bk)] (trip (.agg (tC a b c P)) (.bool true)) (.ints 3 .i64 (brs nb bk (4 * k))) := by
  have v := valid36 (n := n) (most := 4) (m := m) (f := f) (by omega)
  rw [decide_eq_true hg] at v
  have ow := own40 (n := n) (m := m) (f := f) (by omega)
  obtain ⟨hs, hk, hb, c1, c2, c3, _⟩ := t
  obtain ⟨K, hK⟩ : ∃ K, K = 4 * k := ⟨_, rfl⟩
  have w4 : IntKind.i64.wrap (4 * (k : Int)) = (K : Int) := by rw [IntWalk.i64_in _ (by omega)]; omega
  rw [← hK]
  rcases hs with rfl | ⟨w, F, rfl⟩
  · simp only [gA, edC, tC] at v ow hb c1 c2 c3 ⊢
    refine freshG_of_vc T_ok mixed Tryz.func5 rfl (by decide) _ (by simp [Tryz.ntmps5]) ⟨[0, 1, 2, 3, 4, 5, 6, 7, 8, 9, 32, 54, 58, 59, 60, 73], []⟩ (by kernel_rfl) (.agg _) (.ints 3 .i64 (brs nb bk K)) (.bool true) rfl trivial trivial ?_
    show vc T Tryz.prog ⟨[0, 1, 2, 3, 4, 5, 6, 7, 8, 9, 32, 54, 58, 59, 60, 73], []⟩ (Option.get! Tryz.f5.body) _ _
    simp only [Tryz.f5, Tryz.ntmps5, Option.get!, initSt, initM, envOf, Nat.reduceAdd]
    simp only [vx, T, seval, cA, edC, bkC]
    refine ⟨fun h => absurd h (by omega), fun _ => Later.go ?_⟩
    simp only [vx, T, seval, cA, edC, bkC]
    refine CallK.go v ?_
    simp only [vx, T, seval, cA, edC, bkC]
    refine ⟨fun h => absurd h (by omega), fun _ => Later.go ?_⟩
    simp only [vx, T, seval, cA, edC, bkC]
    refine ⟨fun h => absurd h (by omega), fun _ => Later.go ?_⟩
    simp only [vx, T, seval, cA, edC, bkC]
    refine CallK.go ow ?_
    simp only [vx, T, seval, cA, edC, bkC]
    refine CallK.go hb ?_
    simp only [vx, T, seval, cA, edC, bkC]
    refine CallK.go c1 ?_
    simp only [vx, T, seval, cA, edC, bkC]
    refine CallK.go c2 ?_
    simp only [vx, T, seval, cA, edC, bkC]
    refine CallK.go c3 ?_
    simp only [vx, T, seval, cA, edC, bkC, w4]
    refine LoopK.go (fun y : {i : Nat // i ≤ K} => ⟨[(0, .agg (cA n m f ls nb bk)), (1, .one (.ptr 1 0)), (2, .one (.ptr 2 0)), (3, .one .nil), (4, .one (.bool false)), (5, .one (.ptr 3 0)), (7, .one (.own 4 1 0 y.1)), (58, .one (.int .i64 K)), (59, .one (.int .i64 y.1))],
      [(1, ⟨.var (cA n m f ls nb bk), true⟩), (2, ⟨.var [.int .i64 0, .int .i64 0, .int .i64 0, .nil], true⟩), (3, ⟨.var [.int .i64 a, .int .i64 b, .int .i64 c, .nil], true⟩), (4, ⟨.ints 3 .i64 (brs nb bk y.1), true⟩)], 5, 81⟩) (fun y => K - y.1) ⟨0, Nat.zero_le _⟩ ?_ (fun ⟨i, hi⟩ => ?_)
    · refine Sub.auto ?_; simp only [rx, envRen, vRen, cRen, lRen, ownRen, bRen, apartRen, emptyBk, ren, seval, autoR, autoOne, Int.natCast_add, Int.natCast_one, Int.natCast_zero, cA, edC, bkC, brs, List.range_zero, List.map_nil, List.length_nil]
    simp only
    have wi : IntKind.i64.wrap ((i : Int) + 1) = ((i + 1 : Nat) : Int) := by rw [IntWalk.i64_in _ (by omega)]; omega
    simp only [vx, T, seval, cA, edC, bkC]
    refine ⟨fun g => Later.go ?_, fun g => Later.go ?_⟩
    · have ln := brs_len nb bk i
      have tk : List.take i (brs nb bk i) = brs nb bk i := List.take_of_length_le (by omega)
      have sc := brs_succ nb bk i
      have fin : ∀ x : Int, x = (if i < nb ∧ bk i = true then -1 else 1) → brs nb bk i ++ [x] = brs nb bk (i + 1) := fun x hx => by rw [hx, ← sc]
      simp only [vx, T, seval, cA, edC, bkC]
      refine ⟨fun g1 => Later.go ?_, fun g1 => Later.go ?_⟩
      · simp only [vx, T, seval, cA, edC, bkC]
        refine ⟨by omega, ?_⟩
        refine ⟨fun g2 => Later.go ?_, fun g2 => Later.go ?_⟩
        · have fi := fin (-1) (if_pos ⟨by omega, g2⟩).symm
          simp only [vx, T, seval, cA, edC, bkC, wi, ln, tk, fi]
          refine ⟨⟨by omega, by omega⟩, loopQ.go ⟨i + 1, by omega⟩ ?_ (by show K - (i + 1) < K - i; omega)⟩
          refine Sub.auto ?_; simp only [rx, envRen, vRen, cRen, lRen, ownRen, bRen, apartRen, emptyBk, ren, seval, autoR, autoOne, Int.natCast_add, Int.natCast_one, Int.natCast_zero, cA, edC, bkC, brs_len]
        · have fi := fin 1 (if_neg fun h => by simp [g2] at h).symm
          simp only [vx, T, seval, cA, edC, bkC, wi, ln, tk, fi]
          refine ⟨⟨by omega, by omega⟩, loopQ.go ⟨i + 1, by omega⟩ ?_ (by show K - (i + 1) < K - i; omega)⟩
          refine Sub.auto ?_; simp only [rx, envRen, vRen, cRen, lRen, ownRen, bRen, apartRen, emptyBk, ren, seval, autoR, autoOne, Int.natCast_add, Int.natCast_one, Int.natCast_zero, cA, edC, bkC, brs_len]
      · have fi := fin 1 (if_neg fun h => g1 (by omega)).symm
        simp only [vx, T, seval, cA, edC, bkC, wi, ln, tk, fi]
        refine ⟨⟨by omega, by omega⟩, loopQ.go ⟨i + 1, by omega⟩ ?_ (by show K - (i + 1) < K - i; omega)⟩
        refine Sub.auto ?_; simp only [rx, envRen, vRen, cRen, lRen, ownRen, bRen, apartRen, emptyBk, ren, seval, autoR, autoOne, Int.natCast_add, Int.natCast_one, Int.natCast_zero, cA, edC, bkC, brs_len]
    · obtain rfl : i = K := by omega
      simp only [vx, T, seval, cA, edC, bkC]
      exact ⟨(brs_len nb bk i).symm, rfl, rfl⟩
  · simp only [gA, edC, tC] at v ow hb c1 c2 c3 ⊢
    refine freshG_of_vc T_ok mixed Tryz.func5 rfl (by decide) _ (by simp [Tryz.ntmps5]) ⟨[0, 1, 2, 3, 4, 5, 6, 7, 8, 9, 32, 54, 58, 59, 60, 73], []⟩ (by kernel_rfl) (.agg _) (.ints 3 .i64 (brs nb bk K)) (.bool true) rfl trivial trivial ?_
    show vc T Tryz.prog ⟨[0, 1, 2, 3, 4, 5, 6, 7, 8, 9, 32, 54, 58, 59, 60, 73], []⟩ (Option.get! Tryz.f5.body) _ _
    simp only [Tryz.f5, Tryz.ntmps5, Option.get!, initSt, initM, envOf, Nat.reduceAdd]
    simp only [vx, T, seval, cA, edC, bkC]
    refine ⟨fun h => absurd h (by omega), fun _ => Later.go ?_⟩
    simp only [vx, T, seval, cA, edC, bkC]
    refine CallK.go v ?_
    simp only [vx, T, seval, cA, edC, bkC]
    refine ⟨fun h => absurd h (by omega), fun _ => Later.go ?_⟩
    simp only [vx, T, seval, cA, edC, bkC]
    refine ⟨fun h => absurd h (by omega), fun _ => Later.go ?_⟩
    simp only [vx, T, seval, cA, edC, bkC]
    refine CallK.go ow ?_
    simp only [vx, T, seval, cA, edC, bkC]
    refine CallK.go hb ?_
    simp only [vx, T, seval, cA, edC, bkC]
    refine CallK.go c1 ?_
    simp only [vx, T, seval, cA, edC, bkC]
    refine CallK.go c2 ?_
    simp only [vx, T, seval, cA, edC, bkC]
    refine CallK.go c3 ?_
    simp only [vx, T, seval, cA, edC, bkC, w4]
    refine LoopK.go (fun y : {i : Nat // i ≤ K} => ⟨[(0, .agg (cA n m f ls nb bk)), (1, .one (.ptr 1 0)), (2, .one (.ptr 2 0)), (3, .one .nil), (4, .one (.bool false)), (5, .one (.ptr 3 0)), (7, .one (.own 4 1 0 y.1)), (58, .one (.int .i64 K)), (59, .one (.int .i64 y.1))],
      [(1, ⟨.var (cA n m f ls nb bk), true⟩), (2, ⟨.var [.int .i64 0, .int .i64 0, .int .i64 0, .nil], true⟩), (3, ⟨.var [.int .i64 a, .int .i64 b, .int .i64 c, .rows 4 w F], true⟩), (4, ⟨.ints 3 .i64 (brs nb bk y.1), true⟩)], 5, 81⟩) (fun y => K - y.1) ⟨0, Nat.zero_le _⟩ ?_ (fun ⟨i, hi⟩ => ?_)
    · refine Sub.auto ?_; simp only [rx, envRen, vRen, cRen, lRen, ownRen, bRen, apartRen, emptyBk, ren, seval, autoR, autoOne, Int.natCast_add, Int.natCast_one, Int.natCast_zero, cA, edC, bkC, brs, List.range_zero, List.map_nil, List.length_nil]
    simp only
    have wi : IntKind.i64.wrap ((i : Int) + 1) = ((i + 1 : Nat) : Int) := by rw [IntWalk.i64_in _ (by omega)]; omega
    simp only [vx, T, seval, cA, edC, bkC]
    refine ⟨fun g => Later.go ?_, fun g => Later.go ?_⟩
    · have ln := brs_len nb bk i
      have tk : List.take i (brs nb bk i) = brs nb bk i := List.take_of_length_le (by omega)
      have sc := brs_succ nb bk i
      have fin : ∀ x : Int, x = (if i < nb ∧ bk i = true then -1 else 1) → brs nb bk i ++ [x] = brs nb bk (i + 1) := fun x hx => by rw [hx, ← sc]
      simp only [vx, T, seval, cA, edC, bkC]
      refine ⟨fun g1 => Later.go ?_, fun g1 => Later.go ?_⟩
      · simp only [vx, T, seval, cA, edC, bkC]
        refine ⟨by omega, ?_⟩
        refine ⟨fun g2 => Later.go ?_, fun g2 => Later.go ?_⟩
        · have fi := fin (-1) (if_pos ⟨by omega, g2⟩).symm
          simp only [vx, T, seval, cA, edC, bkC, wi, ln, tk, fi]
          refine ⟨⟨by omega, by omega⟩, loopQ.go ⟨i + 1, by omega⟩ ?_ (by show K - (i + 1) < K - i; omega)⟩
          refine Sub.auto ?_; simp only [rx, envRen, vRen, cRen, lRen, ownRen, bRen, apartRen, emptyBk, ren, seval, autoR, autoOne, Int.natCast_add, Int.natCast_one, Int.natCast_zero, cA, edC, bkC, brs_len]
        · have fi := fin 1 (if_neg fun h => by simp [g2] at h).symm
          simp only [vx, T, seval, cA, edC, bkC, wi, ln, tk, fi]
          refine ⟨⟨by omega, by omega⟩, loopQ.go ⟨i + 1, by omega⟩ ?_ (by show K - (i + 1) < K - i; omega)⟩
          refine Sub.auto ?_; simp only [rx, envRen, vRen, cRen, lRen, ownRen, bRen, apartRen, emptyBk, ren, seval, autoR, autoOne, Int.natCast_add, Int.natCast_one, Int.natCast_zero, cA, edC, bkC, brs_len]
      · have fi := fin 1 (if_neg fun h => g1 (by omega)).symm
        simp only [vx, T, seval, cA, edC, bkC, wi, ln, tk, fi]
        refine ⟨⟨by omega, by omega⟩, loopQ.go ⟨i + 1, by omega⟩ ?_ (by show K - (i + 1) < K - i; omega)⟩
        refine Sub.auto ?_; simp only [rx, envRen, vRen, cRen, lRen, ownRen, bRen, apartRen, emptyBk, ren, seval, autoR, autoOne, Int.natCast_add, Int.natCast_one, Int.natCast_zero, cA, edC, bkC, brs_len]
    · obtain rfl : i = K := by omega
      simp only [vx, T, seval, cA, edC, bkC]
      exact ⟨(brs_len nb bk i).symm, rfl, rfl⟩
end
end Go.Proofs.YtkmgkfneeobcgaaGreat

/-! ## FnA -/
namespace Go.Proofs.YtkmgkfneeobcgaaGreat
open Go Go.Eng

theorem val_trim {ys : List Int} (h : InR ys) (h0 : 0 < ys.length) (hl : ys.getD (ys.length - 1) 0 = 0) : val (ys.take (ys.length - 1)) = val ys := by
  have e := val_append (ys.take (ys.length - 1)) (ys.drop (ys.length - 1))
  rw [List.take_append_drop] at e
  have h1 : ys.drop (ys.length - 1) = [0] := by
    rw [List.getD_eq_getElem?_getD, List.getElem?_eq_getElem (by omega)] at hl
    rw [List.drop_eq_getElem_cons (by omega), List.drop_of_length_le (by omega)]
    simpa using hl
  rw [h1] at e
  simp [val] at e
  exact e.symm

set_option maxRecDepth 10000 in
theorem itrim_spec (xs : List Int) (hr : InR xs) (hx : xs.length < 2 ^ 62) : PureCalls Tryz.prog 196 [.one (.ints .u32 xs)] (.one (.ints .u32 (limbs (val xs)))) := by
  refine pure_of_vc T_ok mixed Tryz.func196 rfl (by decide) _ (by simp [Tryz.ntmps196]) ⟨[0, 2, 14], []⟩ (by kernel_rfl) _ ?_
  show vc T Tryz.prog ⟨[0, 2, 14], []⟩ (Option.get! Tryz.f196.body) _ _
  simp only [Tryz.f196, Tryz.ntmps196, Option.get!, initSt, initM, envOf, Nat.reduceAdd]
  simp only [vx, T, seval]
  refine LoopK.go (fun ys : {l : List Int // l.length < 2 ^ 62 ∧ InR l ∧ val l = val xs} => ⟨[(0, .one (.ints .u32 ys))], [], 3, 21⟩) (fun ys => ys.1.length) ⟨xs, hx, hr, rfl⟩ ?_ (fun ⟨ys, hy, hyr, hyv⟩ => ?_)
  · refine Sub.auto ?_; simp only [rx, envRen, vRen, cRen, lRen, ownRen, bRen, apartRen, emptyBk, ren, seval, autoR, autoOne, Int.natCast_add, Int.natCast_one, Int.natCast_zero]
  simp only [vx, T, seval]
  refine ⟨fun h => Later.go ?_, fun h => Later.go ?_⟩
  · simp only [vx, T, seval]
    rw [IntWalk.i64_in _ (by omega)]
    refine ⟨by omega, ?_⟩
    refine ⟨fun h => Later.go ?_, fun h => Later.go ?_⟩
    · simp only [vx, T, seval]
      rw [IntWalk.i64_in _ (by omega)]
      refine ⟨by omega, loopQ.go ⟨ys.take (ys.length - 1), by simp; omega, hyr.take _, ?_⟩ ?_ ?_⟩
      · rw [val_trim hyr (by omega) (by rw [show ys.length - 1 = ((ys.length : Int) - 1).toNat by omega]; exact h), hyv]
      · refine Sub.auto ?_; simp only [rx, envRen, vRen, cRen, lRen, ownRen, bRen, apartRen, emptyBk, ren, seval, autoR, autoOne, Int.natCast_add, Int.natCast_one, Int.natCast_zero]
        rw [show ((ys.length : Int) - 1).toNat = ys.length - 1 by omega]
      · simp; omega
    · simp only [vx, T, seval]
      refine VLe.of_eq ?_
      rw [← hyv, limbs_val_last hyr (.inr (by rw [show ys.length - 1 = ((ys.length : Int) - 1).toNat by omega]; exact h))]
  · simp only [vx, T, seval]
    refine VLe.of_eq ?_
    rw [← hyv, limbs_val_last hyr (.inl (List.length_eq_zero_iff.1 (by omega)))]

set_option maxRecDepth 10000 in
theorem rtrim_spec (xs : List Int) (hr : InR xs) (hx : xs.length < 2 ^ 62) : PureCalls Tryz.prog 136 [.one (.ints .u32 xs)] (.one (.ints .u32 (limbs (val xs)))) := by
  refine pure_of_vc T_ok mixed Tryz.func136 rfl (by decide) _ (by simp [Tryz.ntmps136]) ⟨[0, 2, 14], []⟩ (by kernel_rfl) _ ?_
  show vc T Tryz.prog ⟨[0, 2, 14], []⟩ (Option.get! Tryz.f136.body) _ _
  simp only [Tryz.f136, Tryz.ntmps136, Option.get!, initSt, initM, envOf, Nat.reduceAdd]
  simp only [vx, T, seval]
  refine LoopK.go (fun ys : {l : List Int // l.length < 2 ^ 62 ∧ InR l ∧ val l = val xs} => ⟨[(0, .one (.ints .u32 ys))], [], 3, 21⟩) (fun ys => ys.1.length) ⟨xs, hx, hr, rfl⟩ ?_ (fun ⟨ys, hy, hyr, hyv⟩ => ?_)
  · refine Sub.auto ?_; simp only [rx, envRen, vRen, cRen, lRen, ownRen, bRen, apartRen, emptyBk, ren, seval, autoR, autoOne, Int.natCast_add, Int.natCast_one, Int.natCast_zero]
  simp only [vx, T, seval]
  refine ⟨fun h => Later.go ?_, fun h => Later.go ?_⟩
  · simp only [vx, T, seval]
    rw [IntWalk.i64_in _ (by omega)]
    refine ⟨by omega, ?_⟩
    refine ⟨fun h => Later.go ?_, fun h => Later.go ?_⟩
    · simp only [vx, T, seval]
      rw [IntWalk.i64_in _ (by omega)]
      refine ⟨by omega, loopQ.go ⟨ys.take (ys.length - 1), by simp; omega, hyr.take _, ?_⟩ ?_ ?_⟩
      · rw [val_trim hyr (by omega) (by rw [show ys.length - 1 = ((ys.length : Int) - 1).toNat by omega]; exact h), hyv]
      · refine Sub.auto ?_; simp only [rx, envRen, vRen, cRen, lRen, ownRen, bRen, apartRen, emptyBk, ren, seval, autoR, autoOne, Int.natCast_add, Int.natCast_one, Int.natCast_zero]
        rw [show ((ys.length : Int) - 1).toNat = ys.length - 1 by omega]
      · simp; omega
    · simp only [vx, T, seval]
      refine VLe.of_eq ?_
      rw [← hyv, limbs_val_last hyr (.inr (by rw [show ys.length - 1 = ((ys.length : Int) - 1).toNat by omega]; exact h))]
  · simp only [vx, T, seval]
    refine VLe.of_eq ?_
    rw [← hyv, limbs_val_last hyr (.inl (List.length_eq_zero_iff.1 (by omega)))]

theorem InR_words (n : Nat) : InR [IntKind.u32.wrap n, IntKind.u32.wrap ((n : Int).fdiv 4294967296)] := by
  refine InR.cons ?_ (InR.one ?_) <;> (rw [IntKind.wrap_u32]; omega)
theorem val_words {n : Nat} (hn : n < 2 ^ 64) : val [IntKind.u32.wrap n, IntKind.u32.wrap ((n : Int).fdiv 4294967296)] = n := by
  simp only [val, IntKind.wrap_u32, BB]
  rw [Int.fdiv_eq_ediv_of_nonneg _ (by decide)]
  have h1 : ((n : Int) % 4294967296).toNat = n % 4294967296 := by omega
  have h2 : ((n : Int) / 4294967296 % 4294967296).toNat = n / 4294967296 := by omega
  rw [h1, h2]
  omega

set_option maxRecDepth 10000 in
theorem ifromUint_spec (n : Nat) (hn : n < 2 ^ 64) : PureCalls Tryz.prog 207 [.one (.int .u64 n)] (.one (.ints .u32 (limbs n))) := by
  refine pure_of_vc T_ok mixed Tryz.func207 rfl (by decide) _ (by simp [Tryz.ntmps207]) ⟨[0, 2], []⟩ (by kernel_rfl) _ ?_
  show vc T Tryz.prog ⟨[0, 2], []⟩ (Option.get! Tryz.f207.body) _ _
  simp only [Tryz.f207, Tryz.ntmps207, Option.get!, initSt, initM, envOf, Nat.reduceAdd]
  simp only [vx, T, seval]
  refine CallK.go (itrim_spec _ (InR_words n) (by simp)) ?_
  rw [val_words hn]
  simp only [vx, T, seval]
  refine VLe.auto ?_; simp only [vLe, vLeL, rx, envRen, vRen, cRen, lRen, ownRen, bRen, apartRen, emptyBk, ren, seval]

set_option maxRecDepth 10000 in
theorem rwords_spec (n : Nat) (hn : n < 2 ^ 64) : PureCalls Tryz.prog 83 [.one (.int .u64 n)] (.one (.ints .u32 (limbs n))) := by
  refine pure_of_vc T_ok mixed Tryz.func83 rfl (by decide) _ (by simp [Tryz.ntmps83]) ⟨[0, 2], []⟩ (by kernel_rfl) _ ?_
  show vc T Tryz.prog ⟨[0, 2], []⟩ (Option.get! Tryz.f83.body) _ _
  simp only [Tryz.f83, Tryz.ntmps83, Option.get!, initSt, initM, envOf, Nat.reduceAdd]
  simp only [vx, T, seval]
  refine CallK.go (rtrim_spec _ (InR_words n) (by simp)) ?_
  rw [val_words hn]
  simp only [vx, T, seval]
  refine VLe.auto ?_; simp only [vLe, vLeL, rx, envRen, vRen, cRen, lRen, ownRen, bRen, apartRen, emptyBk, ren, seval]

theorem limbs_len_zero {n : Nat} (h : (nl n : Int) = 0) : n = 0 := nl_eq_zero.1 (by omega)
theorem limbs_len_pos {n : Nat} (h : ¬ (nl n : Int) = 0) : 0 < n := nl_pos.1 (by omega)

set_option maxRecDepth 10000 in
theorem isigned_spec (b : Bool) (xs : List Int) (hr : InR xs) (hx : xs.length < 2 ^ 62) : PureCalls Tryz.prog 206 [.one (.bool b), .one (.ints .u32 xs)] (.agg [.bool (b && decide (0 < val xs)), .ints .u32 (limbs (val xs))]) := by
  refine pure_of_vc T_ok mixed Tryz.func206 rfl (by decide) _ (by simp [Tryz.ntmps206]) ⟨[0, 1, 4, 9], []⟩ (by kernel_rfl) _ ?_
  show vc T Tryz.prog ⟨[0, 1, 4, 9], []⟩ (Option.get! Tryz.f206.body) _ _
  simp only [Tryz.f206, Tryz.ntmps206, Option.get!, initSt, initM, envOf, Nat.reduceAdd]
  simp only [vx, T, seval]
  refine CallK.go (itrim_spec xs hr hx) ?_
  simp only [vx, T, seval]
  refine ⟨fun h => Later.go ?_, fun h => Later.go ?_⟩
  · simp only [vx, T, seval]
    have h0 := limbs_len_zero h
    refine VLe.auto ?_; simp only [vLe, vLeL, rx, envRen, vRen, cRen, lRen, ownRen, bRen, apartRen, emptyBk, ren, seval, h0, limbs_zero, Nat.lt_irrefl]
  · simp only [vx, T, seval]
    have h0 := limbs_len_pos h
    refine VLe.auto ?_; simp only [vLe, vLeL, rx, envRen, vRen, cRen, lRen, ownRen, bRen, apartRen, emptyBk, ren, seval, h0]

set_option maxRecDepth 10000 in
theorem rsigned_spec (b : Bool) (xs : List Int) (hr : InR xs) (hx : xs.length < 2 ^ 62) : PureCalls Tryz.prog 82 [.one (.bool b), .one (.ints .u32 xs)] (.agg [.bool (b && decide (0 < val xs)), .ints .u32 (limbs (val xs))]) := by
  refine pure_of_vc T_ok mixed Tryz.func82 rfl (by decide) _ (by simp [Tryz.ntmps82]) ⟨[0, 1, 4], []⟩ (by kernel_rfl) _ ?_
  show vc T Tryz.prog ⟨[0, 1, 4], []⟩ (Option.get! Tryz.f82.body) _ _
  simp only [Tryz.f82, Tryz.ntmps82, Option.get!, initSt, initM, envOf, Nat.reduceAdd]
  simp only [vx, T, seval]
  refine CallK.go (rtrim_spec xs hr hx) ?_
  simp only [vx, T, seval]
  refine ⟨fun h0 => Later.go ?_, fun h0 => Later.go ?_⟩
  · subst h0
    simp only [vx, T, seval]
    by_cases h : 0 < val xs
    · have h1 := nl_pos.2 h
      refine VLe.auto ?_; simp only [vLe, vLeL, rx, envRen, vRen, cRen, lRen, ownRen, bRen, apartRen, emptyBk, ren, seval, h, decide_true, Bool.true_and, Int.natCast_pos, h1]
    · have h1 : val xs = 0 := by omega
      refine VLe.auto ?_; simp only [vLe, vLeL, rx, envRen, vRen, cRen, lRen, ownRen, bRen, apartRen, emptyBk, ren, seval, h1, limbs_zero, nl_zero, Nat.lt_irrefl, Int.natCast_zero, Int.lt_irrefl]
  · subst h0
    simp only [vx, T, seval]
    refine VLe.auto ?_; simp only [vLe, vLeL, rx, envRen, vRen, cRen, lRen, ownRen, bRen, apartRen, emptyBk, ren, seval]

end Go.Proofs.YtkmgkfneeobcgaaGreat

/-! ## Or64 -/
namespace Go.Proofs.YtkmgkfneeobcgaaGreat
open Go Go.Proofs Go.RowKit Go.Eng

theorem bits_or64 {a b : Nat} (ha : a < 2 ^ 64) (hb : b < 2 ^ 64) : bitsOp .or .u64 (a : Int) (b : Int) = ((a ||| b : Nat) : Int) := by
  have hab : a ||| b < 2 ^ 64 := Nat.or_lt_two_pow ha hb
  show IntKind.u64.wrap ((BitVec.ofInt 64 (a : Int) ||| BitVec.ofInt 64 (b : Int)).toNat : Int) = _
  simp only [BitVec.ofInt_natCast, BitVec.toNat_or, BitVec.toNat_ofNat]
  rw [Nat.mod_eq_of_lt ha, Nat.mod_eq_of_lt hb]
  rw [show IntKind.u64.wrap ((a ||| b : Nat) : Int) = ((a ||| b : Nat) : Int) % 18446744073709551616 from rfl]
  omega

end Go.Proofs.YtkmgkfneeobcgaaGreat

/-! ## Tou -/
namespace Go.Proofs.YtkmgkfneeobcgaaGreat
open Go Go.Proofs Go.RowKit Go.Shelf Go.Eng

attribute [local go_sem] Oper.semAt_some

/-- What has come when k rounds are over, of a list of m words. -/
def upB (zs : List Int) (m k : Nat) : List (Nat × Int) := (List.range k).map fun j => (m - 1 - j, zs[m - 1 - j]?.getD 0)
theorem upB_succ (zs : List Int) (m k : Nat) : upB zs m (k + 1) = upB zs m k ++ [(m - 1 - k, zs[m - 1 - k]?.getD 0)] := by simp [upB, List.range_succ]
theorem upB_length (zs : List Int) (m k : Nat) : (upB zs m k).length = k := by simp [upB]

/-- What a round keeps: what lay below, and the box of the slice. -/
def KpB (n₀ Bs : Nat) (sv : Value) (W W' : World) : Prop := Below n₀ W W' ∧ (W.cell? ⟨Bs, 0, none⟩ = some sv → W'.cell? ⟨Bs, 0, none⟩ = some sv)
theorem kpB_t {n₀ Bs : Nat} {sv : Value} {A B C : World} (h : KpB n₀ Bs sv A B) (k : KpB n₀ Bs sv B C) : KpB n₀ Bs sv A C := ⟨h.1.trans k.1, fun e => k.2 (h.2 e)⟩
theorem kpB_b {n₀ Bs : Nat} {sv : Value} {w : World} (hn : n₀ ≤ w.heap.size) (hb : Bs < w.heap.size) (W : World) (l : Nat) (o o' : Obj) (hl : w.heap.size ≤ l) (h : W.heap[l]? = some o) (hc : o.isCells = false) (hw : o.isWalk = false) : KpB n₀ Bs sv W (W.putObj l o') :=
  ⟨belowK_b hn W l o o' hl h hc hw, fun e => ((belowK_b (n₀ := w.heap.size) (Nat.le_refl _) W l o o' hl h hc hw).cell (p := ⟨Bs, 0, none⟩) hb).trans e⟩

set_option maxRecDepth 100000 in
set_option maxHeartbeats 2000000 in
theorem back1_in (F : Fence) (n : Nat) (h8 : F.fn 302) (hro : F.round = none) (hn : 1 ≤ n) (l Bs n₀ b off len cap : Nat) (zs : List Int) (hreach : len * 8 ≤ 140737488351232) (hb : b < n₀) (J Jx : List (Nat × Int) → World → Prop)
    (hY : ∀ pre x W, J pre W → pre.length < len → YieldAt F (n - 1) Tryz.prog l #[.int .i64 (x.1 : Int), .int .u32 x.2] W fun e W' =>
      (e = .returned (.bool true) ∧ J (pre ++ [x]) W' ∧ KpB n₀ Bs (.slice (some ⟨b, off, none⟩) len cap) W W') ∨ (e = .returned (.bool false) ∧ Jx (pre ++ [x]) W'))
    (W : World) (hBs : W.cell? ⟨Bs, 0, none⟩ = some (.slice (some ⟨b, off, none⟩) len cap)) (hc : ∀ j, j < len → W.cell? ⟨b, off + j, none⟩ = some (.int .u32 (zs[j]?.getD 0))) (h0 : J [] W) :
    CallsIn F n Tryz.prog 302 #[.func (.yield l) #[] #[], .pointer (some ⟨Bs, 0, none⟩)] W fun e W' => (∃ v, e = .returned v) ∧
      ((∃ ys, ys = upB zs len len ∧ J ys W') ∨ (∃ pre, (∃ k, k ≤ len ∧ pre = upB zs len k) ∧ Jx pre W')) := by
  refine callsIn_of_wp Tryz.func302 rfl h8 ?_ hro
  simp only [Tryz.ntmps302, List.size_toArray, List.length_cons, List.length_nil, Nat.reduceAdd, Nat.reduceSub, Array.replicate_succ, Array.replicate_zero, List.push_toArray, List.append_toArray, List.nil_append, List.cons_append]
  gi_wp2
  gi_loopw [3] (fun i wr => ∃ m k : Nat, m + k = len ∧ i = .int .i64 ((m : Int) - 1) ∧ J (upB zs len k) wr ∧ KpB n₀ Bs (.slice (some ⟨b, off, none⟩) len cap) W wr)
    (fun i _ => (intOf i + 1).toNat)
  case atStart => exact ⟨len, 0, rfl, rfl, h0, Below.refl _ _, id⟩
  case round =>
    obtain ⟨m, k, hk, rfl, hJs, hnx⟩ := hrel
    rcases m with _ | m
    · obtain rfl : k = len := by omega
      gi_wp2
      go_end0
      exact ⟨⟨_, rfl⟩, .inl ⟨_, rfl, hJs⟩⟩
    · have hcx' : wr.cell? ⟨b, off + m, none⟩ = some (.int .u32 (zs[m]?.getD 0)) := (hnx.1.cell (p := ⟨b, off + m, none⟩) hb).trans (hc m (by omega))
      have hbx := hnx.2 hBs
      obtain ⟨fn, tmps, assign, body, hy, hR⟩ := hY _ (m, zs[m]?.getD 0) wr hJs (by rw [upB_length]; omega)
      dsimp only at hy
      have e0 : upB zs len (k + 1) = upB zs len k ++ [(m, zs[m]?.getD 0)] := by rw [upB_succ, show len - 1 - k = m by omega]
      have hE := Lib.hid e0
      clear e0
      obtain ⟨i0, hi0⟩ : ∃ i0 : Int, i0 = m := ⟨_, rfl⟩
      have em : ((m + 1 : Nat) : Int) - 1 = m := by omega
      rw [em]
      clear em
      have hml : m < len := by omega
      gi_wp2
      refine hR.mono ?_
      rintro e W3 (⟨rfl, hJ3, hk3⟩ | ⟨rfl, hJx3⟩)
      · gi_wp2
        go_roundw
        case rel => exact ⟨m, k + 1, by omega, by simp, by rw [hE.out]; exact hJ3, kpB_t hnx hk3⟩
        case measure => simp [intOf]
      · gi_wp2
        refine bodyPost_ret (results_none rfl _ _ _) rfl ?_
        exact ⟨⟨_, rfl⟩, .inr ⟨_, ⟨k + 1, by omega, hE.out.symm⟩, hJx3⟩⟩

/-- The slice value sv holds the words zs. -/
def WordsAt (n₀ : Nat) (W : World) (sv : Value) (zs : List Int) : Prop :=
  ∃ a cap, sv = .slice a zs.length cap ∧ (zs.length = 0 ∨ ∃ b off, a = some ⟨b, off, none⟩ ∧ b < n₀ ∧ ∀ j, j < zs.length → W.cell? ⟨b, off + j, none⟩ = some (.int .u32 (zs[j]?.getD 0)))
theorem WordsAt.below {n₀ : Nat} {A B : World} (h : Below n₀ A B) {sv : Value} {zs : List Int} : WordsAt n₀ A sv zs → WordsAt n₀ B sv zs
  | ⟨a, cap, e, .inl h0⟩ => ⟨a, cap, e, .inl h0⟩
  | ⟨a, cap, e, .inr ⟨b, off, ha, hb, hc⟩⟩ => ⟨a, cap, e, .inr ⟨b, off, ha, hb, fun j hj => (h.cell (p := ⟨b, off + j, none⟩) hb).trans (hc j hj)⟩⟩

set_option maxRecDepth 100000 in
set_option maxHeartbeats 1000000 in
theorem back1_nil_in (F : Fence) (n : Nat) (h8 : F.fn 302) (hro : F.round = none) (l Bs cap : Nat) (a : Option Addr) (J : List (Nat × Int) → World → Prop) (W : World) (hBs : W.cell? ⟨Bs, 0, none⟩ = some (.slice a 0 cap)) (h0 : J [] W) :
    CallsIn F n Tryz.prog 302 #[.func (.yield l) #[] #[], .pointer (some ⟨Bs, 0, none⟩)] W fun e W' => (∃ v, e = .returned v) ∧ J [] W' := by
  refine callsIn_of_wp Tryz.func302 rfl h8 ?_ hro
  simp only [Tryz.ntmps302, List.size_toArray, List.length_cons, List.length_nil, Nat.reduceAdd, Nat.reduceSub, Array.replicate_succ, Array.replicate_zero, List.push_toArray, List.append_toArray, List.nil_append, List.cons_append]
  gi_wp2
  gi_loopw [3] (fun i wr => i = .int .i64 (-1) ∧ J [] wr) (fun _ _ => 0)
  case atStart => exact ⟨rfl, h0⟩
  case round =>
    obtain ⟨rfl, hJs⟩ := hrel
    gi_wp2
    go_end0
    exact ⟨⟨_, rfl⟩, hJs⟩

set_option maxHeartbeats 1000000 in
theorem back_in (F : Fence) (n : Nat) (h6 : F.fn 285) (hro : F.round = none) (a : Option Addr) (len cap : Nat) (w : World) :
    CallsIn F n Tryz.prog 285 #[.slice a len cap] w fun e w' => e = .returned (.func (.func 302) #[] #[.pointer (some ⟨w.heap.size, 0, none⟩)]) ∧ w' = w.alloc (.cells #[.slice a len cap] 81) := by
  refine callsIn_of_wp Tryz.func285 rfl h6 ?_ hro
  simp only [Tryz.ntmps285, List.size_toArray, List.length_cons, List.length_nil, Nat.reduceAdd, Nat.reduceSub, Array.replicate_succ, Array.replicate_zero, List.push_toArray, List.append_toArray, List.nil_append, List.cons_append]
  gi_wp2
  go_ret
  exact ⟨rfl, rfl⟩

theorem back_stops (F : Fence) (n : Nat) (h8 : F.fn 302) (hro : F.round = none) (hn : 1 ≤ n) (Bs n₀ : Nat) (sv : Value) (zs : List Int) (hreach : zs.length * 8 ≤ 140737488351232) (w : World) (hBs : Bs < w.heap.size) (hn₀ : n₀ ≤ w.heap.size)
    (hc : w.cell? ⟨Bs, 0, none⟩ = some sv) (hI : WordsAt n₀ w sv zs) :
    SeqStopsK F n Tryz.prog 302 #[.pointer (some ⟨Bs, 0, none⟩)] (fun x : Nat × Int => #[Value.int .i64 (x.1 : Int), Value.int .u32 x.2]) (KpB n₀ Bs sv) (fun ys => ys = upB zs zs.length zs.length)
      (fun pre => ∃ k, k ≤ zs.length ∧ pre = upB zs zs.length k) zs.length w := fun l J Jx W hW _ _ hY h0 => by
  have hc' := (hW.cell (p := ⟨Bs, 0, none⟩) hBs).trans hc
  obtain ⟨a, cap, rfl, h1 | ⟨b, off, rfl, hb, hcs⟩⟩ := hI.below (hW.mono hn₀)
  · rw [h1] at hc' ⊢
    exact (back1_nil_in F n h8 hro l Bs cap a J W hc' h0).mono fun e W' ⟨he, hj⟩ => ⟨he, .inl ⟨_, by rfl, hj⟩⟩
  · exact back1_in F n h8 hro hn l Bs n₀ b off zs.length cap zs hreach hb J Jx hY W hc' hcs h0

def touStep (s x : Int) : Int := bits .or .u64 (IntKind.u64.wrap (s * 4294967296)) (IntKind.u64.wrap x)
def touW : List (Nat × Int) → Int := List.foldl (fun s p => touStep s p.2) 0
theorem touW_snoc (pre : List (Nat × Int)) (x : Nat × Int) : touW (pre ++ [x]) = touStep (touW pre) x.2 := by simp [touW]

set_option maxRecDepth 100000 in
set_option maxHeartbeats 2000000 in
theorem toUint_in (F : Fence) (n : Nat) (h3 : F.fn 256) (h5 : F.fn 285) (h7 : F.fn 302) (hro : F.round = none) (hn : 3 ≤ n) (a : Option Addr) (len cap : Nat) (zs : List Int) (hreach : zs.length * 8 ≤ 140737488351232) (w : World) (hI : WordsAt w.heap.size w (.slice a len cap) zs) :
    CallsIn F n Tryz.prog 256 #[.slice a len cap] w fun e W' => e = .returned (.int .u64 (touW (upB zs zs.length zs.length))) ∧ Below w.heap.size w W' := by
  have h1 : 1 ≤ n := by omega
  refine callsIn_of_wp_marks Tryz.func256 rfl h3 ?_ hro
  simp only [Tryz.ntmps256, List.size_toArray, List.length_cons, List.length_nil, Nat.reduceAdd, Nat.reduceSub, Array.replicate_succ, Array.replicate_zero, List.push_toArray, List.append_toArray, List.nil_append, List.cons_append]
  gi_wp2_with (gi_at_call 285; refine (back_in F (n - 1) h5 hro _ _ _ _).mono ?_; rintro e w' ⟨rfl, rfl⟩)
  have bS := Boxed.new w 144 (.int .u64 0)
  have bN := Boxed.new (w.alloc (.cells #[.int .u64 0] 144)) 81 (.slice a len cap)
  rw [World.size_alloc] at bN
  have hB0 : Below w.heap.size w ((w.alloc (.cells #[.int .u64 0] 144)).alloc (.cells #[.slice a len cap] 81)) := ((Below.refl _ w).alloc (Nat.le_refl _) _).alloc (by simp) _
  refine wpIn_rangeFunc_ownG hro h1 (gf := 302) (lb := #[.pointer (some ⟨w.heap.size + 1, 0, none⟩)]) rfl h7 (enters_of Tryz.func302 (by kernel_rfl) rfl)
    (back_stops F (n - 1) h7 hro (by omega) (w.heap.size + 1) w.heap.size _ zs hreach _ (by simp) (by simp; omega) bN.cell (hI.below hB0)) kpB_t (kpB_b (by simp; omega) (by simp)) (Below.refl _ _) (fun _ => rfl)
    (fun pre W => (W.cell? ⟨w.heap.size, 0, none⟩ = some (.int .u64 (touW pre)) ∧ W.frozen? ⟨w.heap.size, 0, none⟩ = false) ∧ Below w.heap.size w W)
    (fun _ _ _ => False)
    (OwnFrom.and (Own.from (fun s A B row hs hg hr => ⟨cell_kept hs.1 hg hr, (frozen_kept hs.1 hg hr).trans hs.2⟩) _) (ownFrom_below (Nat.le_refl _) (by simp; omega)))
    (fun _ _ _ _ _ hs _ _ => hs)
    ⟨⟨(bS.alloc _).cell, (bS.alloc _).frozen⟩, hB0⟩
    (fun x => { tmps := #[.slice a len cap, undef, .int .u64 0, .pointer (some ⟨w.heap.size, 0, none⟩), undef, .int .u32 x.2, .slice a len cap, .func (.func 302) #[] #[.pointer (some ⟨w.heap.size + 1, 0, none⟩)], .int .i64 (x.1 : Int), .int .u32 x.2, undef, undef, undef, undef, undef, undef], defers := [] }) ?assign ?body ?done ?stop
  case assign =>
    intro l x W K hK
    gi_wp2
    exact hK
  case body =>
    rintro l pre x W ⟨⟨hc, hf⟩, hB⟩ _
    gi_wp2
    exact ⟨(KeepsOthers.setCell _ _ _).from _, ⟨(Below.refl w.heap.size W).setCell (p := ⟨w.heap.size, 0, none⟩) (Nat.le_refl _) _, fun e => (World.cell?_setCell_other _ _ _ _ (by intro h; simp only [Addr.mk.injEq] at h; omega)).trans e⟩,
      ⟨by rw [touW_snoc]; exact World.cell?_setCell_same' _ _ _ (by rw [hc]; rfl), by rw [World.frozen?_setCell]; exact hf⟩, hB.setCell (p := ⟨w.heap.size, 0, none⟩) (Nat.le_refl _) _⟩
  case done =>
    rintro D ys W hD rfl ⟨⟨hc, _⟩, hB⟩ hK
    gi_wp2
    refine ⟨by simp, .inl ⟨_, _, rfl, run_takeDeferred hK, ?_⟩⟩
    exact ⟨_, results_tmp rfl _ _ _, rfl, hB.trans (belowK_b (w := w) (Nat.le_refl _) W D _ _ (by simp at hD; omega) hK rfl rfl)⟩
  case stop =>
    rintro D c pre W _ _ h _
    exact h.elim

theorem tou_step {s x : Nat} (hs : s < BB) (hx : x < BB) : touStep (s : Int) (x : Int) = ((s * BB + x : Nat) : Int) := by
  have h : bitsOp .or .u64 ((s : Int) * 4294967296) (x : Int) = ((s * BB + x : Nat) : Int) := by
    rw [show ((s : Int) * 4294967296) = ((s * 4294967296 : Nat) : Int) by omega]
    unfold BB at *
    have e := Nat.two_pow_add_eq_or_of_lt (i := 32) (b := x) (by omega) s
    rw [bits_or64 (by omega) (by omega)]
    have e2 : s * 4294967296 = 2 ^ 32 * s := Nat.mul_comm _ _
    rw [e2, ← e]
  unfold touStep
  rw [IntWalk.u64_in _ (by unfold BB at *; omega), IntWalk.u64_in _ (by unfold BB at *; omega)]
  exact h

theorem touW_limbs {n : Nat} (hn : n < 2 ^ 64) : touW (upB (limbs n) (nl n) (nl n)) = n := by
  have h2 : nl n ≤ 2 := nl_le_of_lt (by unfold BB; omega)
  have hr := InR.limbs n
  have hv := val_limbs n
  unfold nl at *
  generalize limbs n = l at *
  match l, h2 with
  | [], _ => simp [val] at hv; subst hv; rfl
  | [x], _ =>
    obtain ⟨x0, x1⟩ := hr.head
    obtain ⟨a, rfl⟩ := Int.eq_ofNat_of_zero_le x0
    simp [val] at hv
    have e : touW (upB [(a : Int)] 1 1) = touStep ((0 : Nat) : Int) a := rfl
    show touW (upB [(a : Int)] 1 1) = _
    rw [e, tou_step (by decide) (by unfold BB; omega)]
    omega
  | [x, y], _ =>
    obtain ⟨x0, x1⟩ := hr.head
    obtain ⟨a, rfl⟩ := Int.eq_ofNat_of_zero_le x0
    obtain ⟨y0, y1⟩ := hr.tail.head
    obtain ⟨b, rfl⟩ := Int.eq_ofNat_of_zero_le y0
    simp [val] at hv
    have e : touW (upB [(a : Int), (b : Int)] 2 2) = touStep (touStep ((0 : Nat) : Int) b) a := rfl
    show touW (upB [(a : Int), (b : Int)] 2 2) = _
    rw [e, tou_step (by decide) (by unfold BB; omega), Nat.zero_mul, Nat.zero_add, tou_step (by unfold BB; omega) (by unfold BB; omega)]
    unfold BB at *
    omega

theorem itoUint_spec (n : Nat) (hn : n < 2 ^ 64) : PureCalls Tryz.prog 256 [.one (.ints .u32 (limbs n))] (.one (.int .u64 n)) := by
  refine ⟨⟨_, Tryz.func256, by rfl, by rfl⟩, fun ok w vs hok hr => ?_⟩
  obtain ⟨vs⟩ := vs
  match vs, hr with
  | [v], hr =>
    obtain ⟨⟨a, cap, rfl, hle, hc⟩, _⟩ := hr
    have h2 : (limbs n).length ≤ 2 := nl_le_of_lt (by unfold BB; omega)
    have hI : WordsAt w.heap.size w (.slice a (limbs n).length cap) (limbs n) := by
      refine ⟨a, cap, rfl, ?_⟩
      rcases hc with hc | ⟨g, o, ha, hg, hc⟩
      · exact .inl hc
      · exact .inr ⟨g, o, ha, hok g hg, fun j hj => by rw [hc j hj, List.getD_eq_getElem?_getD]⟩
    refine (callsIn_wide.1 (toUint_in Fence.wide 3 trivial trivial trivial rfl (by omega) a (limbs n).length cap (limbs n) (by omega) w hI)).mono ?_
    rintro e W' ⟨rfl, hB⟩
    refine ⟨_, rfl, hB, ?_⟩
    show Value.int .u64 (touW (upB (limbs n) (nl n) (nl n))) = .int .u64 n
    rw [touW_limbs hn]

end Go.Proofs.YtkmgkfneeobcgaaGreat

/-! ## RnA -/
namespace Go.Proofs.YtkmgkfneeobcgaaGreat
open Go Go.Eng Go.Eng.Run
theorem tou (n : Nat) (hn : n < 2 ^ 64) (zs : List Int) (h : limbs n = zs) : PureCalls Tryz.prog 256 ([EV.v (.one (X.op 1 (zs.map fun n => X.cl (.int .u32 n))))].map argV) (EV.v (.one (.cl (.int .u64 n)))).den := by
  have := itoUint_spec n hn
  rw [h] at this
  exact pure_ints this
theorem tou0 : PureCalls Tryz.prog 256 ([EV.v (.one (X.cl .nil))].map argV) (EV.v (.one (.cl (.int .u64 0)))).den := by
  have := itoUint_spec 0 (by decide)
  rw [limbs_zero] at this
  exact pure_nil this
theorem lim1 {n : Nat} (h0 : 0 < n) (h : n < 4294967296) : limbs n = [(n : Int)] := by
  rw [limbs_pos h0, show n % BB = n from Nat.mod_eq_of_lt h, show n / BB = 0 from Nat.div_eq_of_lt h, limbs_zero]
section
noncomputable def tbA : Tbl := addTs .lf [⟨256, [(.v (.one (yo 1 [(yu 9)])))], (.v (.one (yk .u64 9)))⟩,
 ⟨256, [(.v (.one (yo 1 [(yu 1)])))], (.v (.one (yk .u64 1)))⟩,
 ⟨256, [(.v (.one yz))], (.v (.one (yk .u64 0)))⟩,
 ⟨256, [(.v (.one (yo 1 [(yu 16)])))], (.v (.one (yk .u64 16)))⟩,
 ⟨256, [(.v (.one (yo 1 [(yu 25)])))], (.v (.one (yk .u64 25)))⟩,
 ⟨256, [(.v (.one (yo 1 [(yu 8)])))], (.v (.one (yk .u64 8)))⟩,
 ⟨256, [(.v (.one (yo 1 [(yu 4)])))], (.v (.one (yk .u64 4)))⟩,
 ⟨256, [(.v (.one (yo 1 [(yu 3)])))], (.v (.one (yk .u64 3)))⟩,
 ⟨256, [(.v (.one (yo 1 [(yu 5)])))], (.v (.one (yk .u64 5)))⟩,
 ⟨256, [(.v (.one (yo 1 [(yu 18)])))], (.v (.one (yk .u64 18)))⟩,
 ⟨256, [(.v (.one (yo 1 [(yu 12)])))], (.v (.one (yk .u64 12)))⟩,
 ⟨256, [(.v (.one (yo 1 [(yu 15)])))], (.v (.one (yk .u64 15)))⟩,
 ⟨256, [(.v (.one (yo 1 [(yu 20)])))], (.v (.one (yk .u64 20)))⟩]
theorem tbA_ok : TblOk Tryz.prog tbA := (((((((((((((TblOk.nil).add (e := ⟨256, [(.v (.one (yo 1 [(yu 9)])))], (.v (.one (yk .u64 9)))⟩) rfl rfl (tou 9 (by decide) [9] (lim1 (by decide) (by decide)))).add (e := ⟨256, [(.v (.one (yo 1 [(yu 1)])))], (.v (.one (yk .u64 1)))⟩) rfl rfl (tou 1 (by decide) [1] (lim1 (by decide) (by decide)))).add (e := ⟨256, [(.v (.one yz))], (.v (.one (yk .u64 0)))⟩) rfl rfl (tou0)).add (e := ⟨256, [(.v (.one (yo 1 [(yu 16)])))], (.v (.one (yk .u64 16)))⟩) rfl rfl (tou 16 (by decide) [16] (lim1 (by decide) (by decide)))).add (e := ⟨256, [(.v (.one (yo 1 [(yu 25)])))], (.v (.one (yk .u64 25)))⟩) rfl rfl (tou 25 (by decide) [25] (lim1 (by decide) (by decide)))).add (e := ⟨256, [(.v (.one (yo 1 [(yu 8)])))], (.v (.one (yk .u64 8)))⟩) rfl rfl (tou 8 (by decide) [8] (lim1 (by decide) (by decide)))).add (e := ⟨256, [(.v (.one (yo 1 [(yu 4)])))], (.v (.one (yk .u64 4)))⟩) rfl rfl (tou 4 (by decide) [4] (lim1 (by decide) (by decide)))).add (e := ⟨256, [(.v (.one (yo 1 [(yu 3)])))], (.v (.one (yk .u64 3)))⟩) rfl rfl (tou 3 (by decide) [3] (lim1 (by decide) (by decide)))).add (e := ⟨256, [(.v (.one (yo 1 [(yu 5)])))], (.v (.one (yk .u64 5)))⟩) rfl rfl (tou 5 (by decide) [5] (lim1 (by decide) (by decide)))).add (e := ⟨256, [(.v (.one (yo 1 [(yu 18)])))], (.v (.one (yk .u64 18)))⟩) rfl rfl (tou 18 (by decide) [18] (lim1 (by decide) (by decide)))).add (e := ⟨256, [(.v (.one (yo 1 [(yu 12)])))], (.v (.one (yk .u64 12)))⟩) rfl rfl (tou 12 (by decide) [12] (lim1 (by decide) (by decide)))).add (e := ⟨256, [(.v (.one (yo 1 [(yu 15)])))], (.v (.one (yk .u64 15)))⟩) rfl rfl (tou 15 (by decide) [15] (lim1 (by decide) (by decide)))).add (e := ⟨256, [(.v (.one (yo 1 [(yu 20)])))], (.v (.one (yk .u64 20)))⟩) rfl rfl (tou 20 (by decide) [20] (lim1 (by decide) (by decide)))
end

end Go.Proofs.YtkmgkfneeobcgaaGreat

/-! ## Nm0 -/
namespace Go.Proofs.YtkmgkfneeobcgaaGreat
open Go Go.Eng Go.Eng.Run
section
noncomputable def tbN : Tbl := addTs .lf [⟨256, [(.v (.one yz))], (.v (.one (yk .u64 0)))⟩,
 ⟨256, [(.v (.one (yo 1 [])))], (.v (.one (yk .u64 0)))⟩,
 ⟨256, [(.v (.one (yo 1 [(yu 1)])))], (.v (.one (yk .u64 1)))⟩,
 ⟨256, [(.v (.one (yo 1 [(yu 4)])))], (.v (.one (yk .u64 4)))⟩,
 ⟨256, [(.v (.one (yo 1 [(yu 9)])))], (.v (.one (yk .u64 9)))⟩,
 ⟨256, [(.v (.one (yo 1 [(yu 16)])))], (.v (.one (yk .u64 16)))⟩,
 ⟨256, [(.v (.one (yo 1 [(yu 25)])))], (.v (.one (yk .u64 25)))⟩,
 ⟨256, [(.v (.one (yo 1 [(yu 36)])))], (.v (.one (yk .u64 36)))⟩,
 ⟨256, [(.v (.one (yo 1 [(yu 49)])))], (.v (.one (yk .u64 49)))⟩,
 ⟨256, [(.v (.one (yo 1 [(yu 64)])))], (.v (.one (yk .u64 64)))⟩,
 ⟨256, [(.v (.one (yo 1 [(yu 81)])))], (.v (.one (yk .u64 81)))⟩,
 ⟨256, [(.v (.one (yo 1 [(yu 100)])))], (.v (.one (yk .u64 100)))⟩,
 ⟨256, [(.v (.one (yo 1 [(yu 121)])))], (.v (.one (yk .u64 121)))⟩,
 ⟨256, [(.v (.one (yo 1 [(yu 144)])))], (.v (.one (yk .u64 144)))⟩,
 ⟨256, [(.v (.one (yo 1 [(yu 169)])))], (.v (.one (yk .u64 169)))⟩,
 ⟨256, [(.v (.one (yo 1 [(yu 196)])))], (.v (.one (yk .u64 196)))⟩,
 ⟨256, [(.v (.one (yo 1 [(yu 225)])))], (.v (.one (yk .u64 225)))⟩]
theorem tbN_ok : TblOk Tryz.prog tbN := (((((((((((((((((TblOk.nil).add (e := ⟨256, [(.v (.one yz))], (.v (.one (yk .u64 0)))⟩) rfl rfl (tou0)).add (e := ⟨256, [(.v (.one (yo 1 [])))], (.v (.one (yk .u64 0)))⟩) rfl rfl (tou 0 (by decide) [] limbs_zero)).add (e := ⟨256, [(.v (.one (yo 1 [(yu 1)])))], (.v (.one (yk .u64 1)))⟩) rfl rfl (tou 1 (by decide) [1] (lim1 (by decide) (by decide)))).add (e := ⟨256, [(.v (.one (yo 1 [(yu 4)])))], (.v (.one (yk .u64 4)))⟩) rfl rfl (tou 4 (by decide) [4] (lim1 (by decide) (by decide)))).add (e := ⟨256, [(.v (.one (yo 1 [(yu 9)])))], (.v (.one (yk .u64 9)))⟩) rfl rfl (tou 9 (by decide) [9] (lim1 (by decide) (by decide)))).add (e := ⟨256, [(.v (.one (yo 1 [(yu 16)])))], (.v (.one (yk .u64 16)))⟩) rfl rfl (tou 16 (by decide) [16] (lim1 (by decide) (by decide)))).add (e := ⟨256, [(.v (.one (yo 1 [(yu 25)])))], (.v (.one (yk .u64 25)))⟩) rfl rfl (tou 25 (by decide) [25] (lim1 (by decide) (by decide)))).add (e := ⟨256, [(.v (.one (yo 1 [(yu 36)])))], (.v (.one (yk .u64 36)))⟩) rfl rfl (tou 36 (by decide) [36] (lim1 (by decide) (by decide)))).add (e := ⟨256, [(.v (.one (yo 1 [(yu 49)])))], (.v (.one (yk .u64 49)))⟩) rfl rfl (tou 49 (by decide) [49] (lim1 (by decide) (by decide)))).add (e := ⟨256, [(.v (.one (yo 1 [(yu 64)])))], (.v (.one (yk .u64 64)))⟩) rfl rfl (tou 64 (by decide) [64] (lim1 (by decide) (by decide)))).add (e := ⟨256, [(.v (.one (yo 1 [(yu 81)])))], (.v (.one (yk .u64 81)))⟩) rfl rfl (tou 81 (by decide) [81] (lim1 (by decide) (by decide)))).add (e := ⟨256, [(.v (.one (yo 1 [(yu 100)])))], (.v (.one (yk .u64 100)))⟩) rfl rfl (tou 100 (by decide) [100] (lim1 (by decide) (by decide)))).add (e := ⟨256, [(.v (.one (yo 1 [(yu 121)])))], (.v (.one (yk .u64 121)))⟩) rfl rfl (tou 121 (by decide) [121] (lim1 (by decide) (by decide)))).add (e := ⟨256, [(.v (.one (yo 1 [(yu 144)])))], (.v (.one (yk .u64 144)))⟩) rfl rfl (tou 144 (by decide) [144] (lim1 (by decide) (by decide)))).add (e := ⟨256, [(.v (.one (yo 1 [(yu 169)])))], (.v (.one (yk .u64 169)))⟩) rfl rfl (tou 169 (by decide) [169] (lim1 (by decide) (by decide)))).add (e := ⟨256, [(.v (.one (yo 1 [(yu 196)])))], (.v (.one (yk .u64 196)))⟩) rfl rfl (tou 196 (by decide) [196] (lim1 (by decide) (by decide)))).add (e := ⟨256, [(.v (.one (yo 1 [(yu 225)])))], (.v (.one (yk .u64 225)))⟩) rfl rfl (tou 225 (by decide) [225] (lim1 (by decide) (by decide)))
end
end Go.Proofs.YtkmgkfneeobcgaaGreat

/-! ## Nm1 -/
namespace Go.Proofs.YtkmgkfneeobcgaaGreat
open Go Go.Eng Go.Eng.Run
section
noncomputable def em1 : List Ent := [⟨22, [(.v (.one (yi 0)))], (.v (.agg [yz, (yo 4 [yf, (yo 1 []), yf, (yo 1 [(yu 1)])])]))⟩,
 ⟨24, [(.v (.agg [yz, (yo 4 [yf, (yo 1 []), yf, (yo 1 [(yu 1)])])]))], (.v (.one (yi 0)))⟩,
 ⟨22, [(.v (.one (yi 1)))], (.v (.agg [yz, (yo 4 [yf, (yo 1 [(yu 1)]), yf, (yo 1 [(yu 1)])])]))⟩,
 ⟨24, [(.v (.agg [yz, (yo 4 [yf, (yo 1 [(yu 1)]), yf, (yo 1 [(yu 1)])])]))], (.v (.one (yi 1)))⟩,
 ⟨22, [(.v (.one (yi 4)))], (.v (.agg [yz, (yo 4 [yf, (yo 1 [(yu 4)]), yf, (yo 1 [(yu 1)])])]))⟩,
 ⟨24, [(.v (.agg [yz, (yo 4 [yf, (yo 1 [(yu 4)]), yf, (yo 1 [(yu 1)])])]))], (.v (.one (yi 1)))⟩,
 ⟨22, [(.v (.one (yi 9)))], (.v (.agg [yz, (yo 4 [yf, (yo 1 [(yu 9)]), yf, (yo 1 [(yu 1)])])]))⟩,
 ⟨24, [(.v (.agg [yz, (yo 4 [yf, (yo 1 [(yu 9)]), yf, (yo 1 [(yu 1)])])]))], (.v (.one (yi 1)))⟩,
 ⟨22, [(.v (.one (yi 16)))], (.v (.agg [yz, (yo 4 [yf, (yo 1 [(yu 16)]), yf, (yo 1 [(yu 1)])])]))⟩,
 ⟨24, [(.v (.agg [yz, (yo 4 [yf, (yo 1 [(yu 16)]), yf, (yo 1 [(yu 1)])])]))], (.v (.one (yi 1)))⟩,
 ⟨22, [(.v (.one (yi 25)))], (.v (.agg [yz, (yo 4 [yf, (yo 1 [(yu 25)]), yf, (yo 1 [(yu 1)])])]))⟩,
 ⟨24, [(.v (.agg [yz, (yo 4 [yf, (yo 1 [(yu 25)]), yf, (yo 1 [(yu 1)])])]))], (.v (.one (yi 1)))⟩,
 ⟨22, [(.v (.one (yi 36)))], (.v (.agg [yz, (yo 4 [yf, (yo 1 [(yu 36)]), yf, (yo 1 [(yu 1)])])]))⟩,
 ⟨24, [(.v (.agg [yz, (yo 4 [yf, (yo 1 [(yu 36)]), yf, (yo 1 [(yu 1)])])]))], (.v (.one (yi 1)))⟩,
 ⟨22, [(.v (.one (yi 49)))], (.v (.agg [yz, (yo 4 [yf, (yo 1 [(yu 49)]), yf, (yo 1 [(yu 1)])])]))⟩]
end
set_option maxRecDepth 100000 in
theorem em1_ok : TblOk Tryz.prog (addTs tbN em1) := chkT_ok T_ok mixed (fuel := 2000) (k := 100) (fz := 20) tbN_ok (by kernel_rfl)
end Go.Proofs.YtkmgkfneeobcgaaGreat

/-! ## Nm2 -/
namespace Go.Proofs.YtkmgkfneeobcgaaGreat
open Go Go.Eng Go.Eng.Run
section
noncomputable def em2 : List Ent := [⟨24, [(.v (.agg [yz, (yo 4 [yf, (yo 1 [(yu 49)]), yf, (yo 1 [(yu 1)])])]))], (.v (.one (yi 1)))⟩,
 ⟨22, [(.v (.one (yi 64)))], (.v (.agg [yz, (yo 4 [yf, (yo 1 [(yu 64)]), yf, (yo 1 [(yu 1)])])]))⟩,
 ⟨24, [(.v (.agg [yz, (yo 4 [yf, (yo 1 [(yu 64)]), yf, (yo 1 [(yu 1)])])]))], (.v (.one (yi 1)))⟩,
 ⟨22, [(.v (.one (yi 81)))], (.v (.agg [yz, (yo 4 [yf, (yo 1 [(yu 81)]), yf, (yo 1 [(yu 1)])])]))⟩,
 ⟨24, [(.v (.agg [yz, (yo 4 [yf, (yo 1 [(yu 81)]), yf, (yo 1 [(yu 1)])])]))], (.v (.one (yi 1)))⟩,
 ⟨22, [(.v (.one (yi 100)))], (.v (.agg [yz, (yo 4 [yf, (yo 1 [(yu 100)]), yf, (yo 1 [(yu 1)])])]))⟩,
 ⟨24, [(.v (.agg [yz, (yo 4 [yf, (yo 1 [(yu 100)]), yf, (yo 1 [(yu 1)])])]))], (.v (.one (yi 1)))⟩,
 ⟨22, [(.v (.one (yi 121)))], (.v (.agg [yz, (yo 4 [yf, (yo 1 [(yu 121)]), yf, (yo 1 [(yu 1)])])]))⟩,
 ⟨24, [(.v (.agg [yz, (yo 4 [yf, (yo 1 [(yu 121)]), yf, (yo 1 [(yu 1)])])]))], (.v (.one (yi 1)))⟩,
 ⟨22, [(.v (.one (yi 144)))], (.v (.agg [yz, (yo 4 [yf, (yo 1 [(yu 144)]), yf, (yo 1 [(yu 1)])])]))⟩,
 ⟨24, [(.v (.agg [yz, (yo 4 [yf, (yo 1 [(yu 144)]), yf, (yo 1 [(yu 1)])])]))], (.v (.one (yi 1)))⟩,
 ⟨22, [(.v (.one (yi 169)))], (.v (.agg [yz, (yo 4 [yf, (yo 1 [(yu 169)]), yf, (yo 1 [(yu 1)])])]))⟩,
 ⟨24, [(.v (.agg [yz, (yo 4 [yf, (yo 1 [(yu 169)]), yf, (yo 1 [(yu 1)])])]))], (.v (.one (yi 1)))⟩,
 ⟨22, [(.v (.one (yi 196)))], (.v (.agg [yz, (yo 4 [yf, (yo 1 [(yu 196)]), yf, (yo 1 [(yu 1)])])]))⟩]
end
set_option maxRecDepth 100000 in
theorem em2_ok : TblOk Tryz.prog (addTs tbN em2) := chkT_ok T_ok mixed (fuel := 2000) (k := 100) (fz := 20) tbN_ok (by kernel_rfl)
end Go.Proofs.YtkmgkfneeobcgaaGreat

/-! ## Nm3 -/
namespace Go.Proofs.YtkmgkfneeobcgaaGreat
open Go Go.Eng Go.Eng.Run
section
noncomputable def em3 : List Ent := [⟨24, [(.v (.agg [yz, (yo 4 [yf, (yo 1 [(yu 196)]), yf, (yo 1 [(yu 1)])])]))], (.v (.one (yi 1)))⟩,
 ⟨22, [(.v (.one (yi 225)))], (.v (.agg [yz, (yo 4 [yf, (yo 1 [(yu 225)]), yf, (yo 1 [(yu 1)])])]))⟩,
 ⟨24, [(.v (.agg [yz, (yo 4 [yf, (yo 1 [(yu 225)]), yf, (yo 1 [(yu 1)])])]))], (.v (.one (yi 1)))⟩]
end
set_option maxRecDepth 100000 in
theorem em3_ok : TblOk Tryz.prog (addTs tbN em3) := chkT_ok T_ok mixed (fuel := 2000) (k := 100) (fz := 20) tbN_ok (by kernel_rfl)
end Go.Proofs.YtkmgkfneeobcgaaGreat

/-! ## TgN -/
namespace Go.Proofs.YtkmgkfneeobcgaaGreat
open Go Go.Eng Go.Eng.Run

noncomputable def ntbs : List Tbl := [addTs tbN em1, addTs tbN em2, addTs tbN em3]
theorem ntbs_ok : TblsOk Tryz.prog ntbs := ⟨em1_ok, em2_ok, em3_ok, trivial⟩

/-- The number k * k. -/
noncomputable def numX (k : Nat) : List X := [.cl .nil, .op 4 [.cl (.bool false), .op 1 (if k = 0 then [] else [.cl (.int .u32 ((k * k : Nat) : Int))]), .cl (.bool false), .op 1 [.cl (.int .u32 1)]]]
noncomputable def numR (k : Nat) (i j : Nat) : C := (denL [.cl (.bool false), .op 1 (if k = 0 then [] else [.cl (.int .u32 ((k * k : Nat) : Int))]), .cl (.bool false), .op 1 [.cl (.int .u32 1)]]).getD (i * 4 + j) .any
theorem numX_den (k : Nat) : (numX k).map X.den = [.nil, .rows 4 1 (numR k)] := by
  unfold numR
  simp [numX, X.den]
noncomputable def nchk (k : Nat) : Bool := (match lkT ntbs 22 [.v (.one (.cl (.int .i64 ((k * k : Nat) : Int))))] with
  | some r => eqE r (.v (.agg (numX k)))
  | none => false) && isI ntbs 24 [.v (.agg (numX k))] (if k = 0 then 0 else 1)
set_option maxRecDepth 100000 in
theorem nchk_all : (List.range 16).all nchk = true := by kernel_rfl
theorem num_fromInt {k : Nat} (hk : k < 16) : PureCalls Tryz.prog 22 [.one (.int .i64 ((k * k : Nat) : Int))] (.agg [.nil, .rows 4 1 (numR k)]) := by
  have h := List.all_eq_true.1 nchk_all k (List.mem_range.2 hk)
  unfold nchk at h
  rw [Bool.and_eq_true] at h
  obtain ⟨h, _⟩ := h
  split at h
  · rename_i r hr
    have h1 := lkT_ok ntbs_ok hr
    rw [eqE_eq h] at h1
    rw [← numX_den]
    exact h1
  · cases h
theorem num_sign {k : Nat} (hk : k < 16) : PureCalls Tryz.prog 24 [.agg [.nil, .rows 4 1 (numR k)]] (.one (.int .i64 (if k = 0 then 0 else 1))) := by
  have h := List.all_eq_true.1 nchk_all k (List.mem_range.2 hk)
  unfold nchk at h
  rw [Bool.and_eq_true] at h
  rw [← numX_den]
  exact isI_ok ntbs_ok h.2

end Go.Proofs.YtkmgkfneeobcgaaGreat

/-! ## FnYb -/
namespace Go.Proofs.YtkmgkfneeobcgaaGreat
open Go Go.Eng

/-! ### Whether a function says yes of one of a slice. -/
theorem first_or (p : Nat → Bool) (N : Nat) : (∀ i, i < N → p i = false) ∨ ∃ i, i < N ∧ p i = true ∧ ∀ j, j < i → p j = false := by
  induction N with
  | zero => exact .inl fun i hi => absurd hi (Nat.not_lt_zero _)
  | succ N ih =>
    rcases ih with h | ⟨i, h1, h2, h3⟩
    · cases hp : p N with
      | false => exact .inl fun i hi => by by_cases e : i = N; (· rw [e]; exact hp); exact h i (by omega)
      | true => exact .inr ⟨N, by omega, hp, h⟩
    · exact .inr ⟨i, by omega, h2, h3⟩
def anyN (p : Nat → Bool) (N : Nat) : Bool := (List.range N).any p
theorem anyN_no {p : Nat → Bool} {N : Nat} (h : ∀ i, i < N → p i = false) : anyN p N = false := by
  unfold anyN
  rw [List.any_eq_false]
  intro i hi
  rw [h i (List.mem_range.1 hi)]
  simp
theorem anyN_yes {p : Nat → Bool} {N i : Nat} (hi : i < N) (h : p i = true) : anyN p N = true := List.any_eq_true.2 ⟨i, List.mem_range.2 hi, h⟩

set_option maxRecDepth 10000 in
theorem ix8 (g : FuncId) {l : C} {N : Nat} (p : Nat → Bool) (r : Int) {xs : List Int} (hl : l = .ints .u8 xs ∧ xs.length = N) (hN : N < 2 ^ 40) (hc : ∀ i, i < N → PureCalls Tryz.prog g [.one (.int .u8 (xs.getD i 0))] (.one (.bool (p i))))
    (h1 : (∀ i, i < N → p i = false) → r = -1) (h2 : ∀ i : Nat, i < N → p i = true → (∀ j, j < i → p j = false) → r = i) :
    PureCalls Tryz.prog 21 [.one l, .one (.fn g 0 (fun _ => .any))] (.one (.int .i64 r)) := by
  obtain ⟨rfl, hl2⟩ := hl
  refine pure_of_vc T_ok mixed Tryz.func21 rfl (by decide) _ (by simp [Tryz.ntmps21]) ⟨[0, 1, 4, 5, 7, 8, 9, 16], []⟩ (by kernel_rfl) _ ?_
  show vc T Tryz.prog ⟨[0, 1, 4, 5, 7, 8, 9, 16], []⟩ (Option.get! Tryz.f21.body) _ _
  simp only [Tryz.f21, Tryz.ntmps21, Option.get!, initSt, initM, envOf, Nat.reduceAdd]
  simp only [vx, T, seval, hl2]
  refine LoopK.go (fun y : {i : Nat // i ≤ N ∧ ∀ k, k < i → p k = false} => ⟨[(0, .one (.ints .u8 xs)), (1, .one (.fn g 0 (fun _ => .any))), (7, .one (.int .i64 N)), (8, .one (.int .i64 y.1))], [], 1, 19⟩) (fun y => N - y.1) ⟨0, Nat.zero_le _, fun k h => absurd h (Nat.not_lt_zero _)⟩ ?_ (fun ⟨i, hi, hz⟩ => ?_)
  · refine Sub.auto ?_; simp only [rx, envRen, vRen, cRen, lRen, ownRen, bRen, apartRen, emptyBk, ren, seval, autoR, autoOne, Int.natCast_add, Int.natCast_one, Int.natCast_zero, hl2]
  have i1 : IntKind.i64.wrap ((i : Int) + 1) = ((i + 1 : Nat) : Int) := by rw [IntWalk.i64_in _ (by omega)]; omega
  simp only [vx, T, seval, hl2]
  refine ⟨fun h3 => Later.go ?_, fun h3 => Later.go ?_⟩
  · simp only [vx, T, seval, hl2]
    refine ⟨by omega, CallK.go (hc i (by omega)) ?_⟩
    simp only [vx, T, seval, hl2]
    refine ⟨fun h4 => Later.go ?_, fun h4 => Later.go ?_⟩
    · have e := h2 i (by omega) h4 hz
      simp only [vx, T, seval, hl2]
      exact VLe.of_eq (by rw [e])
    · simp only [vx, T, seval, hl2, i1]
      refine loopQ.go ⟨i + 1, by omega, fun k hk => ?_⟩ ?_ (by show N - (i + 1) < N - i; omega)
      · by_cases e : k = i
        · rw [e]; simpa using h4
        · exact hz k (by omega)
      · refine Sub.auto ?_; simp only [rx, envRen, vRen, cRen, lRen, ownRen, bRen, apartRen, emptyBk, ren, seval, autoR, autoOne, Int.natCast_add, Int.natCast_one, Int.natCast_zero, hl2]
  · have e := h1 fun k hk => hz k (by omega)
    simp only [vx, T, seval, hl2]
    exact VLe.of_eq (by rw [e])
set_option maxRecDepth 10000 in
theorem has8 (g : FuncId) {l : C} {N : Nat} (p : Nat → Bool) {xs : List Int} (hl : l = .ints .u8 xs ∧ xs.length = N) (hN : N < 2 ^ 40) (hc : ∀ i, i < N → PureCalls Tryz.prog g [.one (.int .u8 (xs.getD i 0))] (.one (.bool (p i)))) :
    PureCalls Tryz.prog 6 [.one l, .one (.fn g 0 (fun _ => .any))] (.one (.bool (anyN p N))) := by
  obtain ⟨r, hr, hk⟩ : ∃ r : Int, decide (r ≥ 0) = anyN p N ∧ PureCalls Tryz.prog 21 [.one l, .one (.fn g 0 (fun _ => .any))] (.one (.int .i64 r)) := by
    rcases first_or p N with h | ⟨i, h4, h5, h6⟩
    · exact ⟨-1, by rw [anyN_no h]; rfl, ix8 g p _ hl hN hc (fun _ => rfl) fun i hi hp _ => absurd hp (by rw [h i hi]; simp)⟩
    · refine ⟨i, by rw [anyN_yes h4 h5, decide_eq_true]; omega, ix8 g p _ hl hN hc (fun h => absurd h5 (by rw [h i h4]; simp)) fun j hj hp hb => ?_⟩
      by_cases e : i < j
      · exact absurd h5 (by rw [hb i e]; simp)
      · by_cases e2 : j < i
        · exact absurd hp (by rw [h6 j e2]; simp)
        · omega
  obtain ⟨rfl, hl2⟩ := hl
  refine pure_of_vc T_ok mixed Tryz.func6 rfl (by decide) _ (by simp [Tryz.ntmps6]) ⟨[0, 1, 4], []⟩ (by kernel_rfl) _ ?_
  show vc T Tryz.prog ⟨[0, 1, 4], []⟩ (Option.get! Tryz.f6.body) _ _
  simp only [Tryz.f6, Tryz.ntmps6, Option.get!, initSt, initM, envOf, Nat.reduceAdd]
  simp only [vx, T, seval, hl2]
  refine CallK.go hk ?_
  simp only [vx, T, seval, hl2]
  exact VLe.of_eq (by rw [← hr])

set_option maxRecDepth 10000 in
theorem ixI (g : FuncId) {l : C} {N : Nat} (p : Nat → Bool) (r : Int) {xs : List Int} (hl : l = .ints .i64 xs ∧ xs.length = N) (hN : N < 2 ^ 40) (hc : ∀ i, i < N → PureCalls Tryz.prog g [.one (.int .i64 (xs.getD i 0))] (.one (.bool (p i))))
    (h1 : (∀ i, i < N → p i = false) → r = -1) (h2 : ∀ i : Nat, i < N → p i = true → (∀ j, j < i → p j = false) → r = i) :
    PureCalls Tryz.prog 51 [.one l, .one (.fn g 0 (fun _ => .any))] (.one (.int .i64 r)) := by
  obtain ⟨rfl, hl2⟩ := hl
  refine pure_of_vc T_ok mixed Tryz.func51 rfl (by decide) _ (by simp [Tryz.ntmps51]) ⟨[0, 1, 4, 5, 7, 8, 9, 16], []⟩ (by kernel_rfl) _ ?_
  show vc T Tryz.prog ⟨[0, 1, 4, 5, 7, 8, 9, 16], []⟩ (Option.get! Tryz.f51.body) _ _
  simp only [Tryz.f51, Tryz.ntmps51, Option.get!, initSt, initM, envOf, Nat.reduceAdd]
  simp only [vx, T, seval, hl2]
  refine LoopK.go (fun y : {i : Nat // i ≤ N ∧ ∀ k, k < i → p k = false} => ⟨[(0, .one (.ints .i64 xs)), (1, .one (.fn g 0 (fun _ => .any))), (7, .one (.int .i64 N)), (8, .one (.int .i64 y.1))], [], 1, 19⟩) (fun y => N - y.1) ⟨0, Nat.zero_le _, fun k h => absurd h (Nat.not_lt_zero _)⟩ ?_ (fun ⟨i, hi, hz⟩ => ?_)
  · refine Sub.auto ?_; simp only [rx, envRen, vRen, cRen, lRen, ownRen, bRen, apartRen, emptyBk, ren, seval, autoR, autoOne, Int.natCast_add, Int.natCast_one, Int.natCast_zero, hl2]
  have i1 : IntKind.i64.wrap ((i : Int) + 1) = ((i + 1 : Nat) : Int) := by rw [IntWalk.i64_in _ (by omega)]; omega
  simp only [vx, T, seval, hl2]
  refine ⟨fun h3 => Later.go ?_, fun h3 => Later.go ?_⟩
  · simp only [vx, T, seval, hl2]
    refine ⟨by omega, CallK.go (hc i (by omega)) ?_⟩
    simp only [vx, T, seval, hl2]
    refine ⟨fun h4 => Later.go ?_, fun h4 => Later.go ?_⟩
    · have e := h2 i (by omega) h4 hz
      simp only [vx, T, seval, hl2]
      exact VLe.of_eq (by rw [e])
    · simp only [vx, T, seval, hl2, i1]
      refine loopQ.go ⟨i + 1, by omega, fun k hk => ?_⟩ ?_ (by show N - (i + 1) < N - i; omega)
      · by_cases e : k = i
        · rw [e]; simpa using h4
        · exact hz k (by omega)
      · refine Sub.auto ?_; simp only [rx, envRen, vRen, cRen, lRen, ownRen, bRen, apartRen, emptyBk, ren, seval, autoR, autoOne, Int.natCast_add, Int.natCast_one, Int.natCast_zero, hl2]
  · have e := h1 fun k hk => hz k (by omega)
    simp only [vx, T, seval, hl2]
    exact VLe.of_eq (by rw [e])
set_option maxRecDepth 10000 in
theorem hasI (g : FuncId) {l : C} {N : Nat} (p : Nat → Bool) {xs : List Int} (hl : l = .ints .i64 xs ∧ xs.length = N) (hN : N < 2 ^ 40) (hc : ∀ i, i < N → PureCalls Tryz.prog g [.one (.int .i64 (xs.getD i 0))] (.one (.bool (p i)))) :
    PureCalls Tryz.prog 29 [.one l, .one (.fn g 0 (fun _ => .any))] (.one (.bool (anyN p N))) := by
  obtain ⟨r, hr, hk⟩ : ∃ r : Int, decide (r ≥ 0) = anyN p N ∧ PureCalls Tryz.prog 51 [.one l, .one (.fn g 0 (fun _ => .any))] (.one (.int .i64 r)) := by
    rcases first_or p N with h | ⟨i, h4, h5, h6⟩
    · exact ⟨-1, by rw [anyN_no h]; rfl, ixI g p _ hl hN hc (fun _ => rfl) fun i hi hp _ => absurd hp (by rw [h i hi]; simp)⟩
    · refine ⟨i, by rw [anyN_yes h4 h5, decide_eq_true]; omega, ixI g p _ hl hN hc (fun h => absurd h5 (by rw [h i h4]; simp)) fun j hj hp hb => ?_⟩
      by_cases e : i < j
      · exact absurd h5 (by rw [hb i e]; simp)
      · by_cases e2 : j < i
        · exact absurd hp (by rw [h6 j e2]; simp)
        · omega
  obtain ⟨rfl, hl2⟩ := hl
  refine pure_of_vc T_ok mixed Tryz.func29 rfl (by decide) _ (by simp [Tryz.ntmps29]) ⟨[0, 1, 4], []⟩ (by kernel_rfl) _ ?_
  show vc T Tryz.prog ⟨[0, 1, 4], []⟩ (Option.get! Tryz.f29.body) _ _
  simp only [Tryz.f29, Tryz.ntmps29, Option.get!, initSt, initM, envOf, Nat.reduceAdd]
  simp only [vx, T, seval, hl2]
  refine CallK.go hk ?_
  simp only [vx, T, seval, hl2]
  exact VLe.of_eq (by rw [← hr])

set_option maxRecDepth 10000 in
theorem ixN (g : FuncId) {l : C} {N : Nat} (p : Nat → Bool) (r : Int) {nn : Nat → Nat} {ff : Nat → Nat → Nat → C} (hl : l = .rows 2 N (fun i j => if j = 0 then .nil else .rows 4 (nn i) (ff i))) (hN : N < 2 ^ 40) (hc : ∀ i, i < N → PureCalls Tryz.prog g [.agg [.nil, .rows 4 (nn i) (ff i)]] (.one (.bool (p i))))
    (h1 : (∀ i, i < N → p i = false) → r = -1) (h2 : ∀ i : Nat, i < N → p i = true → (∀ j, j < i → p j = false) → r = i) :
    PureCalls Tryz.prog 50 [.one l, .one (.fn g 0 (fun _ => .any))] (.one (.int .i64 r)) := by
  subst hl
  refine pure_of_vc T_ok mixed Tryz.func50 rfl (by decide) _ (by simp [Tryz.ntmps50]) ⟨[0, 1, 4, 5, 7, 8, 9, 16], []⟩ (by kernel_rfl) _ ?_
  show vc T Tryz.prog ⟨[0, 1, 4, 5, 7, 8, 9, 16], []⟩ (Option.get! Tryz.f50.body) _ _
  simp only [Tryz.f50, Tryz.ntmps50, Option.get!, initSt, initM, envOf, Nat.reduceAdd]
  simp only [vx, T, seval]
  refine LoopK.go (fun y : {i : Nat // i ≤ N ∧ ∀ k, k < i → p k = false} => ⟨[(0, .one (.rows 2 N (fun i j => if j = 0 then .nil else .rows 4 (nn i) (ff i)))), (1, .one (.fn g 0 (fun _ => .any))), (7, .one (.int .i64 N)), (8, .one (.int .i64 y.1))], [], 1, 19⟩) (fun y => N - y.1) ⟨0, Nat.zero_le _, fun k h => absurd h (Nat.not_lt_zero _)⟩ ?_ (fun ⟨i, hi, hz⟩ => ?_)
  · refine Sub.auto ?_; simp only [rx, envRen, vRen, cRen, lRen, ownRen, bRen, apartRen, emptyBk, ren, seval, autoR, autoOne, Int.natCast_add, Int.natCast_one, Int.natCast_zero]
  have i1 : IntKind.i64.wrap ((i : Int) + 1) = ((i + 1 : Nat) : Int) := by rw [IntWalk.i64_in _ (by omega)]; omega
  simp only [vx, T, seval]
  refine ⟨fun h3 => Later.go ?_, fun h3 => Later.go ?_⟩
  · simp only [vx, T, seval]
    refine ⟨by omega, CallK.go (hc i (by omega)) ?_⟩
    simp only [vx, T, seval]
    refine ⟨fun h4 => Later.go ?_, fun h4 => Later.go ?_⟩
    · have e := h2 i (by omega) h4 hz
      simp only [vx, T, seval]
      exact VLe.of_eq (by rw [e])
    · simp only [vx, T, seval, i1]
      refine loopQ.go ⟨i + 1, by omega, fun k hk => ?_⟩ ?_ (by show N - (i + 1) < N - i; omega)
      · by_cases e : k = i
        · rw [e]; simpa using h4
        · exact hz k (by omega)
      · refine Sub.auto ?_; simp only [rx, envRen, vRen, cRen, lRen, ownRen, bRen, apartRen, emptyBk, ren, seval, autoR, autoOne, Int.natCast_add, Int.natCast_one, Int.natCast_zero]
  · have e := h1 fun k hk => hz k (by omega)
    simp only [vx, T, seval]
    exact VLe.of_eq (by rw [e])
set_option maxRecDepth 10000 in
theorem hasN (g : FuncId) {l : C} {N : Nat} (p : Nat → Bool) {nn : Nat → Nat} {ff : Nat → Nat → Nat → C} (hl : l = .rows 2 N (fun i j => if j = 0 then .nil else .rows 4 (nn i) (ff i))) (hN : N < 2 ^ 40) (hc : ∀ i, i < N → PureCalls Tryz.prog g [.agg [.nil, .rows 4 (nn i) (ff i)]] (.one (.bool (p i)))) :
    PureCalls Tryz.prog 28 [.one l, .one (.fn g 0 (fun _ => .any))] (.one (.bool (anyN p N))) := by
  obtain ⟨r, hr, hk⟩ : ∃ r : Int, decide (r ≥ 0) = anyN p N ∧ PureCalls Tryz.prog 50 [.one l, .one (.fn g 0 (fun _ => .any))] (.one (.int .i64 r)) := by
    rcases first_or p N with h | ⟨i, h4, h5, h6⟩
    · exact ⟨-1, by rw [anyN_no h]; rfl, ixN g p _ hl hN hc (fun _ => rfl) fun i hi hp _ => absurd hp (by rw [h i hi]; simp)⟩
    · refine ⟨i, by rw [anyN_yes h4 h5, decide_eq_true]; omega, ixN g p _ hl hN hc (fun h => absurd h5 (by rw [h i h4]; simp)) fun j hj hp hb => ?_⟩
      by_cases e : i < j
      · exact absurd h5 (by rw [hb i e]; simp)
      · by_cases e2 : j < i
        · exact absurd hp (by rw [h6 j e2]; simp)
        · omega
  subst hl
  refine pure_of_vc T_ok mixed Tryz.func28 rfl (by decide) _ (by simp [Tryz.ntmps28]) ⟨[0, 1, 4], []⟩ (by kernel_rfl) _ ?_
  show vc T Tryz.prog ⟨[0, 1, 4], []⟩ (Option.get! Tryz.f28.body) _ _
  simp only [Tryz.f28, Tryz.ntmps28, Option.get!, initSt, initM, envOf, Nat.reduceAdd]
  simp only [vx, T, seval]
  refine CallK.go hk ?_
  simp only [vx, T, seval]
  exact VLe.of_eq (by rw [← hr])
end Go.Proofs.YtkmgkfneeobcgaaGreat

/-! ## FnYc -/
namespace Go.Proofs.YtkmgkfneeobcgaaGreat
open Go Go.Eng

/-! ### The squares of lengths; what Place asks of one. -/
/-- The squares, by content. -/
noncomputable def sqC (q : Nat → Nat) : Nat → Nat → C := fun i j => if j = 0 then .nil else .rows 4 1 (numR (q i))
/-- A length. -/
def md (z : Int) : Nat := (z % 16).toNat
theorem md_lt (z : Int) : md z < 16 := by unfold md; omega
def U8 (l : List Int) : Prop := ∀ i, i < l.length → 0 ≤ l.getD i 0 ∧ l.getD i 0 < 256

set_option maxRecDepth 10000 in
theorem numbers40 {l : List Int} {N : Nat} (hN : l.length = N) (hl : N < 2 ^ 40) (hu : U8 l) : FreshCalls Tryz.prog 8 [.one (.ints .u8 l)] (.rows 43 2 N (sqC fun i => md (l.getD i 0))) := by
  refine fresh_of_vc T_ok mixed Tryz.func8 rfl (by decide) _ (by simp [Tryz.ntmps8]) ⟨[0, 2, 3, 4, 5, 9], []⟩ (by kernel_rfl) (.rows 43 2 N (sqC fun i => md (l.getD i 0))) trivial ?_
  show vc T Tryz.prog ⟨[0, 2, 3, 4, 5, 9], []⟩ (Option.get! Tryz.f8.body) _ _
  simp only [Tryz.f8, Tryz.ntmps8, Option.get!, initSt, initM, envOf, Nat.reduceAdd]
  simp only [vx, T, seval]
  refine LoopK.go (fun y : {i : Nat // i ≤ N} => ⟨[(0, .one (.ints .u8 l)), (2, .one .nil), (3, .one (.own 1 2 0 y.1)), (4, .one (.int .i64 y.1))], [(1, ⟨.rows 43 2 y.1 (sqC fun i => md (l.getD i 0)), true⟩)], 2, 26⟩) (fun y => N - y.1) ⟨0, Nat.zero_le _⟩ ?_ (fun ⟨i, hi⟩ => ?_)
  · refine Sub.auto ?_; simp only [rx, envRen, vRen, cRen, lRen, ownRen, bRen, apartRen, emptyBk, ren, seval, autoR, autoOne, Int.natCast_add, Int.natCast_one, Int.natCast_zero, Nat.not_lt_zero]
  simp only
  have wi : IntKind.i64.wrap ((i : Int) + 1) = ((i + 1 : Nat) : Int) := by rw [IntWalk.i64_in _ (by omega)]; omega
  simp only [vx, T, seval, hN]
  refine ⟨fun g => Later.go ?_, fun g => Later.go ?_⟩
  · have h8 := hu i (by omega)
    obtain ⟨k, hk⟩ : ∃ k, k = md (l.getD i 0) := ⟨_, rfl⟩
    have k16 : k < 16 := hk ▸ md_lt _
    have e1 : IntKind.i64.wrap ((l.getD i 0).tmod 16) = (k : Int) := by
      rw [Int.tmod_eq_emod_of_nonneg h8.1, IntWalk.i64_in _ (by omega), hk]
      unfold md; omega
    have e2 : IntKind.i64.wrap ((k : Int) * k) = ((k * k : Nat) : Int) := by
      have : k * k ≤ 15 * 15 := Nat.mul_le_mul (by omega) (by omega)
      rw [← Int.natCast_mul, IntWalk.i64_in _ (by omega)]
    simp only [vx, T, seval, e1, e2]
    refine ⟨by omega, CallK.go (num_fromInt k16) ?_⟩
    simp only [vx, T, seval, wi]
    refine ⟨⟨by omega, by omega⟩, loopQ.go ⟨i + 1, by omega⟩ ?_ (by show N - (i + 1) < N - i; omega)⟩
    refine Sub.auto ?_; simp only [rx, envRen, vRen, cRen, lRen, ownRen, bRen, apartRen, emptyBk, ren, seval, autoR, autoOne, Int.natCast_add, Int.natCast_one, Int.natCast_zero]
    intro a j ha hj
    by_cases h : a < i
    · rw [if_pos h]
    · rw [if_neg h]
      obtain rfl : a = i := by omega
      have : j = 0 ∨ j = 1 := by omega
      rcases this with rfl | rfl <;> simp [sqC, hk]
  · obtain rfl : i = N := by omega
    simp only [vx, T, seval]
    exact ⟨rfl, rfl, fun _ _ _ _ => rfl⟩

theorem place1 {k : Nat} (hk : k < 16) : PureCalls Tryz.prog 23 [.agg [.nil, .rows 4 1 (numR k)]] (.one (.bool (decide (k = 0)))) := by
  refine pure_of_vc T_ok mixed Tryz.func23 rfl (by decide) _ (by simp [Tryz.ntmps23]) ⟨[0, 1, 2], []⟩ (by kernel_rfl) _ ?_
  show vc T Tryz.prog ⟨[0, 1, 2], []⟩ (Option.get! Tryz.f23.body) _ _
  simp only [Tryz.f23, Tryz.ntmps23, Option.get!, initSt, initM, envOf, Nat.reduceAdd]
  simp only [vx, T, seval]
  refine CallK.go (num_sign hk) ?_
  simp only [vx, T, seval]
  exact VLe.of_eq (by by_cases h : k = 0 <;> simp [h])
theorem place2 (z : Int) : PureCalls Tryz.prog 25 [.one (.int .i64 z)] (.one (.bool (decide (z ≠ 1 ∧ z ≠ -1)))) := by
  refine pure_of_vc T_ok mixed Tryz.func25 rfl (by decide) _ (by simp [Tryz.ntmps25]) ⟨[0, 2], []⟩ (by kernel_rfl) _ ?_
  show vc T Tryz.prog ⟨[0, 2], []⟩ (Option.get! Tryz.f25.body) _ _
  simp only [Tryz.f25, Tryz.ntmps25, Option.get!, initSt, initM, envOf, Nat.reduceAdd]
  simp only [vx, T, seval]
  refine ⟨fun h => Later.go ?_, fun h => Later.go ?_⟩
  · simp only [vx, T, seval]
    exact VLe.of_eq (by simp [h])
  · simp only [vx, T, seval]
    exact VLe.of_eq (by simp [h])
theorem inv1 {z : Int} (h0 : 0 ≤ z) (h1 : z < 256) : PureCalls Tryz.prog 7 [.one (.int .u8 z)] (.one (.bool (decide (md z = 0)))) := by
  refine pure_of_vc T_ok mixed Tryz.func7 rfl (by decide) _ (by simp [Tryz.ntmps7]) ⟨[0, 2], []⟩ (by kernel_rfl) _ ?_
  show vc T Tryz.prog ⟨[0, 2], []⟩ (Option.get! Tryz.f7.body) _ _
  simp only [Tryz.f7, Tryz.ntmps7, Option.get!, initSt, initM, envOf, Nat.reduceAdd]
  simp only [vx, T, seval]
  exact VLe.of_eq (by rw [Int.tmod_eq_emod_of_nonneg h0]; congr 2; unfold md; exact decide_eq_decide.2 (by omega))
end Go.Proofs.YtkmgkfneeobcgaaGreat

/-! ## FnYe -/
namespace Go.Proofs.YtkmgkfneeobcgaaGreat
open Go Go.Eng Go.Gra

/-! ### Place: what is asked ahead of everything else. -/
def bad : V := .tup [.one .nil, .one (.int .i64 1)]
section
variable {n : Int} {m : Nat} {f : Nat → E} {a b c : Int} {P : C} {ns : Nat} {q : Nat → Nat} {bs : List Int}
set_option maxRecDepth 10000 in
set_option maxHeartbeats 1000000 in
theorem place_comp (gv : PureCalls Tryz.prog 26 [.agg (gA n m f)] (.one (.bool true))) (hs : ShC P) (cp : PureCalls Tryz.prog 27 [.agg (gA n m f), .agg (tC a b c P)] (.one (.bool false))) :
    PureCalls Tryz.prog 9 [.agg (gA n m f), .agg (tC a b c P), .one (.rows 2 ns (sqC q)), .one (.ints .i64 bs)] bad := by
  rcases hs with rfl | ⟨w, F, rfl⟩
  all_goals
    simp only [gA, edC, tC] at gv cp
    refine pure_of_vc T_ok mixed Tryz.func9 rfl (by decide) _ (by simp [Tryz.ntmps9]) ⟨[0, 1, 2, 3, 4, 5, 8, 9, 10, 11, 12, 13, 14, 15, 16, 17, 18, 54, 70, 76, 78], []⟩ (by kernel_rfl) _ ?_
    show vc T Tryz.prog ⟨[0, 1, 2, 3, 4, 5, 8, 9, 10, 11, 12, 13, 14, 15, 16, 17, 18, 54, 70, 76, 78], []⟩ (Option.get! Tryz.f9.body) _ _
    simp only [Tryz.f9, Tryz.ntmps9, Option.get!, initSt, initM, envOf, Nat.reduceAdd]
    simp only [vx, T, seval, gA, edC, tC]
    refine CallK.go gv ?_
    simp only [vx, T, seval, gA, edC, tC]
    refine CallK.go cp ?_
    simp only [vx, T, seval, gA, edC, tC]
    exact VLe.of_eq rfl
set_option maxRecDepth 10000 in
set_option maxHeartbeats 1000000 in
theorem place_bad {k : Nat} (gv : PureCalls Tryz.prog 26 [.agg (gA n m f)] (.one (.bool true))) (hs : ShC P) (cp : PureCalls Tryz.prog 27 [.agg (gA n m f), .agg (tC a b c P)] (.one (.bool true)))
    (mr : PureCalls Tryz.prog 16 [.agg (tC a b c P)] (.one (.int .i64 k))) (hk : k ≤ 2) (hns : ns < 2 ^ 40) (hq : ∀ i, q i < 16) (hb : bs.length < 2 ^ 40)
    (h : ns ≠ m ∨ (∃ i, i < ns ∧ q i = 0) ∨ bs.length ≠ 4 * k ∨ ∃ i, i < bs.length ∧ bs.getD i 0 ≠ 1 ∧ bs.getD i 0 ≠ -1) :
    PureCalls Tryz.prog 9 [.agg (gA n m f), .agg (tC a b c P), .one (.rows 2 ns (sqC q)), .one (.ints .i64 bs)] bad := by
  have c1 := hasN 23 (N := ns) (nn := fun _ => 1) (ff := fun i => numR (q i)) (fun i => decide (q i = 0)) rfl hns fun i hi => place1 (hq i)
  have c2 := hasI 25 (N := bs.length) (xs := bs) (fun i => decide (bs.getD i 0 ≠ 1 ∧ bs.getD i 0 ≠ -1)) ⟨rfl, rfl⟩ hb fun i hi => place2 _
  have w4 : IntKind.i64.wrap (4 * (k : Int)) = ((4 * k : Nat) : Int) := by rw [IntWalk.i64_in _ (by omega)]; omega
  obtain ⟨v1, e1⟩ : ∃ v1, anyN (fun i => decide (q i = 0)) ns = v1 := ⟨_, rfl⟩
  obtain ⟨v2, e2⟩ : ∃ v2, anyN (fun i => decide (bs.getD i 0 ≠ 1 ∧ bs.getD i 0 ≠ -1)) bs.length = v2 := ⟨_, rfl⟩
  rw [e1] at c1
  rw [e2] at c2
  rcases hs with rfl | ⟨w, F, rfl⟩
  all_goals
    simp only [gA, edC, tC] at gv cp mr
    refine pure_of_vc T_ok mixed Tryz.func9 rfl (by decide) _ (by simp [Tryz.ntmps9]) ⟨[0, 1, 2, 3, 4, 5, 8, 9, 10, 11, 12, 13, 14, 15, 16, 17, 18, 54, 70, 76, 78], []⟩ (by kernel_rfl) _ ?_
    show vc T Tryz.prog ⟨[0, 1, 2, 3, 4, 5, 8, 9, 10, 11, 12, 13, 14, 15, 16, 17, 18, 54, 70, 76, 78], []⟩ (Option.get! Tryz.f9.body) _ _
    simp only [Tryz.f9, Tryz.ntmps9, Option.get!, initSt, initM, envOf, Nat.reduceAdd]
    simp only [vx, T, seval, gA, edC, tC, sqC]
    refine CallK.go gv ?_
    simp only [vx, T, seval, gA, edC, tC, sqC]
    refine CallK.go cp ?_
    simp only [vx, T, seval, gA, edC, tC, sqC]
    refine ⟨fun h1 => Later.go ?_, fun h1 => Later.go ?_⟩
    · simp only [vx, T, seval, gA, edC, tC, sqC]
      exact VLe.of_eq rfl
    simp only [vx, T, seval, gA, edC, tC, sqC]
    refine CallK.go c1 ?_
    cases v1
    · simp only [vx, T, seval, gA, edC, tC, sqC]
      refine CallK.go mr ?_
      simp only [vx, T, seval, gA, edC, tC, sqC, w4]
      refine ⟨fun h2 => Later.go ?_, fun h2 => Later.go ?_⟩
      · simp only [vx, T, seval, gA, edC, tC, sqC]
        exact VLe.of_eq rfl
      simp only [vx, T, seval, gA, edC, tC, sqC]
      refine CallK.go c2 ?_
      cases v2
      · exfalso
        rcases h with h | ⟨i, hi, h⟩ | h | ⟨i, hi, h⟩
        · omega
        · rw [anyN_yes hi (decide_eq_true h)] at e1; cases e1
        · omega
        · rw [anyN_yes hi (decide_eq_true h)] at e2; cases e2
      · simp only [vx, T, seval, gA, edC, tC, sqC]
        exact VLe.of_eq rfl
    · simp only [vx, T, seval, gA, edC, tC, sqC]
      exact VLe.of_eq rfl
end
end Go.Proofs.YtkmgkfneeobcgaaGreat
