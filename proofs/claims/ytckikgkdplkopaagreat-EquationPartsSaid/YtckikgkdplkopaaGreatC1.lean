/-
  The walk of the law EquationParts, and the law of the degree of a product.
  (Text 1 of 1; made by a program out of smaller texts.)
-/
import Derived.Test.YtckikgkdplkopaaGreatB1
set_option linter.unusedSimpArgs false
set_option linter.unusedVariables false
open Nat renaming reduceAdd → s_n1, reduceMul → s_n2, reduceSub → s_n3, reduceEqDiff → s_n4, reduceLT → s_n5, reduceLeDiff → s_n6, reduceBEq → s_n7, reduceDiv → s_n8, reduceMod → s_n9, reducePow → s_n0
open Int renaming reduceToNat → s_i1, reduceLE → s_i2, reduceLT → s_i3, reduceEq → s_i4, reducePow → s_i5, reduceSub → s_i6, reduceNeg → s_i7

/-! ## Deg -/
namespace Go.Eng

/-- The greatest number of variables; -1 for no monomial. -/
def degL (l : List Mono) : Int := l.foldl (fun n m => if n < (m.2.length : Int) then (m.2.length : Int) else n) (-1)
theorem degL_step {l : List Mono} {i : Nat} (h : i < l.length) : degL (l.take (i + 1)) = if degL (l.take i) < ((l.getD i default).2.length : Int) then ((l.getD i default).2.length : Int) else degL (l.take i) := by
  rw [take_step h]
  unfold degL
  rw [List.foldl_append]; rfl
theorem degF_spec (l : List Mono) (n : Int) : (∀ m ∈ l, (m.2.length : Int) ≤ l.foldl (fun n m => if n < (m.2.length : Int) then (m.2.length : Int) else n) n) ∧ n ≤ l.foldl (fun n m => if n < (m.2.length : Int) then (m.2.length : Int) else n) n ∧
    (l.foldl (fun n m => if n < (m.2.length : Int) then (m.2.length : Int) else n) n = n ∨ ∃ m ∈ l, l.foldl (fun n m => if n < (m.2.length : Int) then (m.2.length : Int) else n) n = (m.2.length : Int)) := by
  induction l generalizing n with
  | nil => exact ⟨(fun m hm => by cases hm), Int.le_refl _, .inl rfl⟩
  | cons x r ih =>
    simp only [List.foldl_cons]
    obtain ⟨h1, h2, h3⟩ := ih (if n < (x.2.length : Int) then (x.2.length : Int) else n)
    refine ⟨fun m hm => ?_, ?_, ?_⟩
    · rcases List.mem_cons.1 hm with rfl | hm
      · refine Int.le_trans ?_ h2
        split <;> omega
      · exact h1 m hm
    · refine Int.le_trans ?_ h2
      split <;> omega
    · rcases h3 with h3 | ⟨m, hm, h3⟩
      · rw [h3]
        split
        · exact .inr ⟨x, by simp, rfl⟩
        · exact .inl rfl
      · exact .inr ⟨m, by simp [hm], h3⟩
theorem degL_le {l : List Mono} {m : Mono} (h : m ∈ l) : (m.2.length : Int) ≤ degL l := (degF_spec l (-1)).1 m h
theorem degL_eq {l : List Mono} {m : Mono} (h : m ∈ l) (hall : ∀ x ∈ l, x.2.length ≤ m.2.length) : degL l = (m.2.length : Int) := by
  have h1 := degL_le h
  rcases (degF_spec l (-1)).2.2 with h2 | ⟨x, hx, h2⟩
  · have h2 : degL l = -1 := h2
    omega
  · have h2 : degL l = (x.2.length : Int) := h2
    have := hall x hx
    omega
theorem degL_ge (l : List Mono) : -1 ≤ degL l := (degF_spec l (-1)).2.1
theorem degL_bd {l : List Mono} {d : Nat} (h : ∀ m ∈ l, m.2.length ≤ d) : degL l ≤ d := by
  rcases (degF_spec l (-1)).2.2 with h2 | ⟨x, hx, h2⟩
  · have h2 : degL l = -1 := h2
    omega
  · have h2 : degL l = (x.2.length : Int) := h2
    have := h x hx
    omega

/-! ### The order of sorted lists of one length, by how often each variable occurs. -/
theorem cmpL_count : ∀ {u v : List Int}, u.length = v.length → cmpL u v ≤ 0 → u.Pairwise (· ≤ ·) → v.Pairwise (· ≤ ·) → ∀ z, (∀ y, y < z → u.count y = v.count y) → v.count z ≤ u.count z
  | [], [], _, _, _, _, _, _ => Nat.le_refl _
  | a :: us, b :: vs, hl, hc, hu, hv, z, hz => by
    have hu' := List.pairwise_cons.1 hu
    have hv' := List.pairwise_cons.1 hv
    simp only [cmpL] at hc
    by_cases hab : a = b
    · subst hab
      rw [if_pos (cmpZ_zero.2 rfl)] at hc
      have ih := cmpL_count (by simpa using hl) hc hu'.2 hv'.2 z (fun y hy => by
        have := hz y hy
        rw [List.count_cons, List.count_cons] at this
        omega)
      rw [List.count_cons, List.count_cons]
      omega
    · have hlt : a < b := by
        rw [if_neg (fun e => hab (cmpZ_zero.1 e))] at hc
        rcases Int.lt_trichotomy a b with h | h | h
        · exact h
        · exact absurd h hab
        · have := cmpZ_pos.2 h; omega
      have hva : ∀ y, y < b → (b :: vs).count y = 0 := fun y hy => by
        refine List.count_eq_zero_of_not_mem fun hm => ?_
        rcases List.mem_cons.1 hm with rfl | hm
        · omega
        · have := hv'.1 y hm; omega
      rcases Int.lt_trichotomy a z with h | h | h
      · have h1 := hz a h
        rw [hva a hlt, List.count_cons, if_pos (by simp)] at h1
        omega
      · subst h
        rw [hva a hlt]; exact Nat.zero_le _
      · rw [hva z (by omega)]; exact Nat.zero_le _
  | [], _ :: _, hl, _, _, _, _, _ => by simp at hl
  | _ :: _, [], hl, _, _, _, _, _ => by simp at hl

/-- The greatest product comes from the greatest factors alone. -/
theorem top_unique {m x n y : List Int} (hm : m.Pairwise (· ≤ ·)) (hx : x.Pairwise (· ≤ ·)) (hn : n.Pairwise (· ≤ ·)) (hy : y.Pairwise (· ≤ ·)) (im : In63 m) (ix : In63 x) (in_ : In63 n) (iy : In63 y)
    (h1 : cmpV m x ≤ 0) (h2 : cmpV n y ≤ 0) (hp : (m ++ n).Perm (x ++ y)) : m = x ∧ n = y := by
  have hlen := hp.length_eq
  rw [List.length_append, List.length_append] at hlen
  have l1 : m.length ≤ x.length := by
    unfold cmpV at h1
    split at h1
    · rename_i h; have := cmpZ_zero.1 h; omega
    · rename_i h; rcases Int.lt_trichotomy (m.length : Int) x.length with h3 | h3 | h3
      · omega
      · omega
      · have := cmpZ_pos.2 h3; omega
  have l2 : n.length ≤ y.length := by
    unfold cmpV at h2
    split at h2
    · rename_i h; have := cmpZ_zero.1 h; omega
    · rename_i h; rcases Int.lt_trichotomy (n.length : Int) y.length with h3 | h3 | h3
      · omega
      · omega
      · have := cmpZ_pos.2 h3; omega
  have l1' : m.length = x.length := by omega
  have l2' : n.length = y.length := by omega
  have c1 : cmpL m x ≤ 0 := by unfold cmpV at h1; rwa [if_pos (cmpZ_zero.2 (by omega))] at h1
  have c2 : cmpL n y ≤ 0 := by unfold cmpV at h2; rwa [if_pos (cmpZ_zero.2 (by omega))] at h2
  have neg : ∀ {l : List Int}, In63 l → ∀ z, z < 0 → l.count z = 0 := fun hi z hz => List.count_eq_zero_of_not_mem fun hm => by have := hi z hm; omega
  have key : ∀ k : Nat, m.count (k : Int) = x.count (k : Int) ∧ n.count (k : Int) = y.count (k : Int) := by
    intro k
    induction k using Nat.strongRecOn with
    | _ k ih =>
      have below : ∀ z : Int, z < k → m.count z = x.count z ∧ n.count z = y.count z := by
        intro z hz
        by_cases h0 : z < 0
        · rw [neg im z h0, neg ix z h0, neg in_ z h0, neg iy z h0]; exact ⟨rfl, rfl⟩
        · have := ih z.toNat (by omega)
          rwa [Int.toNat_of_nonneg (by omega)] at this
      have a1 := cmpL_count l1' c1 hm hx k (fun z hz => (below z hz).1)
      have a2 := cmpL_count l2' c2 hn hy k (fun z hz => (below z hz).2)
      have a3 := hp.count_eq (k : Int)
      rw [List.count_append, List.count_append] at a3
      omega
  have all : ∀ {l l' : List Int}, In63 l → In63 l' → (∀ k : Nat, l.count (k : Int) = l'.count (k : Int)) → l.Perm l' := by
    intro l l' hi hi' h
    rw [List.perm_iff_count]
    intro z
    by_cases h0 : z < 0
    · rw [neg hi z h0, neg hi' z h0]
    · have := h z.toNat
      rwa [Int.toNat_of_nonneg (by omega)] at this
  exact ⟨List.Perm.eq_of_pairwise (le := (· ≤ ·)) (fun a b _ _ h1 h2 => by omega) hm hx (all im ix fun k => (key k).1),
    List.Perm.eq_of_pairwise (le := (· ≤ ·)) (fun a b _ _ h1 h2 => by omega) hn hy (all in_ iy fun k => (key k).2)⟩

/-- The last of an ascending list is above all. -/
theorem asc_top {l : List Mono} (h : Asc l) (hl : l ≠ []) : ∃ x ∈ l, (∀ m ∈ l, cmpV m.2 x.2 ≤ 0) ∧ ∀ g : List Int → Rat, (∀ m ∈ l, m.2 ≠ x.2 → g m.2 = 0) → lin g l = x.1 * g x.2 := by
  induction l with
  | nil => exact absurd rfl hl
  | cons a r ih =>
    by_cases hr : r = []
    · subst hr
      refine ⟨a, by simp, fun m hm => ?_, fun g hg => ?_⟩
      · obtain rfl := List.mem_singleton.1 hm
        rw [cmpV_zero.2 rfl]; exact Int.le_refl _
      · simp only [lin]; rw [Rat.add_zero]
    · obtain ⟨x, hx, h1, h2⟩ := ih h.tail hr
      have hax := h.head x hx
      refine ⟨x, by simp [hx], fun m hm => ?_, fun g hg => ?_⟩
      · rcases List.mem_cons.1 hm with rfl | hm
        · omega
        · exact h1 m hm
      · simp only [lin]
        rw [h2 g (fun m hm hne => hg m (by simp [hm]) hne), hg a (by simp) (fun e => by rw [e] at hax; exact cmpV_irrefl _ hax), Rat.mul_zero, Rat.zero_add]

theorem co_mem {l : List Mono} {w : List Int} (h : co l w ≠ 0) : ∃ m ∈ l, m.2 = w := by
  induction l with
  | nil => exact absurd rfl h
  | cons a r ih =>
    simp only [co] at h
    by_cases hw : a.2 = w
    · exact ⟨a, by simp, hw⟩
    · rw [if_neg hw, Rat.zero_add] at h
      obtain ⟨m, hm, e⟩ := ih h
      exact ⟨m, by simp [hm], e⟩
theorem cmpV_len {u v : List Int} (h : cmpV u v ≤ 0) : u.length ≤ v.length := by
  unfold cmpV at h
  split at h
  · rename_i h3; have := cmpZ_zero.1 h3; omega
  · rename_i h3; rcases Int.lt_trichotomy (u.length : Int) v.length with h4 | h4 | h4
    · omega
    · omega
    · have := cmpZ_pos.2 h4; omega

theorem deg_mul {a b : List Mono} (ha : Can a) (hb : Can b) (va : VAsc a) (vb : VAsc b) (ia : ∀ m ∈ a, In63 m.2) (ib : ∀ m ∈ b, In63 m.2) (ha0 : a ≠ []) (hb0 : b ≠ []) : degL (mulM a b) = degL a + degL b := by
  obtain ⟨x, hx, hx1, hx2⟩ := asc_top ha.1 ha0
  obtain ⟨y, hy, hy1, hy2⟩ := asc_top hb.1 hb0
  have hco : co (mulM a b) (srtZ (x.2 ++ y.2)) = x.1 * y.1 := by
    rw [← lin_ind, lin_mulM]
    have inner : ∀ m ∈ a, lin (fun u => ind (srtZ (x.2 ++ y.2)) (srtZ (m.2 ++ u))) b = y.1 * ind (srtZ (x.2 ++ y.2)) (srtZ (m.2 ++ y.2)) := by
      intro m hm
      refine hy2 (fun u => ind (srtZ (x.2 ++ y.2)) (srtZ (m.2 ++ u))) fun n hn hne => ?_
      unfold ind
      rw [if_neg]
      intro e
      have hp : (m.2 ++ n.2).Perm (x.2 ++ y.2) := (srtZ_perm _).symm.trans (e ▸ srtZ_perm _)
      exact hne (top_unique (va m hm) (va x hx) (vb n hn) (vb y hy) (ia m hm) (ia x hx) (ib n hn) (ib y hy) (hx1 m hm) (hy1 n hn) hp).2
    have e1 : lin (fun v => lin (fun u => ind (srtZ (x.2 ++ y.2)) (srtZ (v ++ u))) b) a = lin (fun v => y.1 * ind (srtZ (x.2 ++ y.2)) (srtZ (v ++ y.2))) a := lin_congr inner
    rw [e1, hx2 (fun v => y.1 * ind (srtZ (x.2 ++ y.2)) (srtZ (v ++ y.2))) fun m hm hne => ?_]
    · unfold ind; rw [if_pos rfl, Rat.mul_one]
    · unfold ind
      rw [if_neg, Rat.mul_zero]
      intro e
      have hp : (m.2 ++ y.2).Perm (x.2 ++ y.2) := (srtZ_perm _).symm.trans (e ▸ srtZ_perm _)
      exact hne (top_unique (va m hm) (va x hx) (vb y hy) (vb y hy) (ia m hm) (ia x hx) (ib y hy) (ib y hy) (hx1 m hm) (by rw [cmpV_zero.2 rfl]; exact Int.le_refl _) hp).1
  have hne : co (mulM a b) (srtZ (x.2 ++ y.2)) ≠ 0 := by
    rw [hco]
    intro e
    rcases Rat.mul_eq_zero.1 e with e | e
    · exact ha.2 x hx e
    · exact hb.2 y hy e
  obtain ⟨m, hm, hmv⟩ := co_mem hne
  have hml : m.2.length = x.2.length + y.2.length := by rw [hmv, srtZ_length, List.length_append]
  have h1 : degL (mulM a b) = (m.2.length : Int) := by
    refine degL_eq hm fun z hz => ?_
    rw [mulM_eq] at hz
    obtain ⟨u, hu, e⟩ := norM_mem hz
    obtain ⟨u', hu', rfl⟩ := List.mem_map.1 hu
    obtain ⟨c, hc, hu2⟩ := List.mem_flatMap.1 hu'
    obtain ⟨d, hd, rfl⟩ := List.mem_map.1 hu2
    rw [e]
    simp only [srtZ_length, List.length_append]
    have := cmpV_len (hx1 c hc)
    have := cmpV_len (hy1 d hd)
    omega
  have h2 : degL a = (x.2.length : Int) := degL_eq hx fun z hz => cmpV_len (hx1 z hz)
  have h3 : degL b = (y.2.length : Int) := degL_eq hy fun z hz => cmpV_len (hy1 z hz)
  rw [h1, h2, h3, hml]; omega

end Go.Eng

/-! ## FnZr -/
namespace Go.Proofs.YtckikgkdplkopaaGreat
open Go Go.Eng

set_option maxHeartbeats 4000000 in
set_option maxRecDepth 10000 in
theorem rDeg_spec {p : List Mono} {n d B : Nat} (hp : PB p n d B) (hn : n < 2 ^ 30) (hd : d < 2 ^ 30) : PureCalls Tryz.prog 27 [PV p] (.one (.int .i64 (degL p))) := by
  have hpl := hp.n
  refine pure_of_vc T_ok mixed Tryz.func27 rfl (by decide) _ (by simp [Tryz.ntmps27]) ⟨[0, 2, 3, 4, 8, 18], []⟩ (by kernel_rfl) _ ?_
  show vc T Tryz.prog ⟨[0, 2, 3, 4, 8, 18], []⟩ (Option.get! Tryz.f27.body) _ _
  simp only [Tryz.f27, Tryz.ntmps27, Option.get!, initSt, initM, envOf, Nat.reduceAdd]
  simp only [vx, T, s_i5, s_n0, s_i6, s_i7, ↓reduceIte, s_n1, s_n2, s_n3, s_n4, s_n5, s_n6, s_n7, s_n8, s_n9, reduceCtorEq, s_i1, s_i2, s_i3, s_i4, PV, PC]
  refine LoopK.go (fun y : {i : Nat // i ≤ p.length} => ⟨[(0, PV p), (3, .one (.int .i64 (degL (p.take y.1)))), (4, .one (.int .i64 y.1))], [], 1, 26⟩) (fun y => p.length - y.1) ⟨0, Nat.zero_le _⟩ ?_ (fun ⟨i, hi⟩ => ?_)
  · refine Sub.auto ?_; simp only [rx, envRen, vRen, cRen, lRen, ownRen, bRen, apartRen, emptyBk, ren, ↓reduceIte, s_n1, s_n2, s_n3, s_n4, s_n5, s_n6, s_n7, s_n8, s_n9, reduceCtorEq, s_i1, s_i2, s_i3, s_i4, autoR, autoOne, Int.natCast_add, Int.natCast_one, Int.natCast_zero, PV, PC]
    rfl
  simp only [vx, T, s_i5, s_n0, s_i6, s_i7, ↓reduceIte, s_n1, s_n2, s_n3, s_n4, s_n5, s_n6, s_n7, s_n8, s_n9, reduceCtorEq, s_i1, s_i2, s_i3, s_i4, PV, PC]
  refine ⟨fun h1 => Later.go ?_, fun h1 => Later.go ?_⟩
  · have hil : i < p.length := by omega
    have i1 : IntKind.i64.wrap ((i : Int) + 1) = ((i + 1 : Nat) : Int) := by rw [IntWalk.i64_in _ (by omega)]; omega
    have hs := degL_step hil
    obtain ⟨a, ha⟩ : ∃ a, a = p.getD i default := ⟨_, rfl⟩
    rw [← ha] at hs
    simp only [vx, T, s_i5, s_n0, s_i6, s_i7, ↓reduceIte, s_n1, s_n2, s_n3, s_n4, s_n5, s_n6, s_n7, s_n8, s_n9, reduceCtorEq, s_i1, s_i2, s_i3, s_i4, PV, PC, ← ha, mC]
    refine ⟨by omega, ?_⟩
    refine ⟨fun h2 => Later.go ?_, fun h2 => Later.go ?_⟩
    · rw [if_pos h2] at hs
      simp only [vx, T, s_i5, s_n0, s_i6, s_i7, ↓reduceIte, s_n1, s_n2, s_n3, s_n4, s_n5, s_n6, s_n7, s_n8, s_n9, reduceCtorEq, s_i1, s_i2, s_i3, s_i4, PV, PC, ← ha, mC]
      simp only [i1]
      refine ⟨by omega, loopQ.go ⟨i + 1, by omega⟩ ?_ ?_⟩
      · refine Sub.auto ?_; simp only [rx, envRen, vRen, cRen, lRen, ownRen, bRen, apartRen, emptyBk, ren, ↓reduceIte, s_n1, s_n2, s_n3, s_n4, s_n5, s_n6, s_n7, s_n8, s_n9, reduceCtorEq, s_i1, s_i2, s_i3, s_i4, autoR, autoOne, Int.natCast_add, Int.natCast_one, Int.natCast_zero, PV, PC, hs]
      · simp only; omega
    · rw [if_neg h2] at hs
      simp only [vx, T, s_i5, s_n0, s_i6, s_i7, ↓reduceIte, s_n1, s_n2, s_n3, s_n4, s_n5, s_n6, s_n7, s_n8, s_n9, reduceCtorEq, s_i1, s_i2, s_i3, s_i4, PV, PC]
      simp only [i1]
      refine loopQ.go ⟨i + 1, by omega⟩ ?_ ?_
      · refine Sub.auto ?_; simp only [rx, envRen, vRen, cRen, lRen, ownRen, bRen, apartRen, emptyBk, ren, ↓reduceIte, s_n1, s_n2, s_n3, s_n4, s_n5, s_n6, s_n7, s_n8, s_n9, reduceCtorEq, s_i1, s_i2, s_i3, s_i4, autoR, autoOne, Int.natCast_add, Int.natCast_one, Int.natCast_zero, PV, PC, hs]
      · simp only; omega
  · have hil : i = p.length := by omega
    subst hil
    rw [List.take_length]
    simp only [vx, T, s_i5, s_n0, s_i6, s_i7, ↓reduceIte, s_n1, s_n2, s_n3, s_n4, s_n5, s_n6, s_n7, s_n8, s_n9, reduceCtorEq, s_i1, s_i2, s_i3, s_i4]
    exact VLe.of_eq rfl

set_option maxHeartbeats 4000000 in
set_option maxRecDepth 10000 in
theorem iDeg_spec {p : List Mono} {n d B : Nat} (hp : PB p n d B) (hn : n < 2 ^ 30) (hd : d < 2 ^ 30) : PureCalls Tryz.prog 26 [PV p] (.one (.int .i64 (degL p))) := by
  have hpl := hp.n
  refine pure_of_vc T_ok mixed Tryz.func26 rfl (by decide) _ (by simp [Tryz.ntmps26]) ⟨[0, 2, 3, 5, 6, 7, 8, 9], []⟩ (by kernel_rfl) _ ?_
  show vc T Tryz.prog ⟨[0, 2, 3, 5, 6, 7, 8, 9], []⟩ (Option.get! Tryz.f26.body) _ _
  simp only [Tryz.f26, Tryz.ntmps26, Option.get!, initSt, initM, envOf, Nat.reduceAdd]
  simp only [vx, T, s_i5, s_n0, s_i6, s_i7, ↓reduceIte, s_n1, s_n2, s_n3, s_n4, s_n5, s_n6, s_n7, s_n8, s_n9, reduceCtorEq, s_i1, s_i2, s_i3, s_i4, PV, PC]
  refine LoopK.go (fun y : {i : Nat // i ≤ p.length} => ⟨[(3, .one (.int .i64 (degL (p.take y.1)))), (6, PV p), (7, .one (.int .i64 p.length)), (8, .one (.int .i64 y.1))], [], 1, 19⟩) (fun y => p.length - y.1) ⟨0, Nat.zero_le _⟩ ?_ (fun ⟨i, hi⟩ => ?_)
  · refine Sub.auto ?_; simp only [rx, envRen, vRen, cRen, lRen, ownRen, bRen, apartRen, emptyBk, ren, ↓reduceIte, s_n1, s_n2, s_n3, s_n4, s_n5, s_n6, s_n7, s_n8, s_n9, reduceCtorEq, s_i1, s_i2, s_i3, s_i4, autoR, autoOne, Int.natCast_add, Int.natCast_one, Int.natCast_zero, PV, PC]
    rfl
  simp only [vx, T, s_i5, s_n0, s_i6, s_i7, ↓reduceIte, s_n1, s_n2, s_n3, s_n4, s_n5, s_n6, s_n7, s_n8, s_n9, reduceCtorEq, s_i1, s_i2, s_i3, s_i4, PV, PC]
  refine ⟨fun h1 => Later.go ?_, fun h1 => Later.go ?_⟩
  · have hil : i < p.length := by omega
    have i1 : IntKind.i64.wrap ((i : Int) + 1) = ((i + 1 : Nat) : Int) := by rw [IntWalk.i64_in _ (by omega)]; omega
    have hs := degL_step hil
    obtain ⟨a, ha⟩ : ∃ a, a = p.getD i default := ⟨_, rfl⟩
    rw [← ha] at hs
    simp only [vx, T, s_i5, s_n0, s_i6, s_i7, ↓reduceIte, s_n1, s_n2, s_n3, s_n4, s_n5, s_n6, s_n7, s_n8, s_n9, reduceCtorEq, s_i1, s_i2, s_i3, s_i4, PV, PC, ← ha, mC, maxC]
    simp only [i1]
    refine ⟨by omega, loopQ.go ⟨i + 1, by omega⟩ ?_ ?_⟩
    · refine Sub.auto ?_; simp only [rx, envRen, vRen, cRen, lRen, ownRen, bRen, apartRen, emptyBk, ren, ↓reduceIte, s_n1, s_n2, s_n3, s_n4, s_n5, s_n6, s_n7, s_n8, s_n9, reduceCtorEq, s_i1, s_i2, s_i3, s_i4, autoR, autoOne, Int.natCast_add, Int.natCast_one, Int.natCast_zero, PV, PC, hs]
    · simp only; omega
  · have hil : i = p.length := by omega
    subst hil
    rw [List.take_length]
    simp only [vx, T, s_i5, s_n0, s_i6, s_i7, ↓reduceIte, s_n1, s_n2, s_n3, s_n4, s_n5, s_n6, s_n7, s_n8, s_n9, reduceCtorEq, s_i1, s_i2, s_i3, s_i4]
    exact VLe.of_eq rfl

/-! ### Compact. -/
def CmpR (xs : List Int) (N : Nat) (r : V) (B' : Bk) : Prop := ∃ k ys, r = .one (.own 0 1 0 k) ∧ B' = .ints 3 .i64 ys ∧ ys.length = N ∧ k ≤ N ∧ k = (ddl xs N).length ∧ ys.take k = ddl xs N

theorem ddl_all {l : List Int} {n : Nat} (hn : n ≤ l.length) (h : ∀ i, 0 < i → i < n → l.getD (i - 1) 0 ≠ l.getD i 0) : ddl l n = l.take n := by
  induction n with
  | zero => simp [ddl]
  | succ n ih =>
    rw [ddl_step, ih (by omega) fun i h1 h2 => h i h1 (by omega), List.take_add_one, List.getElem?_eq_getElem (by omega)]
    have hq : ddq l n = true := by
      unfold ddq
      by_cases h0 : n = 0
      · rw [decide_eq_true h0]; rfl
      · rw [decide_eq_true (p := l.getD (n - 1) 0 ≠ l.getD n 0) (h n (by omega) (by omega)), Bool.or_true]
    rw [hq, if_pos rfl, List.getD_eq_getElem?_getD, List.getElem?_eq_getElem (by omega)]; rfl
theorem take_set_stepZ {ys : List Int} {i : Nat} {x : Int} (hi : i < ys.length) : (ys.set i x).take (i + 1) = ys.take i ++ [x] := by
  rw [List.take_add_one, List.take_set_of_le (Nat.le_refl _), List.getElem?_set_self hi]; rfl

set_option maxHeartbeats 4000000 in
set_option maxRecDepth 10000 in
theorem Compact_spec (xs : List Int) {N : Nat} (hN : xs.length = N) (hl : N < 2 ^ 38) : MutCalls Tryz.prog 70 [.one (.own 0 1 0 N)] (.ints 3 .i64 xs) (CmpR xs N) := by
  refine mut_of_vc T_ok mixed Tryz.func70 rfl (by decide) _ (by simp [Tryz.ntmps70]) ⟨[0, 2, 3, 4, 5, 8, 13, 25, 32, 44], []⟩ (by kernel_rfl) (.ints 3 .i64 xs) trivial _ ?_
  show vc T Tryz.prog ⟨[0, 2, 3, 4, 5, 8, 13, 25, 32, 44], []⟩ (Option.get! Tryz.f70.body) _ _
  simp only [Tryz.f70, Tryz.ntmps70, Option.get!, initSt, initM, envOf, Nat.reduceAdd]
  simp only [vx, T, s_i5, s_n0, s_i6, s_i7, ↓reduceIte, s_n1, s_n2, s_n3, s_n4, s_n5, s_n6, s_n7, s_n8, s_n9, reduceCtorEq, s_i1, s_i2, s_i3, s_i4]
  refine ⟨fun h1 => Later.go ?_, fun h1 => Later.go ?_⟩
  · simp only [vx, T, s_i5, s_n0, s_i6, s_i7, ↓reduceIte, s_n1, s_n2, s_n3, s_n4, s_n5, s_n6, s_n7, s_n8, s_n9, reduceCtorEq, s_i1, s_i2, s_i3, s_i4]
    have e : ddl xs N = xs := by rw [ddl_all (by omega) fun i h2 h3 => by omega, List.take_of_length_le (by omega)]
    exact ⟨N, xs, rfl, rfl, hN, Nat.le_refl _, by rw [e, hN], by rw [e, List.take_of_length_le (by omega)]⟩
  · simp only [vx, T, s_i5, s_n0, s_i6, s_i7, ↓reduceIte, s_n1, s_n2, s_n3, s_n4, s_n5, s_n6, s_n7, s_n8, s_n9, reduceCtorEq, s_i1, s_i2, s_i3, s_i4]
    refine LoopK.go (fun y : {k : Nat // 1 ≤ k ∧ k ≤ N ∧ ∀ i, 0 < i → i < k → xs.getD (i - 1) 0 ≠ xs.getD i 0} => ⟨[(0, .one (.own 0 1 0 N)), (3, .one (.int .i64 y.1))], [(0, ⟨.ints 3 .i64 xs, true⟩)], 1, 61⟩) (fun y => N - y.1) ⟨1, Nat.le_refl _, by omega, fun i h2 h3 => by omega⟩ ?_ (fun ⟨k, hk1, hkN, hd⟩ => ?_)
    · refine Sub.auto ?_; simp only [rx, envRen, vRen, cRen, lRen, ownRen, bRen, apartRen, emptyBk, ren, ↓reduceIte, s_n1, s_n2, s_n3, s_n4, s_n5, s_n6, s_n7, s_n8, s_n9, reduceCtorEq, s_i1, s_i2, s_i3, s_i4, autoR, autoOne, Int.natCast_add, Int.natCast_one, Int.natCast_zero]
    have k1 : IntKind.i64.wrap ((k : Int) - 1) = ((k - 1 : Nat) : Int) := by rw [IntWalk.i64_in _ (by omega)]; omega
    have k2 : IntKind.i64.wrap ((k : Int) + 1) = ((k + 1 : Nat) : Int) := by rw [IntWalk.i64_in _ (by omega)]; omega
    simp only [vx, T, s_i5, s_n0, s_i6, s_i7, ↓reduceIte, s_n1, s_n2, s_n3, s_n4, s_n5, s_n6, s_n7, s_n8, s_n9, reduceCtorEq, s_i1, s_i2, s_i3, s_i4]
    refine ⟨fun h2 => Later.go ?_, fun h2 => Later.go ?_⟩
    · simp only [vx, T, s_i5, s_n0, s_i6, s_i7, ↓reduceIte, s_n1, s_n2, s_n3, s_n4, s_n5, s_n6, s_n7, s_n8, s_n9, reduceCtorEq, s_i1, s_i2, s_i3, s_i4, k1]
      refine ⟨by omega, by omega, ?_⟩
      refine ⟨fun h3 => Later.go ?_, fun h3 => Later.go ?_⟩
      · have hpre := ddl_all (l := xs) (n := k) (by omega) hd
        have hst := ddl_step xs k
        have hq : ddq xs k = false := by unfold ddq; rw [decide_eq_false (by omega), decide_eq_false (p := xs.getD (k - 1) 0 ≠ xs.getD k 0) (fun e => e h3.symm)]; rfl
        rw [hq, if_neg (by simp), List.append_nil, hpre] at hst
        simp only [vx, T, s_i5, s_n0, s_i6, s_i7, ↓reduceIte, s_n1, s_n2, s_n3, s_n4, s_n5, s_n6, s_n7, s_n8, s_n9, reduceCtorEq, s_i1, s_i2, s_i3, s_i4]
        refine ⟨by omega, ?_⟩
        have hsub : ((N : Int) - (k : Int)).toNat = N - k := by omega
        simp only [hsub]
        refine LoopK.go (fun y : {y : Nat × Nat × List Int // 1 ≤ y.1 ∧ y.1 ≤ N - k ∧ y.2.1 < k + y.1 ∧ y.2.2.length = N ∧ y.2.2.take y.2.1 = ddl xs (k + y.1) ∧ ∀ c, k + y.1 - 1 ≤ c → (y.2.1 ≤ c) → y.2.2.getD c 0 = xs.getD c 0} => ⟨[(0, .one (.own 0 1 0 N)), (3, .one (.int .i64 y.1.2.1)), (4, .one (.own 0 1 k (N - k))), (5, .one (.int .i64 y.1.1))], [(0, ⟨.ints 3 .i64 y.1.2.2, true⟩)], 1, 61⟩) (fun y => N - y.1.1) ⟨(1, k, xs), Nat.le_refl _, by simp only; omega, by simp only; omega, hN, hst.symm, fun _ _ _ => rfl⟩ ?_ (fun ⟨⟨j, i, ys⟩, hj1, hjN, hij, hyl, ht, hr⟩ => ?_)
        · refine Sub.auto ?_; simp only [rx, envRen, vRen, cRen, lRen, ownRen, bRen, apartRen, emptyBk, ren, ↓reduceIte, s_n1, s_n2, s_n3, s_n4, s_n5, s_n6, s_n7, s_n8, s_n9, reduceCtorEq, s_i1, s_i2, s_i3, s_i4, autoR, autoOne, Int.natCast_add, Int.natCast_one, Int.natCast_zero]
        simp only at hj1 hjN hij hyl ht hr
        have j1 : IntKind.i64.wrap ((j : Int) - 1) = ((j - 1 : Nat) : Int) := by rw [IntWalk.i64_in _ (by omega)]; omega
        have j2 : IntKind.i64.wrap ((j : Int) + 1) = ((j + 1 : Nat) : Int) := by rw [IntWalk.i64_in _ (by omega)]; omega
        have i2 : IntKind.i64.wrap ((i : Int) + 1) = ((i + 1 : Nat) : Int) := by rw [IntWalk.i64_in _ (by omega)]; omega
        simp only [vx, T, s_i5, s_n0, s_i6, s_i7, ↓reduceIte, s_n1, s_n2, s_n3, s_n4, s_n5, s_n6, s_n7, s_n8, s_n9, reduceCtorEq, s_i1, s_i2, s_i3, s_i4]
        refine ⟨fun h4 => Later.go ?_, fun h4 => Later.go ?_⟩
        · have hc1 := hr (k + j) (by omega) (by omega)
          have hc2 := hr (k + j - 1) (by omega) (by omega)
          have hkj : k + (j - 1) = k + j - 1 := by omega
          have hst2 := ddl_step xs (k + j)
          rw [← ht] at hst2
          simp only [vx, T, s_i5, s_n0, s_i6, s_i7, ↓reduceIte, s_n1, s_n2, s_n3, s_n4, s_n5, s_n6, s_n7, s_n8, s_n9, reduceCtorEq, s_i1, s_i2, s_i3, s_i4, j1, hkj]
          refine ⟨by omega, by omega, ?_⟩
          refine ⟨fun h5 => Later.go ?_, fun h5 => Later.go ?_⟩
          · rw [hc1, hc2] at h5
            have hq2 : ddq xs (k + j) = true := by unfold ddq; rw [decide_eq_true (p := xs.getD (k + j - 1) 0 ≠ xs.getD (k + j) 0) (fun e => h5 e.symm), Bool.or_true]
            rw [hq2, if_pos rfl] at hst2
            simp only [vx, T, s_i5, s_n0, s_i6, s_i7, ↓reduceIte, s_n1, s_n2, s_n3, s_n4, s_n5, s_n6, s_n7, s_n8, s_n9, reduceCtorEq, s_i1, s_i2, s_i3, s_i4]
            simp only [j2, i2]
            refine ⟨by omega, by omega, loopQ.go ⟨(j + 1, i + 1, ys.set i (ys.getD (k + j) 0)), by simp only; omega, by simp only; omega, by simp only; omega, by rw [List.length_set]; exact hyl, ?_, fun c hc1 hc2 => ?_⟩ ?_ ?_⟩
            · simp only
              rw [take_set_stepZ (by omega), hc1]; exact hst2.symm
            · simp only at hc1 hc2 ⊢
              rw [List.getD_eq_getElem?_getD, List.getElem?_set_ne (by omega), ← List.getD_eq_getElem?_getD]
              exact hr c (by omega) (by omega)
            · refine Sub.auto ?_; simp only [rx, envRen, vRen, cRen, lRen, ownRen, bRen, apartRen, emptyBk, ren, ↓reduceIte, s_n1, s_n2, s_n3, s_n4, s_n5, s_n6, s_n7, s_n8, s_n9, reduceCtorEq, s_i1, s_i2, s_i3, s_i4, autoR, autoOne, Int.natCast_add, Int.natCast_one, Int.natCast_zero]
            · simp only; omega
          · rw [hc1, hc2] at h5
            have hq2 : ddq xs (k + j) = false := by unfold ddq; rw [decide_eq_false (by omega), decide_eq_false (p := xs.getD (k + j - 1) 0 ≠ xs.getD (k + j) 0) (fun e => e h5.symm)]; rfl
            rw [hq2, if_neg (by simp), List.append_nil] at hst2
            simp only [vx, T, s_i5, s_n0, s_i6, s_i7, ↓reduceIte, s_n1, s_n2, s_n3, s_n4, s_n5, s_n6, s_n7, s_n8, s_n9, reduceCtorEq, s_i1, s_i2, s_i3, s_i4]
            simp only [j2]
            refine loopQ.go ⟨(j + 1, i, ys), by simp only; omega, by simp only; omega, by simp only; omega, hyl, hst2.symm, fun c hc1 hc2 => hr c (by simp only at hc1; omega) hc2⟩ ?_ ?_
            · refine Sub.auto ?_; simp only [rx, envRen, vRen, cRen, lRen, ownRen, bRen, apartRen, emptyBk, ren, ↓reduceIte, s_n1, s_n2, s_n3, s_n4, s_n5, s_n6, s_n7, s_n8, s_n9, reduceCtorEq, s_i1, s_i2, s_i3, s_i4, autoR, autoOne, Int.natCast_add, Int.natCast_one, Int.natCast_zero]
            · simp only; omega
        · have hjN2 : k + j = N := by omega
          rw [hjN2] at ht
          have hiN : i + ((N : Int) - (i : Int)).toNat ≤ ys.length := by omega
          simp only [vx, T, s_i5, s_n0, s_i6, s_i7, ↓reduceIte, s_n1, s_n2, s_n3, s_n4, s_n5, s_n6, s_n7, s_n8, s_n9, reduceCtorEq, s_i1, s_i2, s_i3, s_i4]
          exact ⟨⟨by omega, by omega, by omega⟩, ⟨by omega, by omega⟩, i, _, rfl, rfl, (by rw [clrL_length _ _ _ hiN]; exact hyl), by omega, by rw [← ht, List.length_take]; omega, by
            unfold clrL
            rw [List.take_append_of_le_length (by rw [List.length_take]; omega), List.take_take, Nat.min_self]; exact ht⟩
      · have hne : xs.getD (k - 1) 0 ≠ xs.getD k 0 := fun e => h3 e.symm
        simp only [vx, T, s_i5, s_n0, s_i6, s_i7, ↓reduceIte, s_n1, s_n2, s_n3, s_n4, s_n5, s_n6, s_n7, s_n8, s_n9, reduceCtorEq, s_i1, s_i2, s_i3, s_i4]
        simp only [k2]
        refine loopQ.go ⟨k + 1, by omega, by omega, fun i h4 h5 => ?_⟩ ?_ ?_
        · by_cases h6 : i < k
          · exact hd i h4 h6
          · rw [show i = k by omega]; exact hne
        · refine Sub.auto ?_; simp only [rx, envRen, vRen, cRen, lRen, ownRen, bRen, apartRen, emptyBk, ren, ↓reduceIte, s_n1, s_n2, s_n3, s_n4, s_n5, s_n6, s_n7, s_n8, s_n9, reduceCtorEq, s_i1, s_i2, s_i3, s_i4, autoR, autoOne, Int.natCast_add, Int.natCast_one, Int.natCast_zero]
        · simp only; omega
    · have hkN2 : k = N := by omega
      have e : ddl xs N = xs := by rw [ddl_all (by omega) (hkN2 ▸ hd), List.take_of_length_le (by omega)]
      simp only [vx, T, s_i5, s_n0, s_i6, s_i7, ↓reduceIte, s_n1, s_n2, s_n3, s_n4, s_n5, s_n6, s_n7, s_n8, s_n9, reduceCtorEq, s_i1, s_i2, s_i3, s_i4]
      exact ⟨N, xs, rfl, rfl, hN, Nat.le_refl _, by rw [e, hN], by rw [e, List.take_of_length_le (by omega)]⟩

/-! ### The variables, as the program finds them. -/
set_option maxHeartbeats 4000000 in
set_option maxRecDepth 10000 in
theorem iVars_spec {p : List Mono} {n d B : Nat} (hp : PB p n d B) (hd : n * d < 2 ^ 30) (hn : n < 2 ^ 30) (hd1 : d < 2 ^ 30) : PureCalls Tryz.prog 25 [PV p] (.one (.ints .i64 (varsM p))) := by
  have hpl := hp.n
  have hle : ∀ i, i ≤ p.length → (varsL (p.take i)).length ≤ i * d := fun i hi => by
    have h := varsL_length (p := p.take i) (n := i) (d := d) (B := B) ⟨by rw [List.length_take]; omega, fun m hm => hp.m m (List.mem_of_mem_take hm)⟩
    exact h
  refine pure_of_vc T_ok mixed Tryz.func25 rfl (by decide) _ (by simp [Tryz.ntmps25]) ⟨[0, 2, 3, 5, 6, 7, 8, 9], []⟩ (by kernel_rfl) _ ?_
  show vc T Tryz.prog ⟨[0, 2, 3, 5, 6, 7, 8, 9], []⟩ (Option.get! Tryz.f25.body) _ _
  simp only [Tryz.f25, Tryz.ntmps25, Option.get!, initSt, initM, envOf, Nat.reduceAdd]
  simp only [vx, T, s_i5, s_n0, s_i6, s_i7, ↓reduceIte, s_n1, s_n2, s_n3, s_n4, s_n5, s_n6, s_n7, s_n8, s_n9, reduceCtorEq, s_i1, s_i2, s_i3, s_i4, PV, PC]
  refine LoopK.go (fun y : {i : Nat // i ≤ p.length} => ⟨[(3, .one (.own 1 1 0 (varsL (p.take y.1)).length)), (6, PV p), (7, .one (.int .i64 p.length)), (8, .one (.int .i64 y.1))], [(1, ⟨.ints 3 .i64 (varsL (p.take y.1)), true⟩)], 2, 21⟩) (fun y => p.length - y.1) ⟨0, Nat.zero_le _⟩ ?_ (fun ⟨i, hi⟩ => ?_)
  · refine Sub.auto ?_; simp only [rx, envRen, vRen, cRen, lRen, ownRen, bRen, apartRen, emptyBk, ren, ↓reduceIte, s_n1, s_n2, s_n3, s_n4, s_n5, s_n6, s_n7, s_n8, s_n9, reduceCtorEq, s_i1, s_i2, s_i3, s_i4, autoR, autoOne, Int.natCast_add, Int.natCast_one, Int.natCast_zero, PV, PC, varsL]
  have h0 := hle i hi
  simp only [vx, T, s_i5, s_n0, s_i6, s_i7, ↓reduceIte, s_n1, s_n2, s_n3, s_n4, s_n5, s_n6, s_n7, s_n8, s_n9, reduceCtorEq, s_i1, s_i2, s_i3, s_i4, PV, PC]
  refine ⟨fun h1 => Later.go ?_, fun h1 => Later.go ?_⟩
  · have hil : i < p.length := by omega
    have i1 : IntKind.i64.wrap ((i : Int) + 1) = ((i + 1 : Nat) : Int) := by rw [IntWalk.i64_in _ (by omega)]; omega
    obtain ⟨a, ha⟩ : ∃ a, a = p.getD i default := ⟨_, rfl⟩
    have hpi := hp.get hil
    have hstep : varsL (p.take (i + 1)) = varsL (p.take i) ++ (p.getD i default).2 := take_flatMap_step (fun m : Mono => m.2) hil
    rw [← ha] at hpi hstep
    have hid : (i + 1) * d ≤ n * d := Nat.mul_le_mul_right _ (by omega)
    rw [Nat.add_mul] at hid
    simp only [vx, T, s_i5, s_n0, s_i6, s_i7, ↓reduceIte, s_n1, s_n2, s_n3, s_n4, s_n5, s_n6, s_n7, s_n8, s_n9, reduceCtorEq, s_i1, s_i2, s_i3, s_i4, PV, PC, ← ha, mC]
    simp only [i1]
    refine ⟨by omega, by omega, loopQ.go ⟨i + 1, by omega⟩ ?_ ?_⟩
    · refine Sub.auto ?_; simp only [rx, envRen, vRen, cRen, lRen, ownRen, bRen, apartRen, emptyBk, ren, ↓reduceIte, s_n1, s_n2, s_n3, s_n4, s_n5, s_n6, s_n7, s_n8, s_n9, reduceCtorEq, s_i1, s_i2, s_i3, s_i4, autoR, autoOne, Int.natCast_add, Int.natCast_one, Int.natCast_zero, PV, PC, hstep]
    · simp only; omega
  · have hil : i = p.length := by omega
    subst hil
    have hid : p.length * d ≤ n * d := Nat.mul_le_mul_right _ hpl
    rw [List.take_length] at h0 ⊢
    simp only [vx, T, s_i5, s_n0, s_i6, s_i7, ↓reduceIte, s_n1, s_n2, s_n3, s_n4, s_n5, s_n6, s_n7, s_n8, s_n9, reduceCtorEq, s_i1, s_i2, s_i3, s_i4, PV, PC]
    refine CallK.mut 1 rfl trivial (sortZ_spec 3 (varsL p) (by omega)) ?_
    rintro _ _ ⟨rfl, rfl⟩ _
    simp only [vx, T, s_i5, s_n0, s_i6, s_i7, ↓reduceIte, s_n1, s_n2, s_n3, s_n4, s_n5, s_n6, s_n7, s_n8, s_n9, reduceCtorEq, s_i1, s_i2, s_i3, s_i4]
    refine CallK.mut 1 rfl trivial (Compact_spec (srtZ (varsL p)) (N := (varsL p).length) (srtZ_length _) (by omega)) ?_
    rintro _ _ ⟨k, ys, rfl, rfl, hyl, hkN, hkl, ht⟩ _
    have hvm : varsM p = ys.take k := by rw [ht]; unfold varsM; rw [srtZ_length]
    rw [hvm]
    simp only [vx, T, s_i5, s_n0, s_i6, s_i7, ↓reduceIte, s_n1, s_n2, s_n3, s_n4, s_n5, s_n6, s_n7, s_n8, s_n9, reduceCtorEq, s_i1, s_i2, s_i3, s_i4]
    exact VLe.of_eq rfl

/-! ### EquationParts. -/
set_option maxHeartbeats 8000000 in
set_option maxRecDepth 10000 in
theorem lawParts_spec (p q : List Raw) (hp : RasOk p) (hq : RasOk q) : PureCalls Tryz.prog 7 [RV p, RV q] (.one (.bool true)) := by
  have hps : ∀ x ∈ [p, q], RasOk x := fun x hx => by
    rcases List.mem_cons.1 hx with rfl | hx
    · exact hp
    · obtain rfl := List.mem_singleton.1 hx; exact hq
  refine pure_of_vc T_ok mixed Tryz.func7 rfl (by decide) _ (by simp [Tryz.ntmps7]) ⟨[0, 1, 4, 5, 6, 7, 16, 33, 35, 36, 37, 47], []⟩ (by kernel_rfl) _ ?_
  show vc T Tryz.prog ⟨[0, 1, 4, 5, 6, 7, 16, 33, 35, 36, 37, 47], []⟩ (Option.get! Tryz.f7.body) _ _
  simp only [Tryz.f7, Tryz.ntmps7, Option.get!, initSt, initM, envOf, Nat.reduceAdd]
  simp only [vx, T, s_i5, s_n0, s_i6, s_i7, ↓reduceIte, s_n1, s_n2, s_n3, s_n4, s_n5, s_n6, s_n7, s_n8, s_n9, reduceCtorEq, s_i1, s_i2, s_i3, s_i4]
  refine CallK.go awake_spec ?_
  simp only [vx, T, s_i5, s_n0, s_i6, s_i7, ↓reduceIte, s_n1, s_n2, s_n3, s_n4, s_n5, s_n6, s_n7, s_n8, s_n9, reduceCtorEq, s_i1, s_i2, s_i3, s_i4, RV, RC]
  refine CallK.go ((right_spec [p, q] (by simp) hps).arg1c (lit2 p q)) ?_
  simp only [vx, T, s_i5, s_n0, s_i6, s_i7, ↓reduceIte, s_n1, s_n2, s_n3, s_n4, s_n5, s_n6, s_n7, s_n8, s_n9, reduceCtorEq, s_i1, s_i2, s_i3, s_i4]
  refine ⟨fun h1 => Later.go ?_, fun h1 => Later.go ?_⟩
  · simp only [vx, T, s_i5, s_n0, s_i6, s_i7, ↓reduceIte, s_n1, s_n2, s_n3, s_n4, s_n5, s_n6, s_n7, s_n8, s_n9, reduceCtorEq, s_i1, s_i2, s_i3, s_i4]
    refine CallK.go awake_spec ?_
    simp only [vx, T, s_i5, s_n0, s_i6, s_i7, ↓reduceIte, s_n1, s_n2, s_n3, s_n4, s_n5, s_n6, s_n7, s_n8, s_n9, reduceCtorEq, s_i1, s_i2, s_i3, s_i4]
    exact VLe.of_eq rfl
  · have h1 : rightB [p, q] = true := by simpa using h1
    obtain ⟨a, ga, la, na⟩ := rightB_get h1 hps (i := 0) (by simp)
    obtain ⟨b, gb, lb, nb⟩ := rightB_get h1 hps (i := 1) (by simp)
    have la : CLe (RC p) (PC a) := la
    have lb : CLe (RC q) (PC b) := lb
    have na : a.length = p.length := na
    have nb : b.length = q.length := nb
    have pa := ga.pb
    have pb := gb.pb
    have hal := pa.n
    have hbl := pb.n
    have mab := pa.mulM pb
    have c1 := (iVars_spec pa (by decide) (by decide) (by decide)).arg1c la
    have c2 := (rVars_spec pa (by decide) (by decide) (by decide)).arg1c la
    have c3 := (iDeg_spec pa (by decide) (by decide)).arg1c la
    have c4 := (rDeg_spec pa (by decide) (by decide)).arg1c la
    have c5 := (iMulP_spec pa pb (by decide) (by decide) (by decide) (by decide) (by decide)).arg2c la lb
    have c6 := iDeg_spec mab (by decide) (by decide)
    have c7 := (rDeg_spec pb (by decide) (by decide)).arg1c lb
    obtain ⟨vs, hvs⟩ : ∃ vs, vs = varsM a := ⟨_, rfl⟩
    have hvl : vs.length < 2 ^ 30 := by
      rw [hvs]
      unfold varsM
      have h1 := ddl_length (srtZ (varsL a)) (srtZ (varsL a)).length
      have h2 := varsL_length pa
      have h3 := srtZ_length (varsL a)
      omega
    rw [← hvs] at c1 c2
    simp only [vx, T, s_i5, s_n0, s_i6, s_i7, ↓reduceIte, s_n1, s_n2, s_n3, s_n4, s_n5, s_n6, s_n7, s_n8, s_n9, reduceCtorEq, s_i1, s_i2, s_i3, s_i4, RV, RC]
    refine CallK.go c1 ?_
    simp only [vx, T, s_i5, s_n0, s_i6, s_i7, ↓reduceIte, s_n1, s_n2, s_n3, s_n4, s_n5, s_n6, s_n7, s_n8, s_n9, reduceCtorEq, s_i1, s_i2, s_i3, s_i4]
    refine CallK.go c2 ?_
    simp only [vx, T, s_i5, s_n0, s_i6, s_i7, ↓reduceIte, s_n1, s_n2, s_n3, s_n4, s_n5, s_n6, s_n7, s_n8, s_n9, reduceCtorEq, s_i1, s_i2, s_i3, s_i4]
    refine CallK.go c3 ?_
    simp only [vx, T, s_i5, s_n0, s_i6, s_i7, ↓reduceIte, s_n1, s_n2, s_n3, s_n4, s_n5, s_n6, s_n7, s_n8, s_n9, reduceCtorEq, s_i1, s_i2, s_i3, s_i4]
    refine CallK.go c4 ?_
    simp only [vx, T, s_i5, s_n0, s_i6, s_i7, ↓reduceIte, s_n1, s_n2, s_n3, s_n4, s_n5, s_n6, s_n7, s_n8, s_n9, reduceCtorEq, s_i1, s_i2, s_i3, s_i4]
    refine LoopK.go (fun y : {i : Nat // i ≤ vs.length} => ⟨[(0, .one (RC p)), (1, .one (RC q)), (5, .one (.ints .i64 vs)), (6, .one (.ints .i64 vs)), (35, .one (.int .i64 vs.length)), (36, .one (.int .i64 y.1))], [], 1, 69⟩) (fun y => vs.length - y.1) ⟨0, Nat.zero_le _⟩ ?_ (fun ⟨i, hi⟩ => ?_)
    · refine Sub.auto ?_; simp only [rx, envRen, vRen, cRen, lRen, ownRen, bRen, apartRen, emptyBk, ren, ↓reduceIte, s_n1, s_n2, s_n3, s_n4, s_n5, s_n6, s_n7, s_n8, s_n9, reduceCtorEq, s_i1, s_i2, s_i3, s_i4, autoR, autoOne, Int.natCast_add, Int.natCast_one, Int.natCast_zero, RC]
    have i1 : IntKind.i64.wrap ((i : Int) + 1) = ((i + 1 : Nat) : Int) := by rw [IntWalk.i64_in _ (by omega)]; omega
    simp only [vx, T, s_i5, s_n0, s_i6, s_i7, ↓reduceIte, s_n1, s_n2, s_n3, s_n4, s_n5, s_n6, s_n7, s_n8, s_n9, reduceCtorEq, s_i1, s_i2, s_i3, s_i4, RC]
    refine ⟨fun h2 => Later.go ?_, fun h2 => Later.go ?_⟩
    · simp only [vx, T, s_i5, s_n0, s_i6, s_i7, ↓reduceIte, s_n1, s_n2, s_n3, s_n4, s_n5, s_n6, s_n7, s_n8, s_n9, reduceCtorEq, s_i1, s_i2, s_i3, s_i4, RC]
      simp only [i1]
      refine ⟨⟨by omega, by omega⟩, ⟨by omega, by omega⟩, loopQ.go ⟨i + 1, by omega⟩ ?_ ?_⟩
      · refine Sub.auto ?_; simp only [rx, envRen, vRen, cRen, lRen, ownRen, bRen, apartRen, emptyBk, ren, ↓reduceIte, s_n1, s_n2, s_n3, s_n4, s_n5, s_n6, s_n7, s_n8, s_n9, reduceCtorEq, s_i1, s_i2, s_i3, s_i4, autoR, autoOne, Int.natCast_add, Int.natCast_one, Int.natCast_zero, RC]
      · simp only; omega
    · simp only [vx, T, s_i5, s_n0, s_i6, s_i7, ↓reduceIte, s_n1, s_n2, s_n3, s_n4, s_n5, s_n6, s_n7, s_n8, s_n9, reduceCtorEq, s_i1, s_i2, s_i3, s_i4, RC]
      refine ⟨fun h3 => Later.go ?_, fun h3 => Later.go ?_⟩
      · simp only [vx, T, s_i5, s_n0, s_i6, s_i7, ↓reduceIte, s_n1, s_n2, s_n3, s_n4, s_n5, s_n6, s_n7, s_n8, s_n9, reduceCtorEq, s_i1, s_i2, s_i3, s_i4, RC]
        exact VLe.of_eq rfl
      · have ha0 : a ≠ [] := fun e => by rw [e] at na; exact h3 (by rw [← na]; rfl)
        simp only [vx, T, s_i5, s_n0, s_i6, s_i7, ↓reduceIte, s_n1, s_n2, s_n3, s_n4, s_n5, s_n6, s_n7, s_n8, s_n9, reduceCtorEq, s_i1, s_i2, s_i3, s_i4, RC]
        refine ⟨fun h4 => Later.go ?_, fun h4 => Later.go ?_⟩
        · simp only [vx, T, s_i5, s_n0, s_i6, s_i7, ↓reduceIte, s_n1, s_n2, s_n3, s_n4, s_n5, s_n6, s_n7, s_n8, s_n9, reduceCtorEq, s_i1, s_i2, s_i3, s_i4, RC]
          exact VLe.of_eq rfl
        · have hb0 : b ≠ [] := fun e => by rw [e] at nb; exact h4 (by rw [← nb]; rfl)
          have hdm := deg_mul ga.can gb.can ga.asc gb.asc (fun m hm => (pa.m m hm).2.2) (fun m hm => (pb.m m hm).2.2) ha0 hb0
          have g1 := degL_ge a
          have g2 := degL_ge b
          have g3 := degL_bd (l := a) (d := 4) fun m hm => (pa.m m hm).2.1
          have g4 := degL_bd (l := b) (d := 4) fun m hm => (pb.m m hm).2.1
          have hw : IntKind.i64.wrap (degL a + degL b) = degL (mulM a b) := by rw [IntWalk.i64_in _ (by omega)]; exact hdm.symm
          simp only [vx, T, s_i5, s_n0, s_i6, s_i7, ↓reduceIte, s_n1, s_n2, s_n3, s_n4, s_n5, s_n6, s_n7, s_n8, s_n9, reduceCtorEq, s_i1, s_i2, s_i3, s_i4, RC]
          refine CallK.go c5 ?_
          simp only [vx, T, s_i5, s_n0, s_i6, s_i7, ↓reduceIte, s_n1, s_n2, s_n3, s_n4, s_n5, s_n6, s_n7, s_n8, s_n9, reduceCtorEq, s_i1, s_i2, s_i3, s_i4, RC, PV, PC]
          refine CallK.go c6 ?_
          simp only [vx, T, s_i5, s_n0, s_i6, s_i7, ↓reduceIte, s_n1, s_n2, s_n3, s_n4, s_n5, s_n6, s_n7, s_n8, s_n9, reduceCtorEq, s_i1, s_i2, s_i3, s_i4, RC]
          refine CallK.go c4 ?_
          simp only [vx, T, s_i5, s_n0, s_i6, s_i7, ↓reduceIte, s_n1, s_n2, s_n3, s_n4, s_n5, s_n6, s_n7, s_n8, s_n9, reduceCtorEq, s_i1, s_i2, s_i3, s_i4, RC]
          refine CallK.go c7 ?_
          simp only [vx, T, s_i5, s_n0, s_i6, s_i7, ↓reduceIte, s_n1, s_n2, s_n3, s_n4, s_n5, s_n6, s_n7, s_n8, s_n9, reduceCtorEq, s_i1, s_i2, s_i3, s_i4, RC, hw]
          exact VLe.of_eq rfl

end Go.Proofs.YtckikgkdplkopaaGreat
