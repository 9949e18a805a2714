/-
  TriangleValid: for every input the law returns true, and each argument reads afterwards as it read before. No condition.
  (A text of its own, for what it imports.)
-/
import Derived.Shelf.SlSortCmp.WholeK
import Derived.WalkKit
import Derived.Deep.RegionWith
import Derived.Deep.Draws
import Derived.Test.YthfekehoehdkoaaGreatProg
set_option linter.unusedSimpArgs false
set_option linter.unusedVariables false
namespace Go.Proofs.YthfekehoehdkoaaGreat
open Go Go.Proofs Go.Shelf Go.RowKit Go.Lib Go.Sort

def cmW (x y : Int) : Int := if x < y then -1 else if y < x then 1 else 0

theorem nanW (x : Int) (W : World) : Calls Tryz.prog 93 #[.int .i64 x] W fun e w' => e = .returned (.bool false) ∧ w' = W := by
  go_enter Tryz.func93, Tryz.ntmps93
  go_wp2
  go_ret
  exact ⟨by simp, rfl⟩

theorem cmpW (x y : Int) (W : World) : Calls Tryz.prog 65 #[.int .i64 x, .int .i64 y] W fun e w' => e = .returned (.int .i64 (cmW x y)) ∧ w' = W := by
  have hn := nanW
  by_cases h1 : x < y
  · rw [show cmW x y = -1 from if_pos h1]
    go_enter Tryz.func65, Tryz.ntmps65
    go_wp2_with (go_at_call 93; refine (hn _ _).mono ?_; rintro e w' ⟨rfl, rfl⟩)
    go_ret
    exact ⟨rfl, rfl⟩
  · by_cases h2 : y < x
    · rw [show cmW x y = 1 by unfold cmW; rw [if_neg h1, if_pos h2]]
      go_enter Tryz.func65, Tryz.ntmps65
      go_wp2_with (go_at_call 93; refine (hn _ _).mono ?_; rintro e w' ⟨rfl, rfl⟩)
      go_ret
      exact ⟨rfl, rfl⟩
    · rw [show cmW x y = 0 by unfold cmW; rw [if_neg h1, if_neg h2]]
      go_enter Tryz.func65, Tryz.ntmps65
      go_wp2_with (go_at_call 93; refine (hn _ _).mono ?_; rintro e w' ⟨rfl, rfl⟩)
      go_ret
      exact ⟨rfl, rfl⟩

set_option maxHeartbeats 4000000 in
set_option maxRecDepth 100000 in
theorem cmp2A (x0 x1 y0 y1 c0 c1 : Int) (g1 g2 : Nat) (W : World) (a0 : W.cell? ⟨g1, 0, none⟩ = some (.int .i64 x0)) (a1 : W.cell? ⟨g1, 1, none⟩ = some (.int .i64 x1)) (b0 : W.cell? ⟨g2, 0, none⟩ = some (.int .i64 y0)) (b1 : W.cell? ⟨g2, 1, none⟩ = some (.int .i64 y1))
    (h0 : ∀ W, Calls Tryz.prog 65 #[.int .i64 x0, .int .i64 y0] W fun e w' => e = .returned (.int .i64 c0) ∧ w' = W)
    (h1 : ∀ W, Calls Tryz.prog 65 #[.int .i64 x1, .int .i64 y1] W fun e w' => e = .returned (.int .i64 c1) ∧ w' = W) (e0 : c0 = 0) (e1 : c1 = 0) :
    Calls Tryz.prog 45 #[.slice (some ⟨g1, 0, none⟩) 2 2, .slice (some ⟨g2, 0, none⟩) 2 2] W fun e w' => e = .returned (.int .i64 0) ∧ ∃ q, w' = W.drewN q := by
  subst e0
  subst e1
  go_enter Tryz.func45, Tryz.ntmps45
  go_wp2
  refine wp_loop_rounds 3 ?_
  rw [rounds_succ]
  go_wp2_with (go_at_call 65; refine (h0 _).mono ?_; rintro e w' ⟨rfl, rfl⟩)
  rw [rounds_succ]
  go_wp2_with (go_at_call 65; refine (h1 _).mono ?_; rintro e w' ⟨rfl, rfl⟩)
  rw [rounds_succ]
  go_wp2_with fail
  go_ret
  exact ⟨rfl, 0, rfl⟩
set_option maxHeartbeats 4000000 in
set_option maxRecDepth 100000 in
theorem cmp2B (x0 x1 y0 y1 c0 c1 : Int) (g1 g2 : Nat) (W : World) (a0 : W.cell? ⟨g1, 0, none⟩ = some (.int .i64 x0)) (a1 : W.cell? ⟨g1, 1, none⟩ = some (.int .i64 x1)) (b0 : W.cell? ⟨g2, 0, none⟩ = some (.int .i64 y0)) (b1 : W.cell? ⟨g2, 1, none⟩ = some (.int .i64 y1))
    (h0 : ∀ W, Calls Tryz.prog 65 #[.int .i64 x0, .int .i64 y0] W fun e w' => e = .returned (.int .i64 c0) ∧ w' = W)
    (h1 : ∀ W, Calls Tryz.prog 65 #[.int .i64 x1, .int .i64 y1] W fun e w' => e = .returned (.int .i64 c1) ∧ w' = W) (e0 : ¬ c0 = 0) :
    Calls Tryz.prog 45 #[.slice (some ⟨g1, 0, none⟩) 2 2, .slice (some ⟨g2, 0, none⟩) 2 2] W fun e w' => e = .returned (.int .i64 c0) ∧ ∃ q, w' = W.drewN q := by
  go_enter Tryz.func45, Tryz.ntmps45
  go_wp2
  refine wp_loop_rounds 3 ?_
  rw [rounds_succ]
  go_wp2_with (go_at_call 65; refine (h0 _).mono ?_; rintro e w' ⟨rfl, rfl⟩)
  go_ret
  exact ⟨rfl, 0, rfl⟩
set_option maxHeartbeats 4000000 in
set_option maxRecDepth 100000 in
theorem cmp2C (x0 x1 y0 y1 c0 c1 : Int) (g1 g2 : Nat) (W : World) (a0 : W.cell? ⟨g1, 0, none⟩ = some (.int .i64 x0)) (a1 : W.cell? ⟨g1, 1, none⟩ = some (.int .i64 x1)) (b0 : W.cell? ⟨g2, 0, none⟩ = some (.int .i64 y0)) (b1 : W.cell? ⟨g2, 1, none⟩ = some (.int .i64 y1))
    (h0 : ∀ W, Calls Tryz.prog 65 #[.int .i64 x0, .int .i64 y0] W fun e w' => e = .returned (.int .i64 c0) ∧ w' = W)
    (h1 : ∀ W, Calls Tryz.prog 65 #[.int .i64 x1, .int .i64 y1] W fun e w' => e = .returned (.int .i64 c1) ∧ w' = W) (e0 : c0 = 0) (e1 : ¬ c1 = 0) :
    Calls Tryz.prog 45 #[.slice (some ⟨g1, 0, none⟩) 2 2, .slice (some ⟨g2, 0, none⟩) 2 2] W fun e w' => e = .returned (.int .i64 c1) ∧ ∃ q, w' = W.drewN q := by
  subst e0
  go_enter Tryz.func45, Tryz.ntmps45
  go_wp2
  refine wp_loop_rounds 3 ?_
  rw [rounds_succ]
  go_wp2_with (go_at_call 65; refine (h0 _).mono ?_; rintro e w' ⟨rfl, rfl⟩)
  rw [rounds_succ]
  go_wp2_with (go_at_call 65; refine (h1 _).mono ?_; rintro e w' ⟨rfl, rfl⟩)
  go_ret
  exact ⟨rfl, 0, rfl⟩
theorem cmp2W (x0 x1 y0 y1 : Int) (g1 g2 : Nat) (W : World) (a0 : W.cell? ⟨g1, 0, none⟩ = some (.int .i64 x0)) (a1 : W.cell? ⟨g1, 1, none⟩ = some (.int .i64 x1)) (b0 : W.cell? ⟨g2, 0, none⟩ = some (.int .i64 y0)) (b1 : W.cell? ⟨g2, 1, none⟩ = some (.int .i64 y1)) :
    Calls Tryz.prog 45 #[.slice (some ⟨g1, 0, none⟩) 2 2, .slice (some ⟨g2, 0, none⟩) 2 2] W fun e w' => e = .returned (.int .i64 (if cmW x0 y0 ≠ 0 then cmW x0 y0 else cmW x1 y1)) ∧ ∃ q, w' = W.drewN q := by
  by_cases e0 : cmW x0 y0 = 0
  · rw [if_neg (by simp [e0])]
    by_cases e1 : cmW x1 y1 = 0
    · rw [e1]; exact cmp2A x0 x1 y0 y1 _ _ g1 g2 W a0 a1 b0 b1 (cmpW x0 y0) (cmpW x1 y1) e0 e1
    · exact cmp2C x0 x1 y0 y1 _ _ g1 g2 W a0 a1 b0 b1 (cmpW x0 y0) (cmpW x1 y1) e0 e1
  · rw [if_pos e0]
    exact cmp2B x0 x1 y0 y1 _ _ g1 g2 W a0 a1 b0 b1 (cmpW x0 y0) (cmpW x1 y1) e0

theorem two_allocs (w : World) (a b : Obj) (q : Nat) : ((w.alloc a).alloc b).drewN q = grow (w.drewN q) #[a, b] := by
  rw [alloc_eq_grow, alloc_eq_grow, grow_grow]; rfl
/-- Two bars compared. -/
def cfE (x y : Int × Int) : Int := if cmW x.1 y.1 ≠ 0 then cmW x.1 y.1 else cmW x.2 y.2
set_option maxHeartbeats 4000000 in
set_option maxRecDepth 100000 in
theorem closW (x y : Int × Int) (W : World) : Calls Tryz.prog 44 #[.agg #[.int .i64 x.1, .int .i64 x.2], .agg #[.int .i64 y.1, .int .i64 y.2]] W fun e w' => e = .returned (.int .i64 (cfE x y)) ∧ ∃ q os, w' = grow (W.drewN q) os := by
  have hc := fun g1 g2 W' a0 a1 b0 b1 => cmp2W x.1 x.2 y.1 y.2 g1 g2 W' a0 a1 b0 b1
  change ∀ g1 g2 W' (a0 : _) (a1 : _) (b0 : _) (b1 : _), Calls Tryz.prog _ _ _ (fun e w' => e = .returned (.int .i64 (cfE x y)) ∧ _) at hc
  generalize cfE x y = r at hc ⊢
  go_enter Tryz.func44, Tryz.ntmps44
  go_wp2
  go_region_with (go_at_call 45; refine (hc W.heap.size (W.heap.size + 1) _ (by simp) (by simp) (by simp) (by simp)).mono ?_; rintro e w' ⟨rfl, q, rfl⟩)
  all_goals (apply_assumption)
  all_goals go_wp2
  all_goals go_ret
  all_goals exact ⟨rfl, _, _, two_allocs _ _ _ _⟩
end Go.Proofs.YthfekehoehdkoaaGreat
