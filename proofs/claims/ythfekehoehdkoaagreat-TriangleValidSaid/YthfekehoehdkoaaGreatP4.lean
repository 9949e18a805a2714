/-
  TriangleValid: for every input the law returns true, and each argument reads afterwards as it read before. No condition.
  (Text 4 of 7; made by a program out of smaller texts.)
-/
import Derived.Test.YthfekehoehdkoaaGreatProg
import Derived.KernelRfl
import Derived.Shelf.Sort.Plain
import Derived.Shelf.Slices.In.SortNone
import Derived.WalkKit
import Derived.Test.YthfekehoehdkoaaGreatP3
set_option linter.unusedSimpArgs false
set_option linter.unusedVariables false
open Nat renaming reduceAdd → s_n1, reduceMul → s_n2, reduceSub → s_n3, reduceEqDiff → s_n4, reduceLT → s_n5, reduceLeDiff → s_n6, reduceBEq → s_n7, reduceDiv → s_n8, reduceMod → s_n9, reducePow → s_n0
open Int renaming reduceToNat → s_i1, reduceLE → s_i2, reduceLT → s_i3, reduceEq → s_i4, reducePow → s_i5, reduceSub → s_i6, reduceNeg → s_i7

/-! ## EngY -/
namespace Go.Eng
open Go

def freshV (s : St) (B : Bk) (x : V) : Prop :=
  match x with
  | .one (.own b wd off len) => off = 0 ∧ wd = B.wd ∧ len = B.len ∧ someP (lo s.own b) fun B' => B'.rw = true ∧ bRen [] 0 B'.bk B
  | .one .nil => emptyBk B
  | _ => False

/-- What must hold where a function returns a new slice. -/
def retF (rs : List ResultVar) (B : Bk) : Exit → St → Prop
  | .ret, s => match rs with
    | [.tmp t] => freshV s B (lk s.env t)
    | _ => False
  | .normal, s => match rs with
    | [.tmp t] => freshV s B (lk s.env t)
    | _ => False
  | _, _ => False

/-- The first block begins as the second stands. -/
def bPre (B' B : Bk) : Prop :=
  match B with
  | .ints _ k xs => match B' with
    | .ints _ k' xs' => k' = k ∧ xs'.take xs.length = xs
    | _ => False
  | .rows _ w n f => match B' with
    | .rows _ w' n' f' => w' = w ∧ n ≤ n' ∧ ∀ i j, i < n → j < w → f' i j = f i j
    | .wins _ _ n' g => w = 1 ∧ n ≤ n' ∧ ∀ i, i < n → frzC (g i) = true ∧ g i = f i 0
    | _ => False
  | .var _ => False
  | .wins .. => False
/-- What must hold where a function returns a new slice, and a flag or a number. -/
def retT (rs : List ResultVar) (B : Bk) (c : C) : Exit → St → Prop
  | .ret, s => match rs with
    | [.tmp t, .tmp u] => freshV s B (lk s.env t) ∧ lk s.env u = .one c
    | _ => False
  | .normal, s => match rs with
    | [.tmp t, .tmp u] => freshV s B (lk s.env t) ∧ lk s.env u = .one c
    | _ => False
  | _, _ => False
theorem retT_tmp {rs : List ResultVar} {B : Bk} {c : C} {e : Exit} {s : St} (h : retT rs B c e s) : (e = .normal ∨ e = .ret) ∧ ∃ t u, rs = [.tmp t, .tmp u] ∧ freshV s B (lk s.env t) ∧ lk s.env u = .one c := by
  unfold retT at h
  split at h
  · split at h
    · exact ⟨.inr rfl, _, _, rfl, h⟩
    · exact h.elim
  · split at h
    · exact ⟨.inl rfl, _, _, rfl, h⟩
    · exact h.elim
  · exact h.elim

def freshG (s : St) (B : Bk) (x : V) : Prop :=
  match x with
  | .one (.own b wd off len) => off = 0 ∧ wd = B.wd ∧ len = B.len ∧ someP (lo s.own b) fun B' => B'.rw = true ∧ bPre B'.bk B
  | .one .nil => emptyBk B
  | _ => False
theorem bRen_pre {B' B : Bk} (hB : B.flat) (h : bRen [] 0 B' B) : bPre B' B := by
  cases B with
  | var cs => exact hB.elim
  | wins e b2 n g => exact hB.elim
  | ints e k xs =>
    cases B' with
    | ints e' k' xs' => obtain ⟨rfl, rfl⟩ := h; exact ⟨rfl, List.take_length⟩
    | _ => exact h.elim
  | rows e w n f =>
    cases B' with
    | rows e' w' n' f' => obtain ⟨rfl, rfl, h⟩ := h; exact ⟨rfl, Nat.le_refl _, h⟩
    | wins e' b2 n' g => obtain ⟨rfl, rfl, h⟩ := h; exact ⟨rfl, Nat.le_refl _, h⟩
    | _ => exact h.elim
theorem freshV_G {s : St} {B : Bk} {x : V} (hB : B.flat) (h : freshV s B x) : freshG s B x := by
  unfold freshV at h
  unfold freshG
  split at h
  · obtain ⟨h1, h2, h3, h4⟩ := h
    refine ⟨h1, h2, h3, ?_⟩
    unfold someP at h4 ⊢
    split at h4
    · exact ⟨h4.1, bRen_pre hB h4.2⟩
    · exact h4.elim
  · exact h
  · exact h.elim
theorem bPre_cell {B' B : Bk} (h : bPre B' B) (j : Nat) (c : C) (hc : B.cell j = some c) : B'.cell j = some c := by
  cases B with
  | var cs => exact h.elim
  | wins e b2 n g => exact h.elim
  | ints e k xs =>
    cases B' with
    | ints e' k' xs' =>
      obtain ⟨rfl, h⟩ := h
      simp only [Bk.cell] at hc ⊢
      rw [← h, List.getElem?_take] at hc
      split at hc
      · exact hc
      · cases hc
    | _ => exact h.elim
  | rows e w n f =>
    cases B' with
    | rows e' w' n' f' =>
      obtain ⟨rfl, hn, h⟩ := h
      simp only [Bk.cell] at hc ⊢
      split at hc
      · rename_i hlt
        have hw : 0 < w' := Nat.pos_of_ne_zero fun h0 => by subst h0; simp at hlt
        have h1 : j / w' < n := by rw [Nat.div_lt_iff_lt_mul hw]; exact hlt
        rw [if_pos (Nat.lt_of_lt_of_le hlt (Nat.mul_le_mul_right _ hn)), h _ _ h1 (Nat.mod_lt _ hw)]
        exact hc
      · cases hc
    | wins e' b2 n' g =>
      obtain ⟨rfl, hn, h⟩ := h
      simp only [Bk.cell, Nat.mul_one, Nat.div_one, Nat.mod_one] at hc ⊢
      split at hc
      · rename_i hlt
        rw [if_pos (by omega), (h j hlt).2]; exact hc
      · cases hc
    | _ => exact h.elim
theorem bPre_flat {B' B : Bk} (h : bPre B' B) : B.flat ∧ ∀ cs, B' ≠ .var cs := by
  cases B <;> cases B' <;> first | exact h.elim | exact ⟨trivial, fun _ e => by cases e⟩
theorem bPre_frz {B : Bk} {e : TypeId} {b2 n : Nat} {g : Nat → C} (h : bPre (.wins e b2 n g) B) {j : Nat} {c : C} (hc : B.cell j = some c) : frzC c = true := by
  cases B with
  | rows e w n f =>
    obtain ⟨rfl, hn, h⟩ := h
    simp only [Bk.cell, Nat.mul_one, Nat.div_one, Nat.mod_one] at hc
    split at hc
    · rename_i hlt
      obtain ⟨h1, h2⟩ := h j hlt
      rw [h2] at h1
      obtain rfl := Option.some.inj hc
      exact h1
    · cases hc
  | _ => exact h.elim

theorem Bk.flat_plain {B : Bk} (h : B.flat) : B.plain := by cases B <;> first | exact h.elim | trivial

theorem results_tmp {P : Program} {fn : Func} {t : Tmp} (h : fn.results.toList = [.tmp t]) (tmps : Array Value) (w : World) : (results fn tmps).run P w = .ok (tmps.getD t undef) w := by
  have : fn.results = #[.tmp t] := Array.toList_inj.1 h
  unfold results
  rw [this]
  simp [Sem.run_bind, Sem.run_pure]

def retP (rs : List ResultVar) (B : Bk) : Exit → St → Prop
  | .ret, s => match rs with
    | [.tmp t] => freshG s B (lk s.env t)
    | _ => False
  | .normal, s => match rs with
    | [.tmp t] => freshG s B (lk s.env t)
    | _ => False
  | _, _ => False
theorem retP_tmp {rs : List ResultVar} {B : Bk} {e : Exit} {s : St} (h : retP rs B e s) : (e = .normal ∨ e = .ret) ∧ ∃ t, rs = [.tmp t] ∧ freshG s B (lk s.env t) := by
  unfold retP at h
  split at h
  · split at h
    · exact ⟨.inr rfl, _, rfl, h⟩
    · exact h.elim
  · split at h
    · exact ⟨.inl rfl, _, rfl, h⟩
    · exact h.elim
  · exact h.elim

theorem retF_tmp {rs : List ResultVar} {B : Bk} {e : Exit} {s : St} (h : retF rs B e s) : (e = .normal ∨ e = .ret) ∧ ∃ t, rs = [.tmp t] ∧ freshV s B (lk s.env t) := by
  unfold retF at h
  split at h
  · split at h
    · exact ⟨.inr rfl, _, rfl, h⟩
    · exact h.elim
  · split at h
    · exact ⟨.inl rfl, _, rfl, h⟩
    · exact h.elim
  · exact h.elim

/-- A cell: a part of the block, or frozen. -/
def winOk (b2 : Nat) (c : C) (g : Nat → C) : Prop := (∃ wd o l, c = .own b2 wd o l ∧ ∀ b, g b = .own b wd o l) ∨ (frzC c = true ∧ ∀ b, g b = c)
/-- A slice of parts of one own block. -/
def winV (s : St) (n : Nat) (g : Nat → Nat → C) (B : Bk) (x : V) : Prop :=
  match x with
  | .one (.win b b2 off len) => off = 0 ∧ len = n ∧ b ≠ b2 ∧ someP (lo s.own b) (fun W => W.rw = true ∧ match W.bk with
      | .wins _ _ n' g' => n' = n ∧ ∀ i, i < n → winOk b2 (g' i) (fun b => g b i)
      | _ => False) ∧ someP (lo s.own b2) fun B' => B'.rw = true ∧ bRen [] 0 B'.bk B
  | _ => False
theorem freshG_fin {w w' : World} {ok : Nat → Prop} {ρ : Nat → Loc} {s' : St} {a : Act} {t : Tmp} {B : Bk} (hB : B.flat)
    (hs : SimR { W0 := w, forb := fun g => g < w.heap.size ∧ ¬ ok g, mine := fun _ => False } (fun b => b < s'.nx) ρ s' a w') (hfv : freshG s' B (lk s'.env t)) :
    ∃ l : Loc, l.len = B.len ∧ (∀ g o, l.addr = some (g, o) → w.heap.size ≤ g ∧ g < w'.heap.size) ∧
      RepBk loc0 dom0 (fun g => ok g ∨ (w.heap.size ≤ g ∧ g < w'.heap.size ∧ ∀ o, l.addr ≠ some (g, o))) w' l B ∧ RepB (fun _ => l) (fun _ => True) (fun _ => False) w' (.own 0 B.wd 0 B.len) (a.tmps.getD t undef) ∧
      ∀ g, okOf { W0 := w, forb := fun g => g < w.heap.size ∧ ¬ ok g, mine := fun _ => False } s'.own ρ w' g → ok g ∨ (w.heap.size ≤ g ∧ g < w'.heap.size ∧ ∀ o, l.addr ≠ some (g, o)) := by
  have hev := hs.env t
  unfold freshG at hfv
  split at hfv
  · rename_i b wd off len hx
    obtain ⟨rfl, rfl, rfl, h4⟩ := hfv
    cases hlo : lo s'.own b with
    | none => rw [hlo] at h4; exact h4.elim
    | some B' =>
      rw [hlo] at h4
      obtain ⟨h5, h6⟩ := h4
      obtain ⟨hd, hlB, hrB, hgB⟩ := hs.own b B' hlo
      rw [hx] at hev
      obtain ⟨_, h7, h8⟩ := hev
      have hokk : ∀ g, okOf { W0 := w, forb := fun g => g < w.heap.size ∧ ¬ ok g, mine := fun _ => False } s'.own ρ w' g → ok g ∨ (w.heap.size ≤ g ∧ g < w'.heap.size ∧ ∀ o, (ρ b).addr ≠ some (g, o)) := fun g hg => by
        by_cases hgs : g < w.heap.size
        · by_cases hok' : ok g
          · exact .inl hok'
          · exact absurd ⟨hgs, hok'⟩ hg.2.1
        · exact .inr ⟨by omega, hg.1, fun o ha => hg.2.2 b B' hlo h5 o ha⟩
      refine ⟨⟨(ρ b).addr, B.len⟩, rfl, fun g o ha => ?_, ?_, ⟨trivial, (by simp), h8⟩, hokk⟩
      · obtain ⟨h9, _, h10⟩ := hgB g o ha
        rcases h10 with h10 | h10
        · exact ⟨h10, h9⟩
        · exact h10.elim
      · have h9 : RepBk ρ (fun b => b < s'.nx) (okOf { W0 := w, forb := fun g => g < w.heap.size ∧ ¬ ok g, mine := fun _ => False } s'.own ρ w') w' ⟨(ρ b).addr, B.len⟩ B := by
          unfold RepBk at hrB ⊢
          simp only
          cases ha : (ρ b).addr with
          | none =>
            rw [ha] at hrB
            intro j
            cases hc : B.cell j with
            | none => rfl
            | some c => exact absurd (hrB j) (by simp [bPre_cell h6 j c hc])
          | some x =>
            obtain ⟨g, o⟩ := x
            rw [ha] at hrB
            obtain ⟨cur, e, hg, hc⟩ := hrB
            refine ⟨cur, e, hg, fun j c hj => ?_⟩
            obtain ⟨u, hu, hr⟩ := hc j c (bPre_cell h6 j c hj)
            refine ⟨u, hu, ?_⟩
            obtain ⟨hf2, hf1⟩ := bPre_flat h6
            have hrI : RepI (okOf { W0 := w, forb := fun g => g < w.heap.size ∧ ¬ ok g, mine := fun _ => False } s'.own ρ w') w' c u := by
              cases hb' : B'.bk with
              | var cs => exact absurd hb' (hf1 cs)
              | ints e' k' xs' => rw [hb'] at hr; exact hr
              | rows e' w'' n' f' => rw [hb'] at hr; exact hr
              | wins e' b2 n' g' => rw [hb'] at hr h6; exact frzC_rep (bPre_frz h6 hj) hr
            cases B with
            | var cs => exact hf2.elim
            | wins e b2 n g => exact hf2.elim
            | ints e k xs => exact hrI
            | rows e w2 n f => exact hrI
        exact h9.plain_ext (Bk.flat_plain hB) hokk
  · rename_i hx
    rw [hx] at hev
    have hev : a.tmps.getD t undef = .slice none 0 0 := hev
    have hB0 : B.len = 0 := by
      cases B with
      | var cs => exact hfv.elim
      | ints e k xs => have : xs = [] := hfv; subst this; rfl
      | rows e wd n f => have : n = 0 := hfv; subst this; rfl
      | wins e b2 n g => exact hB.elim
    have hBc : ∀ j, B.cell j = none := by
      intro j
      cases B with
      | var cs => exact hfv.elim
      | ints e k xs => have : xs = [] := hfv; subst this; simp [Bk.cell]
      | rows e wd n f => have : n = 0 := hfv; subst this; simp [Bk.cell]
      | wins e b2 n g => exact hB.elim
    have hval : RepB (fun _ => (⟨none, 0⟩ : Loc)) (fun _ => True) (fun _ => False) w' (.own 0 B.wd 0 B.len) (a.tmps.getD t undef) := by
      rw [hB0]
      exact ⟨trivial, Nat.le_refl _, 0, Nat.le_refl _, .inr ⟨rfl, hev, rfl, rfl⟩⟩
    refine ⟨⟨none, 0⟩, hB0.symm, fun g o ha => absurd ha (by simp), hBc, hval, fun g hg => ?_⟩
    by_cases hgs : g < w.heap.size
    · by_cases hok' : ok g
      · exact .inl hok'
      · exact absurd ⟨hgs, hok'⟩ hg.2.1
    · exact .inr ⟨by omega, hg.1, fun o ha => absurd ha (by simp)⟩
  · exact hfv.elim

theorem initSim {w : World} {ok : Nat → Prop} {args : List V} {n : Nat} (hargs : args.length ≤ n) {vs : Array Value} (hok : ∀ g, ok g → g < w.heap.size) (hvs : RepVL loc0 dom0 ok w args vs.toList) :
    Sim { W0 := w, forb := fun g => g < w.heap.size ∧ ¬ ok g, mine := fun _ => False } (initSt args n) { tmps := vs ++ Array.replicate (n - vs.size) undef, defers := [] } w := by
  have hlen := RepVL.length hvs
  simp only [Array.length_toList] at hlen
  let G : Ctx := { W0 := w, forb := fun g => g < w.heap.size ∧ ¬ ok g, mine := fun _ => False }
  let a0 : Act := { tmps := vs ++ Array.replicate (n - vs.size) undef, defers := [] }
  have hokG : ∀ g, ok g → okOf G [] loc0 w g := fun g hg => ⟨hok g hg, fun hf => hf.2 hg, fun b B hl => by cases hl⟩
  show Sim G (initSt args n) a0 w
  refine ⟨loc0, { hd := rfl, hn := ?_, env := fun t => ?_, own := fun b B hl => (by cases hl), inj := fun b B b' B' hl => (by cases hl), os := rfl, tape := rfl, output := rfl, size := Nat.le_refl _, keep := fun _ _ _ => rfl, wf := fun k hk => hk.1, home := fun l hl => (by cases hl), room := fun _ => Nat.le_refl _ }⟩
  · simp [a0, initSt]; omega
  · simp only [initSt, envOf_get]
    split
    · rename_i ht
      simp only [Nat.sub_zero, Nat.zero_add] at ht ⊢
      have hx : args[t]? = some (args.getD t .unk) := by
        rw [List.getD_eq_getElem?_getD, List.getElem?_eq_getElem ht.2]; rfl
      obtain ⟨v, hv, hr⟩ := RepVL.get hvs t _ hx
      have hv' : a0.tmps.getD t undef = v := by
        rw [Array.getElem?_toList] at hv
        have hlt := (Array.getElem?_eq_some_iff.1 hv).1
        simp only [a0, Array.getD_eq_getD_getElem?]
        rw [Array.getElem?_append_left hlt, hv]; rfl
      rw [hv']
      exact RepV.of_V1 (RepV1.ext (Ext.of_imp hokG) ⟨fun b hb => hb.elim, fun b hb => hb.elim⟩ _ _ hr)
    · trivial

theorem fresh_of_vcG {P : Program} {T : Tab} (hT : TabOk P T) (hm : P.follows .mixedOrders = true) {f : FuncId} {fn : Func} {c : Code} (hf : P.funcs[f]? = some fn) (hb : fn.body = some c) (hn : (fn.name == "runtime.NumGoroutine") = false)
    (args : List V) (hargs : args.length ≤ fn.ntmps) (keep : Kp) (hck : codeOk keep c = true) (B : Bk) (hB : B.flat)
    (RET : Exit → St → Prop) (hret : ∀ e s, RET e s → (e = .normal ∨ e = .ret) ∧ ∃ t, fn.results.toList = [.tmp t] ∧ freshG s B (lk s.env t))
    (h : vc T P keep c (initSt args fn.ntmps) RET) : FreshCalls P f args B := by
  refine ⟨⟨fn, hf, by rw [hb]; rfl, hn⟩, hB, fun ok w vs hok hvs => ?_⟩
  let G : Ctx := { W0 := w, forb := fun g => g < w.heap.size ∧ ¬ ok g, mine := fun _ => False }
  have hsim := initSim hargs hok hvs
  refine calls_of_wp hf hb (wp_mono (vc_sound hT hm keep c hck _ _ h G _ w hsim) ?_)
  rintro e a w' ⟨s', hq, ρ, hs⟩
  obtain ⟨he, t, hrs, hfv⟩ := hret _ _ hq
  have hres := results_tmp (P := P) hrs a.tmps w'
  have hbelow : Go.RowKit.Below w.heap.size w w' := ⟨hs.os, hs.tape, hs.output, hs.size, fun k hk => hs.keep k hk (fun hf => hf)⟩
  obtain ⟨l, h1, h2, h3, h4, h5⟩ := freshG_fin hB hs hfv
  have fin : a.defers = [] ∧ ∃ v, (results fn a.tmps).run P w' = .ok v w' ∧ ∃ u l, Ending.returned v = .returned u ∧ Go.RowKit.Below w.heap.size w w' ∧ l.len = B.len ∧ (∀ g o, l.addr = some (g, o) → w.heap.size ≤ g ∧ g < w'.heap.size) ∧
      RepBk loc0 dom0 (fun g => ok g ∨ (w.heap.size ≤ g ∧ g < w'.heap.size ∧ ∀ o, l.addr ≠ some (g, o))) w' l B ∧ RepB (fun _ => l) (fun _ => True) (fun _ => False) w' (.own 0 B.wd 0 B.len) u := 
    ⟨hs.hd, _, hres, _, l, rfl, hbelow, h1, h2, h3, h4⟩
  rcases he with rfl | rfl
  · exact fin
  · exact fin

theorem freshT_of_vc {P : Program} {T : Tab} (hT : TabOk P T) (hm : P.follows .mixedOrders = true) {f : FuncId} {fn : Func} {c : Code} (hf : P.funcs[f]? = some fn) (hb : fn.body = some c) (hn : (fn.name == "runtime.NumGoroutine") = false)
    (args : List V) (hargs : args.length ≤ fn.ntmps) (keep : Kp) (hck : codeOk keep c = true) (B : Bk) (c0 : C) (hB : B.flat) (hc0 : scalarC' c0)
    (h : vc T P keep c (initSt args fn.ntmps) (retT fn.results.toList B c0)) : FreshT P f args B c0 := by
  refine ⟨hc0, ⟨fn, hf, by rw [hb]; rfl, hn⟩, hB, fun ok w vs hok hvs => ?_⟩
  let G : Ctx := { W0 := w, forb := fun g => g < w.heap.size ∧ ¬ ok g, mine := fun _ => False }
  have hsim := initSim hargs hok hvs
  refine calls_of_wp hf hb (wp_mono (vc_sound hT hm keep c hck _ _ h G _ w hsim) ?_)
  rintro e a w' ⟨s', hq, ρ, hs⟩
  obtain ⟨he, t, u, hrs, hfv, hu⟩ := retT_tmp hq
  have hbelow : Go.RowKit.Below w.heap.size w w' := ⟨hs.os, hs.tape, hs.output, hs.size, fun k hk => hs.keep k hk (fun hf => hf)⟩
  obtain ⟨l, h1, h2, h3, h4, h5⟩ := freshG_fin hB hs (freshV_G hB hfv)
  have hres : (results fn a.tmps).run P w' = .ok (.tuple #[a.tmps.getD t undef, a.tmps.getD u undef]) w' := by
    have : fn.results = #[.tmp t, .tmp u] := Array.toList_inj.1 hrs
    unfold results
    rw [this]
    simp [Sem.run_bind, Sem.run_pure]
  have hcu : RepC loc0 dom0 (fun _ => False) w' c0 (a.tmps.getD u undef) := by
    have := hs.env u
    rw [hu] at this
    cases c0 <;> first | exact hc0.elim | exact this
  have fin : a.defers = [] ∧ ∃ v, (results fn a.tmps).run P w' = .ok v w' ∧ ∃ x y l, Ending.returned v = .returned (.tuple #[x, y]) ∧ Go.RowKit.Below w.heap.size w w' ∧ l.len = B.len ∧ (∀ g o, l.addr = some (g, o) → w.heap.size ≤ g ∧ g < w'.heap.size) ∧
      RepBk loc0 dom0 (fun g => ok g ∨ (w.heap.size ≤ g ∧ g < w'.heap.size ∧ ∀ o, l.addr ≠ some (g, o))) w' l B ∧ RepB (fun _ => l) (fun _ => True) (fun _ => False) w' (.own 0 B.wd 0 B.len) x ∧ RepC loc0 dom0 (fun _ => False) w' c0 y :=
    ⟨hs.hd, _, hres, _, _, l, rfl, hbelow, h1, h2, h3, h4, hcu⟩
  rcases he with rfl | rfl
  · exact fin
  · exact fin

/-- What nobody writes any more. -/
def frzS : C → Bool
  | .bool _ => true
  | .int _ _ => true
  | .str _ => true
  | .nil => true
  | .ints _ _ => true
  | .rows _ _ _ => true
  | _ => false
theorem frzS_rep {ρ : Nat → Loc} {dom ok : Nat → Prop} {w : World} {c : C} {v : Value} (hc : frzS c = true) (h : RepC ρ dom ok w c v) : RepI ok w c v := by
  cases c <;> simp [frzS] at hc <;> exact h
def frzV : V → Bool
  | .one c => frzS c
  | .agg cs => cs.all frzS
  | _ => false
/-- Where the new slice stands: behind the first result, before a flag or a number. -/
def trip (x : V) (c : C) (o : C) : V := .tup [x, .one o, .one c]
def retG (T : Tab) (rs : List ResultVar) (x : V) (B : Bk) (c : C) : Exit → St → Prop
  | .ret, s => match rs with
    | [r, .tmp t, .tmp u] => someP (resX T s r) (fun y => y = x) ∧ freshV s B (lk s.env t) ∧ lk s.env u = .one c
    | _ => False
  | .normal, s => match rs with
    | [r, .tmp t, .tmp u] => someP (resX T s r) (fun y => y = x) ∧ freshV s B (lk s.env t) ∧ lk s.env u = .one c
    | _ => False
  | _, _ => False
theorem retG_tmp {T : Tab} {rs : List ResultVar} {x : V} {B : Bk} {c : C} {e : Exit} {s : St} (h : retG T rs x B c e s) : (e = .normal ∨ e = .ret) ∧ ∃ r t u, rs = [r, .tmp t, .tmp u] ∧ resX T s r = some x ∧ freshV s B (lk s.env t) ∧ lk s.env u = .one c := by
  have k : ∀ {r : ResultVar}, someP (resX T s r) (fun y => y = x) → resX T s r = some x := fun {r} h => by
    cases hr : resX T s r with
    | none => rw [hr] at h; exact h.elim
    | some y => rw [hr] at h; exact congrArg some h
  unfold retG at h
  split at h
  · split at h
    · exact ⟨.inr rfl, _, _, _, rfl, k h.1, h.2⟩
    · exact h.elim
  · split at h
    · exact ⟨.inl rfl, _, _, _, rfl, k h.1, h.2⟩
    · exact h.elim
  · exact h.elim
theorem frzL_ext {ok ok' : Nat → Prop} {w : World} {ρ ρ' : Nat → Loc} {dom dom' : Nat → Prop} (hx : ∀ g, ok g → ok' g) : ∀ {cs : List C} {vs : List Value}, cs.all frzS = true → RepL ρ dom ok w cs vs → RepL ρ' dom' ok' w cs vs
  | [], [], _, _ => trivial
  | c :: cs, v :: vs, h, hr => by
    simp only [List.all_cons, Bool.and_eq_true] at h
    exact ⟨RepC.of_repI (RepI.ext (Ext.of_imp hx) _ _ (frzS_rep h.1 hr.1)), frzL_ext hx h.2 hr.2⟩
  | [], _ :: _, _, hr => hr.elim
  | _ :: _, [], _, hr => hr.elim
theorem frzV_ext {ok ok' : Nat → Prop} {w : World} {ρ ρ' : Nat → Loc} {dom dom' : Nat → Prop} (hx : ∀ g, ok g → ok' g) {x : V} {v : Value} (h : frzV x = true) (hr : RepV ρ dom ok w x v) : RepV1 ρ' dom' ok' w x v := by
  cases x with
  | one c => exact RepC.of_repI (RepI.ext (Ext.of_imp hx) _ _ (frzS_rep h hr))
  | agg cs => obtain ⟨vs, hv, hl⟩ := hr; exact ⟨vs, hv, frzL_ext hx h hl⟩
  | unk => cases h
  | tup vs => cases h

theorem freshG_of_vc {P : Program} {T : Tab} (hT : TabOk P T) (hm : P.follows .mixedOrders = true) {f : FuncId} {fn : Func} {c : Code} (hf : P.funcs[f]? = some fn) (hb : fn.body = some c) (hn : (fn.name == "runtime.NumGoroutine") = false)
    (args : List V) (hargs : args.length ≤ fn.ntmps) (keep : Kp) (hck : codeOk keep c = true) (x : V) (B : Bk) (c0 : C) (hx : frzV x = true) (hB : B.flat) (hc0 : scalarC' c0)
    (h : vc T P keep c (initSt args fn.ntmps) (retG T fn.results.toList x B c0)) : FreshG P f args (trip x c0) B := by
  refine ⟨⟨fn, hf, by rw [hb]; rfl, hn⟩, hB, fun ok w vs hok hvs => ?_⟩
  have hsim := initSim hargs hok hvs
  refine calls_of_wp hf hb (wp_mono (vc_sound hT hm keep c hck _ _ h _ _ w hsim) ?_)
  rintro e a w' ⟨s', hq, ρ, hs⟩
  obtain ⟨he, r, t, u, hrs, hr, hfv, hu⟩ := retG_tmp hq
  have hbelow : Go.RowKit.Below w.heap.size w w' := ⟨hs.os, hs.tape, hs.output, hs.size, fun k hk => hs.keep k hk (fun hf => hf)⟩
  obtain ⟨l, h1, h2, h3, h4, h5⟩ := freshG_fin hB hs (freshV_G hB hfv)
  obtain ⟨y0, hy0, hcr⟩ := resX_run (P := P) hT hs hr
  have hres : (results fn a.tmps).run P w' = .ok (.tuple #[y0, a.tmps.getD t undef, a.tmps.getD u undef]) w' := by
    have : fn.results = #[r, .tmp t, .tmp u] := Array.toList_inj.1 hrs
    have e : (fun r : ResultVar => (match r with
      | .tmp t => pure (a.tmps.getD t undef)
      | .cell ad t => do loadVar t (← asAddr (a.tmps.getD ad undef)) : Sem Value)) = evRes a.tmps := by
      funext r; cases r <;> rfl
    have hm : (fn.results.mapM fun
      | .tmp t => pure (a.tmps.getD t undef)
      | .cell ad t => do loadVar t (← asAddr (a.tmps.getD ad undef)) : Sem (Array Value)).run P w' = .ok #[y0, a.tmps.getD t undef, a.tmps.getD u undef] w' := by
      refine (congrArg (fun g => (fn.results.mapM g).run P w') e).trans ?_
      rw [this, Array.mapM_eq_mapM_toList, Sem.run_map]
      have h1 : (evRes a.tmps (.tmp t)).run P w' = .ok (a.tmps.getD t undef) w' := rfl
      have h2 : (evRes a.tmps (.tmp u)).run P w' = .ok (a.tmps.getD u undef) w' := rfl
      simp only [List.mapM_cons, List.mapM_nil, Sem.run_bind, hy0, h1, h2, Result.andThen_ok, Sem.run_pure]
    unfold results
    rw [Sem.run_bind]
    refine Eq.trans (congrArg (fun x => Result.andThen x _) hm) ?_
    rfl
  have hcu := hs.env u
  rw [hu] at hcu
  have fin : a.defers = [] ∧ ∃ v, (results fn a.tmps).run P w' = .ok v w' ∧ ∃ y l, Ending.returned v = .returned y ∧ Go.RowKit.Below w.heap.size w w' ∧ l.len = B.len ∧ (∀ g o, l.addr = some (g, o) → w.heap.size ≤ g ∧ g < w'.heap.size) ∧
      RepBk loc0 dom0 (fun g => ok g ∨ (w.heap.size ≤ g ∧ g < w'.heap.size ∧ ∀ o, l.addr ≠ some (g, o))) w' l B ∧
      (∀ (ρ : Nat → Loc) (dom ok' : Nat → Prop) (b : Nat), ρ b = l → dom b → (∀ g, (ok g ∨ (w.heap.size ≤ g ∧ g < w'.heap.size ∧ ∀ o, l.addr ≠ some (g, o))) → ok' g) → RepV ρ dom ok' w' (trip x c0 (.own b B.wd 0 B.len)) y) := by
    refine ⟨hs.hd, _, hres, _, l, rfl, hbelow, h1, h2, h3, fun ρ' dom' ok' b hb hd hok' => ⟨_, rfl, frzV_ext (fun g hg => hok' g (h5 g hg)) hx hcr, ?_, ?_, trivial⟩⟩
    · obtain ⟨_, q2, q3⟩ := h4
      rw [← hb] at q2 q3
      exact ⟨hd, q2, q3⟩
    · cases c0 <;> first | exact hc0.elim | exact hcu
  rcases he with rfl | rfl
  · exact fin
  · exact fin

def retW (rs : List ResultVar) (n : Nat) (g : Nat → Nat → C) (B : Bk) (c : Option C) : Exit → St → Prop
  | .ret, s => match rs, c with
    | [.tmp t, .tmp u], some c => winV s n g B (lk s.env t) ∧ lk s.env u = .one c
    | [.tmp t], none => winV s n g B (lk s.env t)
    | _, _ => False
  | .normal, s => match rs, c with
    | [.tmp t, .tmp u], some c => winV s n g B (lk s.env t) ∧ lk s.env u = .one c
    | [.tmp t], none => winV s n g B (lk s.env t)
    | _, _ => False
  | _, _ => False
theorem retW_tmp {rs : List ResultVar} {n : Nat} {g : Nat → Nat → C} {B : Bk} {c : Option C} {e : Exit} {s : St} (h : retW rs n g B c e s) : (e = .normal ∨ e = .ret) ∧ ∃ t, winV s n g B (lk s.env t) ∧ ((∃ u c', c = some c' ∧ rs = [.tmp t, .tmp u] ∧ lk s.env u = .one c') ∨ (c = none ∧ rs = [.tmp t])) := by
  unfold retW at h
  split at h
  · split at h
    · exact ⟨.inr rfl, _, h.1, .inl ⟨_, _, rfl, rfl, h.2⟩⟩
    · exact ⟨.inr rfl, _, h, .inr ⟨rfl, rfl⟩⟩
    · exact h.elim
  · split at h
    · exact ⟨.inl rfl, _, h.1, .inl ⟨_, _, rfl, rfl, h.2⟩⟩
    · exact ⟨.inl rfl, _, h, .inr ⟨rfl, rfl⟩⟩
    · exact h.elim
  · exact h.elim

theorem freshW_of_vc {P : Program} {T : Tab} (hT : TabOk P T) (hm : P.follows .mixedOrders = true) {f : FuncId} {fn : Func} {c : Code} (hf : P.funcs[f]? = some fn) (hb : fn.body = some c) (hn : (fn.name == "runtime.NumGoroutine") = false)
    (args : List V) (hargs : args.length ≤ fn.ntmps) (keep : Kp) (hck : codeOk keep c = true) (n : Nat) (g0 : Nat → Nat → C) (B : Bk) (c0 : Option C) (hB : B.flat) (hc0 : ∀ c', c0 = some c' → scalarC' c')
    (h : vc T P keep c (initSt args fn.ntmps) (retW fn.results.toList n g0 B c0)) : FreshW P f args n g0 B c0 := by
  refine ⟨hc0, ⟨fn, hf, by rw [hb]; rfl, hn⟩, hB, fun ok w vs hok hvs => ?_⟩
  let G : Ctx := { W0 := w, forb := fun g => g < w.heap.size ∧ ¬ ok g, mine := fun _ => False }
  have hsim := initSim hargs hok hvs
  refine calls_of_wp hf hb (wp_mono (vc_sound hT hm keep c hck _ _ h G _ w hsim) ?_)
  rintro e a w' ⟨s', hq, ρ, hs⟩
  obtain ⟨he, t, hfv, hrs⟩ := retW_tmp hq
  have hbelow : Go.RowKit.Below w.heap.size w w' := ⟨hs.os, hs.tape, hs.output, hs.size, fun k hk => hs.keep k hk (fun hf => hf)⟩
  have hev := hs.env t
  unfold winV at hfv
  split at hfv
  rotate_left
  · exact hfv.elim
  rename_i b b2 off len hx
  obtain ⟨rfl, rfl, hne, h4, h5⟩ := hfv
  cases hlo : lo s'.own b with
  | none => rw [hlo] at h4; exact h4.elim
  | some W =>
    cases hlo2 : lo s'.own b2 with
    | none => rw [hlo2] at h5; exact h5.elim
    | some B' =>
      rw [hlo] at h4
      rw [hlo2] at h5
      obtain ⟨h6, h7⟩ := h4
      obtain ⟨h8, h9⟩ := h5
      obtain ⟨hd1, hl1, hr1, hg1⟩ := hs.own b W hlo
      obtain ⟨hd2, hl2, hr2, hg2⟩ := hs.own b2 B' hlo2
      have hfW : ∃ e3 b3 n3 g3, W.bk = .wins e3 b3 n3 g3 ∧ n3 = len ∧ ∀ i, i < len → winOk b2 (g3 i) (fun b => g0 b i) := by
        cases hW : W.bk with
        | wins e3 b3 n3 g3 => rw [hW] at h7; exact ⟨e3, b3, n3, g3, rfl, h7.1, h7.2⟩
        | _ => rw [hW] at h7; exact h7.elim
      obtain ⟨e3, b3, n3, g3, hW, rfl, hg3⟩ := hfW
      obtain ⟨u, hres, hcu⟩ : ∃ u, (results fn a.tmps).run P w' = .ok (wRes c0 (a.tmps.getD t undef) u) w' ∧ ∀ c', c0 = some c' → RepC loc0 dom0 (fun _ => False) w' c' u := by
        rcases hrs with ⟨u, c', rfl, hrs, hu⟩ | ⟨rfl, hrs⟩
        · refine ⟨a.tmps.getD u undef, ?_, fun c'' e => ?_⟩
          · have : fn.results = #[.tmp t, .tmp u] := Array.toList_inj.1 hrs
            unfold results
            rw [this]
            simp [Sem.run_bind, Sem.run_pure, wRes]
          · obtain rfl := Option.some.inj e
            have := hs.env u
            rw [hu] at this
            have hsc := hc0 c' rfl
            cases c' <;> first | exact hsc.elim | exact this
        · refine ⟨undef, ?_, fun c'' e => by cases e⟩
          have : fn.results = #[.tmp t] := Array.toList_inj.1 hrs
          unfold results
          rw [this]
          simp [Sem.run_bind, Sem.run_pure, wRes]
      rw [hx] at hev
      rw [hW] at hr1 hl1
      have hl1 : (ρ b).len = n3 := hl1
      have hl2' : (ρ b2).len = B.len := by rw [hl2]; exact (bRen_len h9).symm
      have hokl : ∀ g, okOf G s'.own ρ w' g → (ok g ∨ (w.heap.size ≤ g ∧ g < w'.heap.size ∧ ∀ o, (ρ b).addr ≠ some (g, o) ∧ (ρ b2).addr ≠ some (g, o))) := fun g hg => by
        by_cases hgs : g < w.heap.size
        · by_cases hok' : ok g
          · exact .inl hok'
          · exact absurd ⟨hgs, hok'⟩ hg.2.1
        · exact .inr ⟨by omega, hg.1, fun o => ⟨fun ha => hg.2.2 b W hlo h6 o ha, fun ha => hg.2.2 b2 B' hlo2 h8 o ha⟩⟩
      have hrB : RepBk loc0 dom0 (fun g => ok g ∨ (w.heap.size ≤ g ∧ g < w'.heap.size ∧ ∀ o, (ρ b).addr ≠ some (g, o) ∧ (ρ b2).addr ≠ some (g, o))) w' (ρ b2) B := by
        exact RepBk.plain_ext (Bk.flat_plain hB) hokl (bRen_sound (ok' := okOf G s'.own ρ w') (Ext.refl _ _) h9 hr2)
      have new : ∀ c B, lo s'.own c = some B → ∀ g o, (ρ c).addr = some (g, o) → w.heap.size ≤ g ∧ g < w'.heap.size := fun c B hc g o ha => by
        obtain ⟨k1, _, k2⟩ := (hs.own c B hc).2.2.2 g o ha
        rcases k2 with k2 | k2
        · exact ⟨k2, k1⟩
        · exact k2.elim
      have fin : a.defers = [] ∧ ∃ v, (results fn a.tmps).run P w' = .ok v w' ∧ ∃ x y l1 l2, Ending.returned v = .returned (wRes c0 x y) ∧ Go.RowKit.Below w.heap.size w w' ∧ l1.len = n3 ∧ l2.len = B.len ∧
          (∀ g o, l1.addr = some (g, o) → w.heap.size ≤ g ∧ g < w'.heap.size) ∧ (∀ g o, l2.addr = some (g, o) → w.heap.size ≤ g ∧ g < w'.heap.size) ∧ (∀ g o o', l1.addr = some (g, o) → l2.addr ≠ some (g, o')) ∧
          RepBk loc0 dom0 (fun g => ok g ∨ (w.heap.size ≤ g ∧ g < w'.heap.size ∧ ∀ o, l1.addr ≠ some (g, o) ∧ l2.addr ≠ some (g, o))) w' l2 B ∧
          (∀ (ρ : Nat → Loc) (dom ok' : Nat → Prop) (b b2 : Nat), ρ b = l1 → ρ b2 = l2 → dom b → dom b2 → (∀ g, (ok g ∨ (w.heap.size ≤ g ∧ g < w'.heap.size ∧ ∀ o, l1.addr ≠ some (g, o) ∧ l2.addr ≠ some (g, o))) → ok' g) →
            RepBk ρ dom ok' w' l1 (.wins 0 b2 n3 (g0 b2)) ∧ RepC ρ dom ok' w' (.win b b2 0 n3) x) ∧ ∀ c', c0 = some c' → RepC loc0 dom0 (fun _ => False) w' c' y := by
        refine ⟨hs.hd, _, hres, _, _, ρ b, ρ b2, rfl, hbelow, hl1, hl2', new b W hlo, new b2 B' hlo2, fun g o o' ha => hs.inj b W b2 B' hlo hlo2 hne h6 g o o' ha, hrB, fun ρ' dom ok' c c2 e1 e2 d1 d2 hok2 => ⟨?_, ?_⟩, hcu⟩
        · unfold RepBk at hr1 ⊢
          cases ha : (ρ b).addr with
          | none =>
            rw [ha] at hr1
            intro j
            have := hr1 j
            simp only [Bk.cell] at this ⊢
            split at this
            · cases this
            · rename_i hj; rw [if_neg hj]
          | some x =>
            obtain ⟨g, o⟩ := x
            rw [ha] at hr1
            obtain ⟨cur, e4, hg4, hc4⟩ := hr1
            refine ⟨cur, e4, hg4, fun j cc hj => ?_⟩
            simp only [Bk.cell] at hj hc4
            split at hj
            · rename_i hjl
              obtain ⟨uu, hu1, hu2⟩ := hc4 j (g3 j) (if_pos hjl)
              refine ⟨uu, hu1, ?_⟩
              obtain rfl := Option.some.inj hj
              rcases hg3 j hjl with ⟨wd, o1, l1, k0, k1⟩ | ⟨k0, k1⟩
              · rw [k0] at hu2
                obtain ⟨_, k2⟩ := hu2
                show RepC ρ' dom ok' w' (g0 c2 j) uu
                rw [show g0 c2 j = _ from k1 c2]
                exact ⟨d2, by rw [e2]; exact k2⟩
              · show RepC ρ' dom ok' w' (g0 c2 j) uu
                rw [show g0 c2 j = _ from k1 c2]
                exact RepC.of_repI (RepI.ext (Ext.of_imp fun g hg => hok2 g (hokl g hg)) _ _ (frzC_rep k0 hu2))
            · cases hj
        · obtain ⟨_, _, k2⟩ := hev
          exact ⟨d2, d1, by rw [e1]; exact k2⟩
      rcases he with rfl | rfl
      · exact fin
      · exact fin

theorem fresh_of_vc {P : Program} {T : Tab} (hT : TabOk P T) (hm : P.follows .mixedOrders = true) {f : FuncId} {fn : Func} {c : Code} (hf : P.funcs[f]? = some fn) (hb : fn.body = some c) (hn : (fn.name == "runtime.NumGoroutine") = false)
    (args : List V) (hargs : args.length ≤ fn.ntmps) (keep : Kp) (hck : codeOk keep c = true) (B : Bk) (hB : B.flat)
    (h : vc T P keep c (initSt args fn.ntmps) (retF fn.results.toList B)) : FreshCalls P f args B :=
  fresh_of_vcG hT hm hf hb hn args hargs keep hck B hB _ (fun _ _ hr => by obtain ⟨h1, t, h2, h3⟩ := retF_tmp hr; exact ⟨h1, t, h2, freshV_G hB h3⟩) h
/-- The slice may have more room behind it. -/
theorem freshP_of_vc {P : Program} {T : Tab} (hT : TabOk P T) (hm : P.follows .mixedOrders = true) {f : FuncId} {fn : Func} {c : Code} (hf : P.funcs[f]? = some fn) (hb : fn.body = some c) (hn : (fn.name == "runtime.NumGoroutine") = false)
    (args : List V) (hargs : args.length ≤ fn.ntmps) (keep : Kp) (hck : codeOk keep c = true) (B : Bk) (hB : B.flat)
    (h : vc T P keep c (initSt args fn.ntmps) (retP fn.results.toList B)) : FreshCalls P f args B :=
  fresh_of_vcG hT hm hf hb hn args hargs keep hck B hB _ (fun _ _ hr => retP_tmp hr) h

def resM (s : St) : List ResultVar → Option V
  | [] => some (.tup [])
  | [.tmp t] => some (muV 0 s.own s.nx (lk s.env t))
  | [.tmp t, .tmp u] => some (.tup [muV 0 s.own s.nx (lk s.env t), muV 0 s.own s.nx (lk s.env u)])
  | _ => none

/-- What must hold where a function that turns a block returns. -/
def retM (rs : List ResultVar) (R : V → Bk → Prop) : Exit → St → Prop
  | .ret, s => someP (lo s.own 0) fun B' => B'.rw = true ∧ B'.bk.plain ∧ someP (resM s rs) fun r => R r B'.bk
  | .normal, s => someP (lo s.own 0) fun B' => B'.rw = true ∧ B'.bk.plain ∧ someP (resM s rs) fun r => R r B'.bk
  | _, _ => False

def initM (args : List V) (B : Bk) (n : Nat) : St := { env := envOf 0 args, own := [(0, ⟨B, true⟩)], nx := 1, n := n }

theorem retM_is {rs : List ResultVar} {R : V → Bk → Prop} {e : Exit} {s : St} (h : retM rs R e s) : (e = .normal ∨ e = .ret) ∧ ∃ B' r, lo s.own 0 = some B' ∧ B'.rw = true ∧ B'.bk.plain ∧ resM s rs = some r ∧ R r B'.bk := by
  have key : (someP (lo s.own 0) fun B' => B'.rw = true ∧ B'.bk.plain ∧ someP (resM s rs) fun r => R r B'.bk) → ∃ B' r, lo s.own 0 = some B' ∧ B'.rw = true ∧ B'.bk.plain ∧ resM s rs = some r ∧ R r B'.bk := by
    intro h
    unfold someP at h
    split at h
    · rename_i B' hB
      obtain ⟨h1, h2, h3⟩ := h
      split at h3
      · rename_i r hr; exact ⟨B', r, hB, h1, h2, hr, h3⟩
      · exact h3.elim
    · exact h.elim
  unfold retM at h
  split at h
  · exact ⟨.inr rfl, key h⟩
  · exact ⟨.inl rfl, key h⟩
  · exact h.elim

theorem mut_of_vc {P : Program} {T : Tab} (hT : TabOk P T) (hm : P.follows .mixedOrders = true) {f : FuncId} {fn : Func} {c : Code} (hf : P.funcs[f]? = some fn) (hb : fn.body = some c) (hn : (fn.name == "runtime.NumGoroutine") = false)
    (args : List V) (hargs : args.length ≤ fn.ntmps) (keep : Kp) (hck : codeOk keep c = true) (B : Bk) (hBp : B.plain) (R : V → Bk → Prop)
    (h : vc T P keep c (initM args B fn.ntmps) (retM fn.results.toList R)) : MutCalls P f args B R := by
  refine ⟨⟨fn, hf, by rw [hb]; rfl, hn⟩, fun ok w vs l hok hlB hnot hrB hvs => ?_⟩
  have hlen := RepVL.length hvs
  simp only [Array.length_toList] at hlen
  let G : Ctx := { W0 := w, forb := fun g => g < w.heap.size ∧ ¬ ok g ∧ ∀ o, l.addr ≠ some (g, o), mine := fun g => ∃ o, l.addr = some (g, o), home := some l }
  let a0 : Act := { tmps := vs ++ Array.replicate (fn.ntmps - vs.size) undef, defers := [] }
  have hokG : ∀ g, ok g → okOf G [(0, ⟨B, true⟩)] (fun _ => l) w g := fun g hg => ⟨hok g hg, fun hf => hf.2.1 hg, fun b B2 hl hrw o ha => (hnot g o ha).2 hg⟩
  have hsim : Sim G (initM args B fn.ntmps) a0 w := by
    refine ⟨fun _ => l, { hd := rfl, hn := ?_, env := fun t => ?_, own := fun b B2 hl => ?_, inj := fun b B1 b' B' hl hl' hne => ?_, os := rfl, tape := rfl, output := rfl, size := Nat.le_refl _, keep := fun _ _ _ => rfl, wf := fun k hk => hk.1, home := fun l' hl => ?_, room := fun _ => Nat.le_refl _ }⟩
    · simp [a0, initM]; omega
    · simp only [initM, envOf_get]
      split
      · rename_i ht
        simp only [Nat.sub_zero, Nat.zero_add] at ht ⊢
        have hx : args[t]? = some (args.getD t .unk) := by
          rw [List.getD_eq_getElem?_getD, List.getElem?_eq_getElem ht.2]; rfl
        obtain ⟨v, hv, hr⟩ := RepVL.get hvs t _ hx
        have hv' : a0.tmps.getD t undef = v := by
          rw [Array.getElem?_toList] at hv
          have hlt := (Array.getElem?_eq_some_iff.1 hv).1
          simp only [a0, Array.getD_eq_getD_getElem?]
          rw [Array.getElem?_append_left hlt, hv]; rfl
        rw [hv']
        exact RepV.of_V1 (RepV1.ext (Ext.of_imp hokG) ⟨fun b hb => by omega, fun b hb => rfl⟩ _ _ hr)
      · trivial
    · simp only [initM, lo] at hl
      split at hl
      · rename_i hb0
        subst hb0
        obtain rfl := Option.some.inj hl
        refine ⟨by simp [initM], hlB, hrB.plain_ext hBp hokG, fun g o ha => ⟨(hnot g o ha).1, fun hf => hf.2.2 o ha, .inr ⟨o, ha⟩⟩⟩
      · cases hl
    · simp only [initM, lo] at hl hl'
      split at hl
      · split at hl'
        · rename_i h1 h2; exact absurd (h1.trans h2.symm) hne
        · cases hl'
      · cases hl
    · exact ⟨by simp [initM], (Option.some.inj hl)⟩
  refine calls_of_wp hf hb (wp_mono (vc_sound hT hm keep c hck _ _ h G _ w hsim) ?_)
  rintro e a w' ⟨s', hq, ρ, hs⟩
  obtain ⟨he, B', r, hlo, hrw, hpl, hres, hR⟩ := retM_is hq
  obtain ⟨hd0, hρ0⟩ := hs.home l rfl
  obtain ⟨_, hlB', hrB', hgB'⟩ := hs.own 0 B' hlo
  have hmb : MBelow l w w' := ⟨hs.os, hs.tape, hs.output, hs.size, fun k hk hno => hs.keep k hk (fun hf => by obtain ⟨o, ho⟩ := hf; exact hno o ho), hs.room⟩
  have hone : ∀ g, g < w'.heap.size → ¬ G.forb g → (∀ o, l.addr ≠ some (g, o)) → okM ok w w' g := fun g h1 h2 h3 => by
    by_cases hgs : g < w.heap.size
    · by_cases hok' : ok g
      · exact .inl hok'
      · exact absurd ⟨hgs, hok', h3⟩ h2
    · exact .inr ⟨by omega, h1⟩
  have hokE : ∀ ids, 0 ∉ ids → ∀ g, okIds G s'.own ρ w' ids g → okM ok w w' g := by
    rintro ids hids g (h1 | ⟨b1, hb1, B1, o', hl1, ha'⟩)
    · exact hone g h1.1 h1.2.1 fun o ha => h1.2.2 0 B' hlo hrw o (by rw [hρ0]; exact ha)
    · obtain ⟨_, _, _, h4⟩ := hs.own b1 B1 hl1
      obtain ⟨h5, h6, _⟩ := h4 g o' ha'
      exact hone g h5 h6 fun o ha => hs.inj 0 B' b1 B1 hlo hl1 (fun e => hids (e ▸ hb1)) hrw g o o' (by rw [hρ0]; exact ha) ha'
  have hend : ∃ v, (results fn a.tmps).run P w' = .ok v w' ∧ RepV (fun _ => l) (fun b => b = 0) (okM ok w w') w' r v := by
    have hmu : ∀ t, RepV1 (fun _ => l) (fun b => b = 0) (okM ok w w') w' (muV 0 s'.own s'.nx (lk s'.env t)) (a.tmps.getD t undef) := by
      intro t
      have h1 := muV_sound hs 0 ((idsV (lk s'.env t)).filter (fun b => b != 0)) (lk s'.env t) _ (fun b hb hne => List.mem_filter.2 ⟨hb, by simpa using hne⟩) (hs.env t)
      rw [hρ0] at h1
      exact RepV1.ext (Ext.of_imp (hokE _ (by simp))) ⟨fun _ h => h, fun _ _ => rfl⟩ _ _ h1
    unfold resM at hres
    split at hres
    · rename_i hrs
      obtain rfl := Option.some.inj hres
      have : fn.results = #[] := Array.toList_inj.1 hrs
      refine ⟨.tuple #[], ?_, #[], rfl, trivial⟩
      unfold results
      rw [this]
      simp [Sem.run_bind, Sem.run_pure]
    · rename_i t hrs
      obtain rfl := Option.some.inj hres
      exact ⟨_, results_tmp hrs a.tmps w', RepV.of_V1 (hmu t)⟩
    · rename_i t u hrs
      obtain rfl := Option.some.inj hres
      have : fn.results = #[.tmp t, .tmp u] := Array.toList_inj.1 hrs
      refine ⟨.tuple #[a.tmps.getD t undef, a.tmps.getD u undef], ?_, _, rfl, hmu t, hmu u, trivial⟩
      unfold results
      rw [this]
      simp [Sem.run_bind, Sem.run_pure]
    · cases hres
  obtain ⟨v, hrun, hval⟩ := hend
  have hfinal : RepBk loc0 dom0 (okM ok w w') w' l B'.bk := by
    rw [hρ0] at hrB'
    exact hrB'.plain_ext hpl fun g hg => hokE [] (by simp) g (.inl hg)
  have hB'len : B'.bk.len = B.len := by rw [← hlB', hρ0, hlB]
  have fin : a.defers = [] ∧ ∃ v, (results fn a.tmps).run P w' = .ok v w' ∧ ∃ u r B2, Ending.returned v = .returned u ∧ R r B2 ∧ B2.plain ∧ B2.len = B.len ∧ MBelow l w w' ∧ RepBk loc0 dom0 (okM ok w w') w' l B2 ∧ RepV (fun _ => l) (fun b => b = 0) (okM ok w w') w' r u :=
    ⟨hs.hd, v, hrun, v, r, B'.bk, rfl, hR, hpl, hB'len, hmb, hfinal, hval⟩
  rcases he with rfl | rfl
  · exact fin
  · exact fin

/-! The rules of lists and of small logic, under one name each (at types of the first universe: else none of them would fire). -/
set_option linter.defProp false in
def vcl := And.intro @List.contains_cons.{0} (And.intro @List.contains_nil.{0} (And.intro @beq_self_eq_true.{0} (And.intro @bne_self_eq_false.{0} (And.intro @bne_iff_ne.{0} (And.intro @List.take_length.{0} (And.intro @List.toList_toArray.{0} (And.intro @List.map_nil.{0, 0} (And.intro @List.map_cons.{0, 0} (And.intro @List.flatten_nil.{0} (And.intro @List.flatten_cons.{0} (And.intro @List.filter_nil.{0} (And.intro @List.filter_cons.{0} (And.intro @List.nil_append.{0} (And.intro @List.cons_append.{0} (And.intro @List.append_nil.{0} (And.intro @List.any_nil.{0} (And.intro @List.any_cons.{0} (And.intro @List.all_nil.{0} (And.intro @List.all_cons.{0} (And.intro @List.take_zero.{0} (And.intro @List.take_succ_cons.{0} (And.intro @List.take_nil.{0} (And.intro @List.drop_zero.{0} (And.intro @List.drop_succ_cons.{0} (And.intro @List.drop_nil.{0} (And.intro @List.getElem?_cons_zero.{0} (And.intro @List.getElem?_cons_succ.{0} (And.intro @List.getD_cons_zero.{0} (And.intro @List.getD_cons_succ.{0} (And.intro @List.length_cons.{0} (And.intro @List.length_nil.{0} (And.intro @List.flatMap_cons.{0, 0} (And.intro @List.flatMap_nil.{0, 0} (And.intro @Option.map_some.{0, 0} (And.intro @Option.map_none.{0, 0} (And.intro @eq_self.{1} (And.intro @Bool.false_eq_true (And.intro @Int.toNat_natCast (And.intro @decide_eq_true_eq (And.intro @decide_eq_false_iff_not (And.intro @ne_eq.{1} (And.intro @not_true_eq_false (And.intro @not_false_eq_true (And.intro @Classical.not_not (And.intro @later_t (And.intro @later_f (And.intro @Bool.true_eq_false (And.intro @Int.sub_zero (And.intro @Int.zero_add (@Int.add_zero))))))))))))))))))))))))))))))))))))))))))))))))))
set_option linter.defProp false in
def vcr := And.intro @resX.eq_1 (And.intro @resX.eq_2 (And.intro @retG.eq_def (And.intro @retT.eq_def (And.intro @retF.eq_def (And.intro @freshV.eq_def (And.intro @retP.eq_def (And.intro @freshG.eq_def (And.intro @bPre.eq_def (And.intro @retM.eq_def (@resM.eq_def))))))))))
set_option linter.defProp false in
def vcq := And.intro @Option.some.injEq.{0} (And.intro @List.not_mem_nil.{0} (And.intro @false_imp_iff (And.intro @List.forall_mem_cons.{0} (And.intro @implies_true.{1} (@implies_true.{0})))))

end Go.Eng

/-! ## EngZ -/
namespace Go.Eng
open Go

theorem freshRep {w w' : World} {ok : Nat → Prop} {l : Loc} {B : Bk} {v : Value} (hf : B.flat) (hnew : ∀ g o, l.addr = some (g, o) → w.heap.size ≤ g ∧ g < w'.heap.size)
    (hl : l.len = B.len) (hrep : RepBk loc0 dom0 (fun g => ok g ∨ (w.heap.size ≤ g ∧ g < w'.heap.size ∧ ∀ o, l.addr ≠ some (g, o))) w' l B) (hval : RepB (fun _ => l) (fun _ => True) (fun _ => False) w' (.own 0 B.wd 0 B.len) v) :
    RepC loc0 dom0 (fun g => ok g ∨ (w.heap.size ≤ g ∧ g < w'.heap.size)) w' (vwBk B B.wd 0 B.len) v := by
  obtain ⟨_, hle, cap, hcap, hv⟩ := hval
  have hrep' : RepBk loc0 dom0 (fun g => ok g ∨ (w.heap.size ≤ g ∧ g < w'.heap.size)) w' l B := hrep.plain_ext (Bk.flat_plain hf) fun g hg => by
    rcases hg with hg | ⟨h1, h2, _⟩
    · exact .inl hg
    · exact .inr ⟨h1, h2⟩
  refine RepC.of_repI ?_
  rcases hv with ⟨g, o, o', ha, rfl, ho, _⟩ | ⟨_, rfl, h0, _⟩
  · exact vwBk_sound ha hrep' (.inr (hnew g o ha)) hl hle hcap ho
  · cases B with
    | var cs => exact hf.elim
    | wins e b2 n g => exact hf.elim
    | ints e k xs =>
      simp only [Bk.len] at h0
      simp only [vwBk, Bk.wd, if_true, Bk.len]
      exact ⟨none, 0, by simp [h0], by simp [h0], .inl (by simp [h0])⟩
    | rows e w n f =>
      simp only [Bk.len] at h0
      subst h0
      simp only [vwBk, Bk.wd, if_true, Bk.len]
      exact ⟨none, 0, rfl, Nat.le_refl _, .inl rfl⟩
theorem FreshCalls.view {P : Program} {f : FuncId} {args : List V} {B : Bk} (h : FreshCalls P f args B) : PureCalls P f args (.one (vwBk B B.wd 0 B.len)) := by
  obtain ⟨hc, hf, h⟩ := h
  refine ⟨hc, fun ok w vs hok hvs => Calls.mono (h ok w vs hok hvs) fun e w' he => ?_⟩
  obtain ⟨v, l, rfl, hb, hl, hnew, hrep, hval⟩ := he
  exact ⟨v, rfl, hb, freshRep hf hnew hl hrep hval⟩

theorem FreshCalls.ints {P : Program} {f : FuncId} {args : List V} {e : TypeId} {k : IntKind} {xs : List Int} (h : FreshCalls P f args (.ints e k xs)) : PureCalls P f args (.one (.ints k xs)) := by
  have h1 := h.view
  simp only [vwBk, Bk.wd, Bk.len, if_true, List.drop_zero, List.take_length] at h1
  exact h1

theorem FreshCalls.rows {P : Program} {f : FuncId} {args : List V} {e : TypeId} {w n : Nat} {g : Nat → Nat → C} (h : FreshCalls P f args (.rows e w n g)) : PureCalls P f args (.one (.rows w n g)) := by
  have h1 := h.view
  simp only [vwBk, Bk.wd, Bk.len, if_true, Nat.zero_add] at h1
  exact h1
end Go.Eng

/-! ## EngZa -/
namespace Go.Eng
open Go

/-! ### Arguments that stand for the same. -/
def VLeN (x y : V) : Prop := ∀ ok w v, RepV1 loc0 dom0 ok w x v → RepV1 loc0 dom0 ok w y v
theorem VLeN.refl (x : V) : VLeN x x := fun _ _ _ h => h
theorem VLeN.of_one {x y : C} (h : VLe (.one x) (.one y)) : VLeN (.one x) (.one y) := fun ok w v hr => h ok w v hr
def VLeA : List V → List V → Prop
  | [], [] => True
  | x :: xs, y :: ys => VLeN x y ∧ VLeA xs ys
  | _, _ => False
theorem VLeA.rep {ok : Nat → Prop} {w : World} : ∀ {xs ys : List V} {vs : List Value}, VLeA xs ys → RepVL loc0 dom0 ok w xs vs → RepVL loc0 dom0 ok w ys vs
  | [], [], _, _, h => h
  | x :: xs, y :: ys, [], _, h => h.elim
  | x :: xs, y :: ys, v :: vs, ha, h => ⟨ha.1 ok w v h.1, VLeA.rep ha.2 h.2⟩
  | [], _ :: _, _, ha, _ => ha.elim
  | _ :: _, [], _, ha, _ => ha.elim
theorem PureCalls.args {P : Program} {f : FuncId} {xs ys : List V} {r : V} (h : PureCalls P f ys r) (ha : VLeA xs ys) : PureCalls P f xs r :=
  ⟨h.1, fun ok w vs hok hvs => h.2 ok w vs hok (ha.rep hvs)⟩
theorem PureCalls.arg1 {P : Program} {f : FuncId} {x y : C} {r : V} (h : PureCalls P f [.one y] r) (ha : VLe (.one x) (.one y)) : PureCalls P f [.one x] r :=
  h.args ⟨.of_one ha, trivial⟩

/-! ### Cells that stand for the same. -/
def CLe (c c' : C) : Prop := ∀ ok w v, RepI ok w c v → RepI ok w c' v
theorem CLe.refl (c : C) : CLe c c := fun _ _ _ h => h
theorem CLe.of_eq {c c' : C} (h : c = c') : CLe c c' := h ▸ CLe.refl c
theorem CLe.nil_ints (k : IntKind) : CLe .nil (.ints k []) := fun ok w v h => ⟨none, 0, h, Nat.le_refl _, .inl rfl⟩
theorem CLe.nil_rows (wd : Nat) (f : Nat → Nat → C) : CLe .nil (.rows wd 0 f) := fun ok w v h => ⟨none, 0, h, Nat.le_refl _, .inl rfl⟩
theorem CLe.rows {wd n n' : Nat} {f g : Nat → Nat → C} (hn : n = n') (h : ∀ i j, i < n → j < wd → CLe (f i j) (g i j)) : CLe (.rows wd n f) (.rows wd n' g) := by
  subst hn
  rintro ok w v ⟨a, cap, hv, hle, hr⟩
  refine ⟨a, cap, hv, hle, ?_⟩
  rcases hr with hr | ⟨b, o, ha, hg, hcs⟩
  · exact .inl hr
  · refine .inr ⟨b, o, ha, hg, fun i j hi hj => ?_⟩
    obtain ⟨u, hu, hr⟩ := hcs i j hi hj
    exact ⟨u, hu, h i j hi hj ok w u hr⟩
theorem VLeN.cell {c c' : C} (h : CLe c c') : VLeN (.one c) (.one c') := fun ok w v hr => RepC.of_repI (h ok w v (RepI.of_loc0 hr))
theorem PureCalls.arg1c {P : Program} {f : FuncId} {x y : C} {r : V} (h : PureCalls P f [.one y] r) (ha : CLe x y) : PureCalls P f [.one x] r :=
  h.args ⟨.cell ha, trivial⟩
theorem PureCalls.arg2c {P : Program} {f : FuncId} {x y x' y' : C} {r : V} (h : PureCalls P f [.one y, .one y'] r) (ha : CLe x y) (ha' : CLe x' y') : PureCalls P f [.one x, .one x'] r :=
  h.args ⟨.cell ha, .cell ha', trivial⟩
theorem PureCalls.res {P : Program} {f : FuncId} {xs : List V} {r r' : V} (h : PureCalls P f xs r) (hr : VLe r r') : PureCalls P f xs r' :=
  ⟨h.1, fun ok w vs hok hvs => Calls.mono (h.2 ok w vs hok hvs) fun _ _ ⟨v, he, hb, hv⟩ => ⟨v, he, hb, hr _ _ _ hv⟩⟩

/-- The block that is handed over may be known better. -/
theorem MutCalls.pre {P : Program} {f : FuncId} {args : List V} {e : TypeId} {wd n : Nat} {g g' : Nat → Nat → C} {R : V → Bk → Prop} (h : MutCalls P f args (.rows e wd n g) R)
    (hg : ∀ i j, i < n → j < wd → CLe (g' i j) (g i j)) : MutCalls P f args (.rows e wd n g') R := by
  refine ⟨h.1, fun ok w vs l hok hl ha hb hvs => h.2 ok w vs l hok hl ha ?_ hvs⟩
  unfold RepBk at hb ⊢
  cases hla : l.addr with
  | none =>
    rw [hla] at hb
    intro j
    have := hb j
    simp only [Bk.cell] at this ⊢
    split at this
    · cases this
    · rename_i hj; rw [if_neg hj]
  | some x =>
    obtain ⟨b, o⟩ := x
    rw [hla] at hb
    obtain ⟨cur, e', hg', hc⟩ := hb
    refine ⟨cur, e', hg', fun j c hj => ?_⟩
    simp only [Bk.cell] at hj hc
    split at hj
    · rename_i hjl
      obtain ⟨u, hu, hr⟩ := hc j (g' (j / wd) (j % wd)) (if_pos hjl)
      obtain rfl := Option.some.inj hj
      have h0 : 0 < wd := by
        rcases Nat.eq_zero_or_pos wd with h0 | h0
        · subst h0; omega
        · exact h0
      exact ⟨u, hu, hg _ _ ((Nat.div_lt_iff_lt_mul h0).2 hjl) (Nat.mod_lt _ h0) _ _ _ hr⟩
    · cases hj
end Go.Eng

/-! ## EngZb -/
namespace Go.Eng
open Go
def LeA : List C → List C → Prop
  | [], [] => True
  | a :: x, b :: y => CLe a b ∧ LeA x y
  | _, _ => False
theorem LeA.rep {ok : Nat → Prop} {w : World} : ∀ {a b : List C} {vs : List Value}, LeA a b → RepL loc0 dom0 ok w a vs → RepL loc0 dom0 ok w b vs
  | [], [], _, _, h => h
  | _ :: _, _ :: _, [], _, h => h.elim
  | _ :: _, _ :: _, _ :: _, ha, h => ⟨RepC.of_repI (ha.1 _ _ _ (RepI.of_loc0 h.1)), LeA.rep ha.2 h.2⟩
  | [], _ :: _, _, ha, _ => ha.elim
  | _ :: _, [], _, ha, _ => ha.elim
theorem VLeN_aggA {a b : List C} (h : LeA a b) : VLeN (.agg a) (.agg b) := fun ok w v hr => by
  obtain ⟨vs, e, hl⟩ := hr
  exact ⟨vs, e, h.rep hl⟩
end Go.Eng

/-! ## Tab -/
namespace Go.Proofs.YthfekehoehdkoaaGreat
open Go Go.Eng

def T : Nat → Option Ty
  | 2 => some ⟨.int .i64, 1, 8, [.int .i64 0], []⟩
  | 3 => some ⟨.int .i64, 1, 8, [.int .i64 0], []⟩
  | 4 => some ⟨.bool, 1, 1, [.bool false], []⟩
  | 5 => some ⟨.int .u8, 1, 1, [.int .u8 0], []⟩
  | 9 => some ⟨.str, 1, 16, [.str ⟨#[]⟩], []⟩
  | 22 => some ⟨.sl 37, 1, 24, [.nil], []⟩
  | 23 => some ⟨.st [(0, 1), (1, 1)], 2, 32, [.int .i64 0, .nil], [true, true]⟩
  | 24 => some ⟨.st [(0, 1), (1, 1)], 2, 32, [.int .i64 0, .nil], [true, true]⟩
  | 25 => some ⟨.sl 27, 1, 24, [.nil], []⟩
  | 26 => some ⟨.st [(0, 1), (1, 1), (2, 1), (3, 1)], 4, 48, [.int .i64 0, .int .i64 0, .int .i64 0, .nil], [true, true, true, true]⟩
  | 27 => some ⟨.st [(0, 1), (1, 1), (2, 1), (3, 1)], 4, 48, [.int .i64 0, .int .i64 0, .int .i64 0, .nil], [true, true, true, true]⟩
  | 33 => some ⟨.sl 3, 1, 24, [.nil], []⟩
  | 37 => some ⟨.arr 2 3, 2, 16, [.int .i64 0, .int .i64 0], []⟩
  | 38 => some ⟨.sl 54, 1, 24, [.nil], []⟩
  | 39 => some ⟨.int .i64, 1, 8, [.int .i64 0], []⟩
  | 42 => some ⟨.sl 52, 1, 24, [.nil], []⟩
  | 44 => some ⟨.sl 5, 1, 24, [.nil], []⟩
  | 49 => some ⟨.sl 50, 1, 24, [.nil], []⟩
  | 50 => some ⟨.sl 85, 1, 24, [.nil], []⟩
  | 51 => some ⟨.st [(0, 1), (1, 1)], 2, 48, [.nil, .nil], [true, true]⟩
  | 52 => some ⟨.st [(0, 1), (1, 1)], 2, 48, [.nil, .nil], [true, true]⟩
  | 53 => some ⟨.st [(0, 2), (2, 2)], 4, 96, [.nil, .nil, .nil, .nil], [false, false]⟩
  | 54 => some ⟨.st [(0, 2), (2, 2)], 4, 96, [.nil, .nil, .nil, .nil], [false, false]⟩
  | 71 => some ⟨.st [(0, 2), (2, 1), (3, 1)], 4, 80, [.int .i64 0, .nil, .nil, .nil], [false, true, true]⟩
  | 72 => some ⟨.st [(0, 2), (2, 1), (3, 1)], 4, 80, [.int .i64 0, .nil, .nil, .nil], [false, true, true]⟩
  | 73 => some ⟨.other, 1, 8, [.any], []⟩
  | 81 => some ⟨.sl 127, 1, 24, [.nil], []⟩
  | 82 => some ⟨.st [(0, 1), (1, 1)], 2, 32, [.bool false, .nil], [true, true]⟩
  | 83 => some ⟨.st [(0, 1), (1, 1)], 2, 32, [.bool false, .nil], [true, true]⟩
  | 84 => some ⟨.st [(0, 2), (2, 2)], 4, 64, [.bool false, .nil, .bool false, .nil], [false, false]⟩
  | 85 => some ⟨.st [(0, 2), (2, 2)], 4, 64, [.bool false, .nil, .bool false, .nil], [false, false]⟩
  | 97 => some ⟨.int .u64, 1, 8, [.int .u64 0], []⟩
  | 105 => some ⟨.sl 73, 1, 24, [.nil], []⟩
  | 119 => some ⟨.int .i64, 1, 8, [.int .i64 0], []⟩
  | 127 => some ⟨.int .u32, 1, 4, [.int .u32 0], []⟩
  | 129 => some ⟨.int .u64, 1, 8, [.int .u64 0], []⟩
  | 134 => some ⟨.sl 39, 1, 24, [.nil], []⟩
  | 136 => some ⟨.st [(0, 4), (4, 2)], 6, 144, [.nil, .nil, .nil, .nil, .nil, .nil], [false, false]⟩
  | 137 => some ⟨.st [(0, 4), (4, 2)], 6, 144, [.nil, .nil, .nil, .nil, .nil, .nil], [false, false]⟩
  | 138 => some ⟨.st [(0, 2), (2, 2), (4, 2), (6, 2), (8, 1)], 9, 200, [.nil, .nil, .nil, .nil, .nil, .nil, .nil, .nil, .bool false], [false, false, false, false, true]⟩
  | 139 => some ⟨.st [(0, 2), (2, 2), (4, 2), (6, 2), (8, 1)], 9, 200, [.nil, .nil, .nil, .nil, .nil, .nil, .nil, .nil, .bool false], [false, false, false, false, true]⟩
  | 155 => some ⟨.int .u64, 1, 8, [.int .u64 0], []⟩
  | 171 => some ⟨.st [(0, 4), (4, 4), (8, 2)], 10, 240, [.nil, .nil, .nil, .nil, .nil, .nil, .nil, .nil, .nil, .nil], [false, false, false]⟩
  | 172 => some ⟨.st [(0, 4), (4, 4), (8, 2)], 10, 240, [.nil, .nil, .nil, .nil, .nil, .nil, .nil, .nil, .nil, .nil], [false, false, false]⟩
  | 177 => some ⟨.st [(0, 1)], 1, 8, [.int .i64 0], [true]⟩
  | 178 => some ⟨.st [(0, 1)], 1, 8, [.int .i64 0], [true]⟩
  | 206 => some ⟨.st [(0, 1)], 1, 8, [.int .i64 0], [true]⟩
  | 207 => some ⟨.st [(0, 1)], 1, 8, [.int .i64 0], [true]⟩
  | 246 => some ⟨.st [(0, 1), (1, 1)], 2, 48, [.nil, .nil], [true, true]⟩
  | 247 => some ⟨.st [(0, 1), (1, 1)], 2, 48, [.nil, .nil], [true, true]⟩
  | _ => none

theorem T2 : tyOf Tryz.prog 2 = some ⟨.int .i64, 1, 8, [.int .i64 0], []⟩ := by kernel_rfl
theorem T3 : tyOf Tryz.prog 3 = some ⟨.int .i64, 1, 8, [.int .i64 0], []⟩ := by kernel_rfl
theorem T4 : tyOf Tryz.prog 4 = some ⟨.bool, 1, 1, [.bool false], []⟩ := by kernel_rfl
theorem T5 : tyOf Tryz.prog 5 = some ⟨.int .u8, 1, 1, [.int .u8 0], []⟩ := by kernel_rfl
theorem T9 : tyOf Tryz.prog 9 = some ⟨.str, 1, 16, [.str ⟨#[]⟩], []⟩ := by kernel_rfl
theorem T22 : tyOf Tryz.prog 22 = some ⟨.sl 37, 1, 24, [.nil], []⟩ := by kernel_rfl
theorem T23 : tyOf Tryz.prog 23 = some ⟨.st [(0, 1), (1, 1)], 2, 32, [.int .i64 0, .nil], [true, true]⟩ := by kernel_rfl
theorem T24 : tyOf Tryz.prog 24 = some ⟨.st [(0, 1), (1, 1)], 2, 32, [.int .i64 0, .nil], [true, true]⟩ := by kernel_rfl
theorem T25 : tyOf Tryz.prog 25 = some ⟨.sl 27, 1, 24, [.nil], []⟩ := by kernel_rfl
theorem T26 : tyOf Tryz.prog 26 = some ⟨.st [(0, 1), (1, 1), (2, 1), (3, 1)], 4, 48, [.int .i64 0, .int .i64 0, .int .i64 0, .nil], [true, true, true, true]⟩ := by kernel_rfl
theorem T27 : tyOf Tryz.prog 27 = some ⟨.st [(0, 1), (1, 1), (2, 1), (3, 1)], 4, 48, [.int .i64 0, .int .i64 0, .int .i64 0, .nil], [true, true, true, true]⟩ := by kernel_rfl
theorem T33 : tyOf Tryz.prog 33 = some ⟨.sl 3, 1, 24, [.nil], []⟩ := by kernel_rfl
theorem T37 : tyOf Tryz.prog 37 = some ⟨.arr 2 3, 2, 16, [.int .i64 0, .int .i64 0], []⟩ := by kernel_rfl
theorem T38 : tyOf Tryz.prog 38 = some ⟨.sl 54, 1, 24, [.nil], []⟩ := by kernel_rfl
theorem T39 : tyOf Tryz.prog 39 = some ⟨.int .i64, 1, 8, [.int .i64 0], []⟩ := by kernel_rfl
theorem T42 : tyOf Tryz.prog 42 = some ⟨.sl 52, 1, 24, [.nil], []⟩ := by kernel_rfl
theorem T44 : tyOf Tryz.prog 44 = some ⟨.sl 5, 1, 24, [.nil], []⟩ := by kernel_rfl
theorem T49 : tyOf Tryz.prog 49 = some ⟨.sl 50, 1, 24, [.nil], []⟩ := by kernel_rfl
theorem T50 : tyOf Tryz.prog 50 = some ⟨.sl 85, 1, 24, [.nil], []⟩ := by kernel_rfl
theorem T51 : tyOf Tryz.prog 51 = some ⟨.st [(0, 1), (1, 1)], 2, 48, [.nil, .nil], [true, true]⟩ := by kernel_rfl
theorem T52 : tyOf Tryz.prog 52 = some ⟨.st [(0, 1), (1, 1)], 2, 48, [.nil, .nil], [true, true]⟩ := by kernel_rfl
theorem T53 : tyOf Tryz.prog 53 = some ⟨.st [(0, 2), (2, 2)], 4, 96, [.nil, .nil, .nil, .nil], [false, false]⟩ := by kernel_rfl
theorem T54 : tyOf Tryz.prog 54 = some ⟨.st [(0, 2), (2, 2)], 4, 96, [.nil, .nil, .nil, .nil], [false, false]⟩ := by kernel_rfl
theorem T71 : tyOf Tryz.prog 71 = some ⟨.st [(0, 2), (2, 1), (3, 1)], 4, 80, [.int .i64 0, .nil, .nil, .nil], [false, true, true]⟩ := by kernel_rfl
theorem T72 : tyOf Tryz.prog 72 = some ⟨.st [(0, 2), (2, 1), (3, 1)], 4, 80, [.int .i64 0, .nil, .nil, .nil], [false, true, true]⟩ := by kernel_rfl
theorem T73 : tyOf Tryz.prog 73 = some ⟨.other, 1, 8, [.any], []⟩ := by kernel_rfl
theorem T81 : tyOf Tryz.prog 81 = some ⟨.sl 127, 1, 24, [.nil], []⟩ := by kernel_rfl
theorem T82 : tyOf Tryz.prog 82 = some ⟨.st [(0, 1), (1, 1)], 2, 32, [.bool false, .nil], [true, true]⟩ := by kernel_rfl
theorem T83 : tyOf Tryz.prog 83 = some ⟨.st [(0, 1), (1, 1)], 2, 32, [.bool false, .nil], [true, true]⟩ := by kernel_rfl
theorem T84 : tyOf Tryz.prog 84 = some ⟨.st [(0, 2), (2, 2)], 4, 64, [.bool false, .nil, .bool false, .nil], [false, false]⟩ := by kernel_rfl
theorem T85 : tyOf Tryz.prog 85 = some ⟨.st [(0, 2), (2, 2)], 4, 64, [.bool false, .nil, .bool false, .nil], [false, false]⟩ := by kernel_rfl
theorem T97 : tyOf Tryz.prog 97 = some ⟨.int .u64, 1, 8, [.int .u64 0], []⟩ := by kernel_rfl
theorem T105 : tyOf Tryz.prog 105 = some ⟨.sl 73, 1, 24, [.nil], []⟩ := by kernel_rfl
theorem T119 : tyOf Tryz.prog 119 = some ⟨.int .i64, 1, 8, [.int .i64 0], []⟩ := by kernel_rfl
theorem T127 : tyOf Tryz.prog 127 = some ⟨.int .u32, 1, 4, [.int .u32 0], []⟩ := by kernel_rfl
theorem T129 : tyOf Tryz.prog 129 = some ⟨.int .u64, 1, 8, [.int .u64 0], []⟩ := by kernel_rfl
theorem T134 : tyOf Tryz.prog 134 = some ⟨.sl 39, 1, 24, [.nil], []⟩ := by kernel_rfl
theorem T136 : tyOf Tryz.prog 136 = some ⟨.st [(0, 4), (4, 2)], 6, 144, [.nil, .nil, .nil, .nil, .nil, .nil], [false, false]⟩ := by kernel_rfl
theorem T137 : tyOf Tryz.prog 137 = some ⟨.st [(0, 4), (4, 2)], 6, 144, [.nil, .nil, .nil, .nil, .nil, .nil], [false, false]⟩ := by kernel_rfl
theorem T138 : tyOf Tryz.prog 138 = some ⟨.st [(0, 2), (2, 2), (4, 2), (6, 2), (8, 1)], 9, 200, [.nil, .nil, .nil, .nil, .nil, .nil, .nil, .nil, .bool false], [false, false, false, false, true]⟩ := by kernel_rfl
theorem T139 : tyOf Tryz.prog 139 = some ⟨.st [(0, 2), (2, 2), (4, 2), (6, 2), (8, 1)], 9, 200, [.nil, .nil, .nil, .nil, .nil, .nil, .nil, .nil, .bool false], [false, false, false, false, true]⟩ := by kernel_rfl
theorem T155 : tyOf Tryz.prog 155 = some ⟨.int .u64, 1, 8, [.int .u64 0], []⟩ := by kernel_rfl
theorem T171 : tyOf Tryz.prog 171 = some ⟨.st [(0, 4), (4, 4), (8, 2)], 10, 240, [.nil, .nil, .nil, .nil, .nil, .nil, .nil, .nil, .nil, .nil], [false, false, false]⟩ := by kernel_rfl
theorem T172 : tyOf Tryz.prog 172 = some ⟨.st [(0, 4), (4, 4), (8, 2)], 10, 240, [.nil, .nil, .nil, .nil, .nil, .nil, .nil, .nil, .nil, .nil], [false, false, false]⟩ := by kernel_rfl
theorem T177 : tyOf Tryz.prog 177 = some ⟨.st [(0, 1)], 1, 8, [.int .i64 0], [true]⟩ := by kernel_rfl
theorem T178 : tyOf Tryz.prog 178 = some ⟨.st [(0, 1)], 1, 8, [.int .i64 0], [true]⟩ := by kernel_rfl
theorem T206 : tyOf Tryz.prog 206 = some ⟨.st [(0, 1)], 1, 8, [.int .i64 0], [true]⟩ := by kernel_rfl
theorem T207 : tyOf Tryz.prog 207 = some ⟨.st [(0, 1)], 1, 8, [.int .i64 0], [true]⟩ := by kernel_rfl
theorem T246 : tyOf Tryz.prog 246 = some ⟨.st [(0, 1), (1, 1)], 2, 48, [.nil, .nil], [true, true]⟩ := by kernel_rfl
theorem T247 : tyOf Tryz.prog 247 = some ⟨.st [(0, 1), (1, 1)], 2, 48, [.nil, .nil], [true, true]⟩ := by kernel_rfl

theorem T_ok : TabOk Tryz.prog T := by
  intro t X h
  unfold T at h
  split at h

  · cases h; exact T2
  · cases h; exact T3
  · cases h; exact T4
  · cases h; exact T5
  · cases h; exact T9
  · cases h; exact T22
  · cases h; exact T23
  · cases h; exact T24
  · cases h; exact T25
  · cases h; exact T26
  · cases h; exact T27
  · cases h; exact T33
  · cases h; exact T37
  · cases h; exact T38
  · cases h; exact T39
  · cases h; exact T42
  · cases h; exact T44
  · cases h; exact T49
  · cases h; exact T50
  · cases h; exact T51
  · cases h; exact T52
  · cases h; exact T53
  · cases h; exact T54
  · cases h; exact T71
  · cases h; exact T72
  · cases h; exact T73
  · cases h; exact T81
  · cases h; exact T82
  · cases h; exact T83
  · cases h; exact T84
  · cases h; exact T85
  · cases h; exact T97
  · cases h; exact T105
  · cases h; exact T119
  · cases h; exact T127
  · cases h; exact T129
  · cases h; exact T134
  · cases h; exact T136
  · cases h; exact T137
  · cases h; exact T138
  · cases h; exact T139
  · cases h; exact T155
  · cases h; exact T171
  · cases h; exact T172
  · cases h; exact T177
  · cases h; exact T178
  · cases h; exact T206
  · cases h; exact T207
  · cases h; exact T246
  · cases h; exact T247
  · cases h

theorem mixed : Tryz.prog.follows .mixedOrders = true := by kernel_rfl

end Go.Proofs.YthfekehoehdkoaaGreat

/-! ## FnY0 -/
namespace Go.Proofs.YthfekehoehdkoaaGreat
open Go Go.Eng Go.Gra
/-- The edges of a graph, by content. -/
def edC (m : Nat) (f : Nat → E) : C := .rows 2 m fun i j => .int .i64 (if j = 0 then (f i).1 else (f i).2)
/-- A graph, by content. -/
def gA (n : Int) (m : Nat) (f : Nat → E) : List C := [.int .i64 n, edC m f]
end Go.Proofs.YthfekehoehdkoaaGreat

/-! ## Limbs -/
namespace Go.Eng

def BB : Nat := 4294967296

def val : List Int → Nat
  | [] => 0
  | x :: xs => x.toNat + BB * val xs

def InR (xs : List Int) : Prop := ∀ x ∈ xs, 0 ≤ x ∧ x < 4294967296

def limbs (n : Nat) : List Int := if h : n = 0 then [] else ((n % BB : Nat) : Int) :: limbs (n / BB)
termination_by n
decreasing_by exact Nat.div_lt_self (by omega) (by decide)

theorem limbs_zero : limbs 0 = [] := by unfold limbs; simp
theorem limbs_pos {n : Nat} (h : 0 < n) : limbs n = ((n % BB : Nat) : Int) :: limbs (n / BB) := by
  rw [limbs]; rw [dif_neg (by omega)]

theorem InR.nil : InR [] := fun _ h => by simp at h
theorem InR.cons {x : Int} {xs : List Int} (hx : 0 ≤ x ∧ x < 4294967296) (h : InR xs) : InR (x :: xs) := fun y hy => by
  rcases List.mem_cons.1 hy with rfl | hy
  · exact hx
  · exact h y hy
theorem InR.tail {x : Int} {xs : List Int} (h : InR (x :: xs)) : InR xs := fun y hy => h y (by simp [hy])
theorem InR.head {x : Int} {xs : List Int} (h : InR (x :: xs)) : 0 ≤ x ∧ x < 4294967296 := h x (by simp)
theorem InR.append {xs ys : List Int} (h : InR xs) (h' : InR ys) : InR (xs ++ ys) := fun y hy => by
  rcases List.mem_append.1 hy with hy | hy
  · exact h y hy
  · exact h' y hy
theorem InR.take {xs : List Int} (h : InR xs) (i : Nat) : InR (xs.take i) := fun y hy => h y (List.mem_of_mem_take hy)
theorem InR.drop {xs : List Int} (h : InR xs) (i : Nat) : InR (xs.drop i) := fun y hy => h y (List.mem_of_mem_drop hy)
theorem InR.getD {xs : List Int} (h : InR xs) (i : Nat) : 0 ≤ xs.getD i 0 ∧ xs.getD i 0 < 4294967296 := by
  rw [List.getD_eq_getElem?_getD]
  cases hi : xs[i]? with
  | none => simp
  | some x => exact h x (List.mem_of_getElem? hi)
theorem InR.set {xs : List Int} (h : InR xs) (i : Nat) {x : Int} (hx : 0 ≤ x ∧ x < 4294967296) : InR (xs.set i x) := fun y hy => by
  rcases List.mem_or_eq_of_mem_set hy with hy | rfl
  · exact h y hy
  · exact hx
theorem InR.replicate (n : Nat) : InR (List.replicate n 0) := fun y hy => by
  rw [(List.mem_replicate.1 hy).2]; decide
theorem InR.one {x : Int} (h : 0 ≤ x ∧ x < 4294967296) : InR [x] := InR.cons h InR.nil

theorem InR.limbs : ∀ (n : Nat), InR (limbs n) := by
  intro n
  induction n using Nat.strongRecOn with
  | _ n ih =>
    by_cases h : n = 0
    · subst h; rw [limbs_zero]; exact InR.nil
    · rw [limbs_pos (by omega)]
      have : n % BB < 4294967296 := Nat.mod_lt n (show BB > 0 by decide)
      exact InR.cons ⟨by omega, by omega⟩ (ih _ (Nat.div_lt_self (by omega) (by decide)))

theorem val_limbs : ∀ (n : Nat), val (limbs n) = n := by
  intro n
  induction n using Nat.strongRecOn with
  | _ n ih =>
    by_cases h : n = 0
    · subst h; rw [limbs_zero]; rfl
    · rw [limbs_pos (by omega)]
      simp only [val]
      rw [ih _ (Nat.div_lt_self (by omega) (by decide))]
      have := Nat.mod_add_div n BB
      omega

theorem val_append : ∀ (xs ys : List Int), val (xs ++ ys) = val xs + BB ^ xs.length * val ys
  | [], ys => by simp [val]
  | x :: xs, ys => by
    simp only [List.cons_append, val, val_append xs ys, List.length_cons, Nat.pow_succ]
    rw [Nat.mul_add, Nat.mul_comm (BB ^ xs.length) BB, Nat.mul_assoc]
    omega

theorem val_lt : ∀ {xs : List Int}, InR xs → val xs < BB ^ xs.length
  | [], _ => by simp [val]
  | x :: xs, h => by
    have h1 := val_lt h.tail
    have h2 := h.head
    simp only [val, List.length_cons, Nat.pow_succ]
    have : BB * (val xs + 1) ≤ BB * BB ^ xs.length := Nat.mul_le_mul_left _ h1
    rw [Nat.mul_comm (BB ^ xs.length) BB]
    have h3 : x.toNat < BB := by unfold BB; omega
    rw [Nat.mul_add] at this
    omega

theorem val_replicate : ∀ (n : Nat), val (List.replicate n 0) = 0
  | 0 => rfl
  | n + 1 => by simp [List.replicate_succ, val, val_replicate n]

/-- The word at a place. -/
theorem getD_val : ∀ {xs : List Int}, InR xs → ∀ i, xs.getD i 0 = ((val xs / BB ^ i % BB : Nat) : Int)
  | [], _, i => by simp [val]
  | x :: xs, h, 0 => by
    have h2 := h.head
    have h3 : x.toNat < BB := by unfold BB; omega
    simp only [List.getD_cons_zero, val, Nat.pow_zero, Nat.div_one, Nat.add_mul_mod_self_left, Nat.mod_eq_of_lt h3]
    omega
  | x :: xs, h, i + 1 => by
    have h2 := h.head
    have h3 : x.toNat < BB := by unfold BB; omega
    simp only [List.getD_cons_succ, val]
    rw [getD_val h.tail i, Nat.pow_succ, Nat.mul_comm (BB ^ i) BB, ← Nat.div_div_eq_div_mul, Nat.add_mul_div_left _ _ (by decide : 0 < BB), Nat.div_eq_of_lt h3, Nat.zero_add]

theorem val_take {xs : List Int} (h : InR xs) (i : Nat) : val (xs.take i) = val xs % BB ^ i := by
  by_cases hi : i ≤ xs.length
  · have e := val_append (xs.take i) (xs.drop i)
    rw [List.take_append_drop, List.length_take, Nat.min_eq_left hi] at e
    have hl := val_lt (h.take i)
    rw [List.length_take, Nat.min_eq_left hi] at hl
    rw [e, Nat.add_mul_mod_self_left, Nat.mod_eq_of_lt hl]
  · rw [List.take_of_length_le (by omega), Nat.mod_eq_of_lt]
    exact Nat.lt_of_lt_of_le (val_lt h) (Nat.pow_le_pow_right (by decide) (by omega))

theorem val_drop {xs : List Int} (h : InR xs) (i : Nat) : val (xs.drop i) = val xs / BB ^ i := by
  by_cases hi : i ≤ xs.length
  · have e := val_append (xs.take i) (xs.drop i)
    rw [List.take_append_drop, List.length_take, Nat.min_eq_left hi] at e
    have hl := val_lt (h.take i)
    rw [List.length_take, Nat.min_eq_left hi] at hl
    rw [e, Nat.add_mul_div_left _ _ (Nat.pow_pos (by decide)), Nat.div_eq_of_lt hl, Nat.zero_add]
  · rw [List.drop_of_length_le (by omega), Nat.div_eq_of_lt]; rfl
    exact Nat.lt_of_lt_of_le (val_lt h) (Nat.pow_le_pow_right (by decide) (by omega))

theorem val_set : ∀ {xs : List Int} {i : Nat} {x : Int}, i < xs.length → val (xs.set i x) + BB ^ i * (xs.getD i 0).toNat = val xs + BB ^ i * x.toNat
  | [], i, x, h => by simp at h
  | y :: ys, 0, x, _ => by simp [val]; omega
  | y :: ys, i + 1, x, h => by
    have := val_set (xs := ys) (i := i) (x := x) (by simpa using h)
    simp only [List.set_cons_succ, val, List.getD_cons_succ, Nat.pow_succ]
    rw [Nat.mul_comm (BB ^ i) BB, Nat.mul_assoc, Nat.mul_assoc]
    have h2 : BB * (val (ys.set i x) + BB ^ i * (ys.getD i 0).toNat) = BB * (val ys + BB ^ i * x.toNat) := by rw [this]
    rw [Nat.mul_add, Nat.mul_add] at h2
    omega

/-- A list with no nought at its end is the number's own. -/
theorem limbs_val_last : ∀ {xs : List Int}, InR xs → (xs = [] ∨ xs.getD (xs.length - 1) 0 ≠ 0) → limbs (val xs) = xs
  | [], _, _ => limbs_zero
  | [x], h, hl => by
    have h2 := h.head
    have hx : x ≠ 0 := by simpa using hl
    have h3 : x.toNat < BB := by unfold BB; omega
    simp only [val, Nat.mul_zero, Nat.add_zero]
    rw [limbs_pos (by omega), Nat.mod_eq_of_lt h3, Nat.div_eq_of_lt h3, limbs_zero]
    congr 1; omega
  | x :: y :: ys, h, hl => by
    have h2 := h.head
    have h3 : x.toNat < BB := by unfold BB; omega
    have ih := limbs_val_last h.tail (.inr (by
      rcases hl with hl | hl
      · cases hl
      · simpa using hl))
    have hpos : 0 < val (y :: ys) := by
      rcases Nat.eq_zero_or_pos (val (y :: ys)) with h0 | h0
      · rw [h0, limbs_zero] at ih; cases ih
      · exact h0
    have e : val (x :: y :: ys) = x.toNat + BB * val (y :: ys) := rfl
    have hp : 0 < val (x :: y :: ys) := by
      rw [e]
      have : 0 < BB * val (y :: ys) := Nat.mul_pos (by decide) hpos
      omega
    rw [limbs_pos hp, e, Nat.add_mul_mod_self_left, Nat.mod_eq_of_lt h3, Nat.add_mul_div_left _ _ (by decide : 0 < BB), Nat.div_eq_of_lt h3, Nat.zero_add, ih]
    congr 1; omega

theorem limbs_val_ge {xs : List Int} (h : InR xs) (hl : xs.length = 0 ∨ BB ^ (xs.length - 1) ≤ val xs) : limbs (val xs) = xs := by
  refine limbs_val_last h ?_
  rcases hl with hl | hl
  · exact .inl (List.length_eq_zero_iff.1 hl)
  · by_cases hn : xs = []
    · exact .inl hn
    · refine .inr fun h0 => ?_
      have hp : 0 < xs.length := List.length_pos_iff.2 hn
      rw [getD_val h] at h0
      have hv := val_lt h
      have h1 : val xs / BB ^ (xs.length - 1) < BB := by
        rw [Nat.div_lt_iff_lt_mul (Nat.pow_pos (by decide)), Nat.mul_comm, ← Nat.pow_succ, show (xs.length - 1).succ = xs.length by omega]; exact hv
      rw [Nat.mod_eq_of_lt h1] at h0
      have h2 : 1 ≤ val xs / BB ^ (xs.length - 1) := by
        rw [Nat.le_div_iff_mul_le (Nat.pow_pos (by decide))]; omega
      omega

/-- How many words a number has. -/
def nl (n : Nat) : Nat := (limbs n).length

theorem limbs_length (n : Nat) : (limbs n).length = nl n := rfl

theorem take_limbs (n : Nat) : (limbs n).take (nl n) = limbs n := List.take_length

theorem nl_zero : nl 0 = 0 := by unfold nl; rw [limbs_zero]; rfl
theorem nl_le_of_lt : ∀ {k n : Nat}, n < BB ^ k → nl n ≤ k
  | 0, n, h => by
    have : n = 0 := by simpa using h
    subst this; rw [nl_zero]; omega
  | k + 1, n, h => by
    by_cases h0 : n = 0
    · subst h0; rw [nl_zero]; omega
    · unfold nl
      rw [limbs_pos (by omega)]
      have : nl (n / BB) ≤ k := nl_le_of_lt (by rw [Nat.div_lt_iff_lt_mul (by decide), ← Nat.pow_succ]; exact h)
      unfold nl at this
      simp only [List.length_cons]; omega
theorem lt_of_nl (n : Nat) : n < BB ^ nl n := by
  have := val_lt (InR.limbs n)
  rw [val_limbs] at this; exact this
theorem nl_le_iff {k n : Nat} : nl n ≤ k ↔ n < BB ^ k :=
  ⟨fun h => Nat.lt_of_lt_of_le (lt_of_nl n) (Nat.pow_le_pow_right (by decide) h), nl_le_of_lt⟩
theorem nl_mono {m n : Nat} (h : m ≤ n) : nl m ≤ nl n := nl_le_of_lt (Nat.lt_of_le_of_lt h (lt_of_nl n))
theorem nl_pos {n : Nat} : 0 < nl n ↔ 0 < n := by
  constructor
  · intro h
    rcases Nat.eq_zero_or_pos n with h0 | h0
    · subst h0; rw [nl_zero] at h; omega
    · exact h0
  · intro h
    rcases Nat.eq_zero_or_pos (nl n) with h0 | h0
    · have := lt_of_nl n
      rw [h0] at this
      simp at this; omega
    · exact h0
theorem nl_eq_zero {n : Nat} : nl n = 0 ↔ n = 0 := by
  have := nl_pos (n := n); omega
theorem ge_of_nl {n : Nat} (h : 0 < n) : BB ^ (nl n - 1) ≤ n := by
  rcases Nat.lt_or_ge n (BB ^ (nl n - 1)) with h1 | h1
  · have := nl_le_of_lt h1
    have := nl_pos.2 h
    omega
  · exact h1
theorem nl_mul (m n : Nat) : nl (m * n) ≤ nl m + nl n := by
  apply nl_le_of_lt
  rw [Nat.pow_add]
  exact Nat.mul_lt_mul'' (lt_of_nl m) (lt_of_nl n)
theorem nl_add (m n : Nat) : nl (m + n) ≤ max (nl m) (nl n) + 1 := by
  apply nl_le_of_lt
  rw [Nat.pow_succ]
  have h1 : m < BB ^ max (nl m) (nl n) := nl_le_iff.1 (Nat.le_max_left _ _)
  have h2 : n < BB ^ max (nl m) (nl n) := nl_le_iff.1 (Nat.le_max_right _ _)
  have h3 : BB ^ max (nl m) (nl n) * 2 ≤ BB ^ max (nl m) (nl n) * BB := Nat.mul_le_mul_left _ (by decide)
  omega

end Go.Eng

namespace Go.Eng
open Go
set_option linter.defProp false in
def vx := And.intro vcs (And.intro vcu (And.intro vcn (And.intro vcl (And.intro vcr (And.intro @limbs_length (And.intro @take_limbs (And.intro @Nat.min_def (And.intro @IntKind.bits.eq_1 (And.intro @IntKind.bits.eq_2 (And.intro @IntKind.bits.eq_3 (And.intro @IntKind.bits.eq_4 (And.intro @IntKind.bits.eq_5 (And.intro @IntKind.bits.eq_6 (And.intro @IntKind.bits.eq_7 (@IntKind.bits.eq_8)))))))))))))))
set_option linter.defProp false in
def rx := And.intro vcn (And.intro vcl (And.intro vcq (And.intro @limbs_length (@take_limbs))))
end Go.Eng

/-! ## FnYb -/
namespace Go.Proofs.YthfekehoehdkoaaGreat
open Go Go.Eng

/-! ### Whether a function says yes of one of a slice. -/
theorem first_or (p : Nat → Bool) (N : Nat) : (∀ i, i < N → p i = false) ∨ ∃ i, i < N ∧ p i = true ∧ ∀ j, j < i → p j = false := by
  induction N with
  | zero => exact .inl fun i hi => absurd hi (Nat.not_lt_zero _)
  | succ N ih =>
    rcases ih with h | ⟨i, h1, h2, h3⟩
    · cases hp : p N with
      | false => exact .inl fun i hi => by by_cases e : i = N; (· rw [e]; exact hp); exact h i (by omega)
      | true => exact .inr ⟨N, by omega, hp, h⟩
    · exact .inr ⟨i, by omega, h2, h3⟩
def anyN (p : Nat → Bool) (N : Nat) : Bool := (List.range N).any p
theorem anyN_no {p : Nat → Bool} {N : Nat} (h : ∀ i, i < N → p i = false) : anyN p N = false := by
  unfold anyN
  rw [List.any_eq_false]
  intro i hi
  rw [h i (List.mem_range.1 hi)]
  simp
theorem anyN_yes {p : Nat → Bool} {N i : Nat} (hi : i < N) (h : p i = true) : anyN p N = true := List.any_eq_true.2 ⟨i, List.mem_range.2 hi, h⟩

set_option maxRecDepth 10000 in
theorem ixI (g : FuncId) {l : C} {N : Nat} (p : Nat → Bool) (r : Int) {xs : List Int} (hl : l = .ints .i64 xs ∧ xs.length = N) (hN : N < 2 ^ 40) (hc : ∀ i, i < N → PureCalls Tryz.prog g [.one (.int .i64 (xs.getD i 0))] (.one (.bool (p i))))
    (h1 : (∀ i, i < N → p i = false) → r = -1) (h2 : ∀ i : Nat, i < N → p i = true → (∀ j, j < i → p j = false) → r = i) :
    PureCalls Tryz.prog 54 [.one l, .one (.fn g 0 (fun _ => .any))] (.one (.int .i64 r)) := by
  obtain ⟨rfl, hl2⟩ := hl
  refine pure_of_vc T_ok mixed Tryz.func54 rfl (by decide) _ (by simp [Tryz.ntmps54]) ⟨[0, 1, 4, 5, 7, 8, 9, 16], []⟩ (by kernel_rfl) _ ?_
  show vc T Tryz.prog ⟨[0, 1, 4, 5, 7, 8, 9, 16], []⟩ (Option.get! Tryz.f54.body) _ _
  simp only [Tryz.f54, Tryz.ntmps54, Option.get!, initSt, initM, envOf, Nat.reduceAdd]
  simp only [vx, T, seval, hl2]
  refine LoopK.go (fun y : {i : Nat // i ≤ N ∧ ∀ k, k < i → p k = false} => ⟨[(0, .one (.ints .i64 xs)), (1, .one (.fn g 0 (fun _ => .any))), (7, .one (.int .i64 N)), (8, .one (.int .i64 y.1))], [], 1, 19⟩) (fun y => N - y.1) ⟨0, Nat.zero_le _, fun k h => absurd h (Nat.not_lt_zero _)⟩ ?_ (fun ⟨i, hi, hz⟩ => ?_)
  · refine Sub.auto ?_; simp only [rx, envRen, vRen, cRen, lRen, ownRen, bRen, apartRen, emptyBk, ren, seval, autoR, autoOne, Int.natCast_add, Int.natCast_one, Int.natCast_zero, hl2]
  have i1 : IntKind.i64.wrap ((i : Int) + 1) = ((i + 1 : Nat) : Int) := by rw [IntWalk.i64_in _ (by omega)]; omega
  simp only [vx, T, seval, hl2]
  refine ⟨fun h3 => Later.go ?_, fun h3 => Later.go ?_⟩
  · simp only [vx, T, seval, hl2]
    refine ⟨by omega, CallK.go (hc i (by omega)) ?_⟩
    simp only [vx, T, seval, hl2]
    refine ⟨fun h4 => Later.go ?_, fun h4 => Later.go ?_⟩
    · have e := h2 i (by omega) h4 hz
      simp only [vx, T, seval, hl2]
      exact VLe.of_eq (by rw [e])
    · simp only [vx, T, seval, hl2, i1]
      refine loopQ.go ⟨i + 1, by omega, fun k hk => ?_⟩ ?_ (by show N - (i + 1) < N - i; omega)
      · by_cases e : k = i
        · rw [e]; simpa using h4
        · exact hz k (by omega)
      · refine Sub.auto ?_; simp only [rx, envRen, vRen, cRen, lRen, ownRen, bRen, apartRen, emptyBk, ren, seval, autoR, autoOne, Int.natCast_add, Int.natCast_one, Int.natCast_zero, hl2]
  · have e := h1 fun k hk => hz k (by omega)
    simp only [vx, T, seval, hl2]
    exact VLe.of_eq (by rw [e])
set_option maxRecDepth 10000 in
theorem hasI (g : FuncId) {l : C} {N : Nat} (p : Nat → Bool) {xs : List Int} (hl : l = .ints .i64 xs ∧ xs.length = N) (hN : N < 2 ^ 40) (hc : ∀ i, i < N → PureCalls Tryz.prog g [.one (.int .i64 (xs.getD i 0))] (.one (.bool (p i)))) :
    PureCalls Tryz.prog 34 [.one l, .one (.fn g 0 (fun _ => .any))] (.one (.bool (anyN p N))) := by
  obtain ⟨r, hr, hk⟩ : ∃ r : Int, decide (r ≥ 0) = anyN p N ∧ PureCalls Tryz.prog 54 [.one l, .one (.fn g 0 (fun _ => .any))] (.one (.int .i64 r)) := by
    rcases first_or p N with h | ⟨i, h4, h5, h6⟩
    · exact ⟨-1, by rw [anyN_no h]; rfl, ixI g p _ hl hN hc (fun _ => rfl) fun i hi hp _ => absurd hp (by rw [h i hi]; simp)⟩
    · refine ⟨i, by rw [anyN_yes h4 h5, decide_eq_true]; omega, ixI g p _ hl hN hc (fun h => absurd h5 (by rw [h i h4]; simp)) fun j hj hp hb => ?_⟩
      by_cases e : i < j
      · exact absurd h5 (by rw [hb i e]; simp)
      · by_cases e2 : j < i
        · exact absurd hp (by rw [h6 j e2]; simp)
        · omega
  obtain ⟨rfl, hl2⟩ := hl
  refine pure_of_vc T_ok mixed Tryz.func34 rfl (by decide) _ (by simp [Tryz.ntmps34]) ⟨[0, 1, 4], []⟩ (by kernel_rfl) _ ?_
  show vc T Tryz.prog ⟨[0, 1, 4], []⟩ (Option.get! Tryz.f34.body) _ _
  simp only [Tryz.f34, Tryz.ntmps34, Option.get!, initSt, initM, envOf, Nat.reduceAdd]
  simp only [vx, T, seval, hl2]
  refine CallK.go hk ?_
  simp only [vx, T, seval, hl2]
  exact VLe.of_eq (by rw [← hr])

set_option maxRecDepth 10000 in
theorem ixN (g : FuncId) {l : C} {N : Nat} (p : Nat → Bool) (r : Int) {nn : Nat → Nat} {ff : Nat → Nat → Nat → C} (hl : l = .rows 2 N (fun i j => if j = 0 then .nil else .rows 4 (nn i) (ff i))) (hN : N < 2 ^ 40) (hc : ∀ i, i < N → PureCalls Tryz.prog g [.agg [.nil, .rows 4 (nn i) (ff i)]] (.one (.bool (p i))))
    (h1 : (∀ i, i < N → p i = false) → r = -1) (h2 : ∀ i : Nat, i < N → p i = true → (∀ j, j < i → p j = false) → r = i) :
    PureCalls Tryz.prog 53 [.one l, .one (.fn g 0 (fun _ => .any))] (.one (.int .i64 r)) := by
  subst hl
  refine pure_of_vc T_ok mixed Tryz.func53 rfl (by decide) _ (by simp [Tryz.ntmps53]) ⟨[0, 1, 4, 5, 7, 8, 9, 16], []⟩ (by kernel_rfl) _ ?_
  show vc T Tryz.prog ⟨[0, 1, 4, 5, 7, 8, 9, 16], []⟩ (Option.get! Tryz.f53.body) _ _
  simp only [Tryz.f53, Tryz.ntmps53, Option.get!, initSt, initM, envOf, Nat.reduceAdd]
  simp only [vx, T, seval]
  refine LoopK.go (fun y : {i : Nat // i ≤ N ∧ ∀ k, k < i → p k = false} => ⟨[(0, .one (.rows 2 N (fun i j => if j = 0 then .nil else .rows 4 (nn i) (ff i)))), (1, .one (.fn g 0 (fun _ => .any))), (7, .one (.int .i64 N)), (8, .one (.int .i64 y.1))], [], 1, 19⟩) (fun y => N - y.1) ⟨0, Nat.zero_le _, fun k h => absurd h (Nat.not_lt_zero _)⟩ ?_ (fun ⟨i, hi, hz⟩ => ?_)
  · refine Sub.auto ?_; simp only [rx, envRen, vRen, cRen, lRen, ownRen, bRen, apartRen, emptyBk, ren, seval, autoR, autoOne, Int.natCast_add, Int.natCast_one, Int.natCast_zero]
  have i1 : IntKind.i64.wrap ((i : Int) + 1) = ((i + 1 : Nat) : Int) := by rw [IntWalk.i64_in _ (by omega)]; omega
  simp only [vx, T, seval]
  refine ⟨fun h3 => Later.go ?_, fun h3 => Later.go ?_⟩
  · simp only [vx, T, seval]
    refine ⟨by omega, CallK.go (hc i (by omega)) ?_⟩
    simp only [vx, T, seval]
    refine ⟨fun h4 => Later.go ?_, fun h4 => Later.go ?_⟩
    · have e := h2 i (by omega) h4 hz
      simp only [vx, T, seval]
      exact VLe.of_eq (by rw [e])
    · simp only [vx, T, seval, i1]
      refine loopQ.go ⟨i + 1, by omega, fun k hk => ?_⟩ ?_ (by show N - (i + 1) < N - i; omega)
      · by_cases e : k = i
        · rw [e]; simpa using h4
        · exact hz k (by omega)
      · refine Sub.auto ?_; simp only [rx, envRen, vRen, cRen, lRen, ownRen, bRen, apartRen, emptyBk, ren, seval, autoR, autoOne, Int.natCast_add, Int.natCast_one, Int.natCast_zero]
  · have e := h1 fun k hk => hz k (by omega)
    simp only [vx, T, seval]
    exact VLe.of_eq (by rw [e])
set_option maxRecDepth 10000 in
theorem hasN (g : FuncId) {l : C} {N : Nat} (p : Nat → Bool) {nn : Nat → Nat} {ff : Nat → Nat → Nat → C} (hl : l = .rows 2 N (fun i j => if j = 0 then .nil else .rows 4 (nn i) (ff i))) (hN : N < 2 ^ 40) (hc : ∀ i, i < N → PureCalls Tryz.prog g [.agg [.nil, .rows 4 (nn i) (ff i)]] (.one (.bool (p i)))) :
    PureCalls Tryz.prog 33 [.one l, .one (.fn g 0 (fun _ => .any))] (.one (.bool (anyN p N))) := by
  obtain ⟨r, hr, hk⟩ : ∃ r : Int, decide (r ≥ 0) = anyN p N ∧ PureCalls Tryz.prog 53 [.one l, .one (.fn g 0 (fun _ => .any))] (.one (.int .i64 r)) := by
    rcases first_or p N with h | ⟨i, h4, h5, h6⟩
    · exact ⟨-1, by rw [anyN_no h]; rfl, ixN g p _ hl hN hc (fun _ => rfl) fun i hi hp _ => absurd hp (by rw [h i hi]; simp)⟩
    · refine ⟨i, by rw [anyN_yes h4 h5, decide_eq_true]; omega, ixN g p _ hl hN hc (fun h => absurd h5 (by rw [h i h4]; simp)) fun j hj hp hb => ?_⟩
      by_cases e : i < j
      · exact absurd h5 (by rw [hb i e]; simp)
      · by_cases e2 : j < i
        · exact absurd hp (by rw [h6 j e2]; simp)
        · omega
  subst hl
  refine pure_of_vc T_ok mixed Tryz.func33 rfl (by decide) _ (by simp [Tryz.ntmps33]) ⟨[0, 1, 4], []⟩ (by kernel_rfl) _ ?_
  show vc T Tryz.prog ⟨[0, 1, 4], []⟩ (Option.get! Tryz.f33.body) _ _
  simp only [Tryz.f33, Tryz.ntmps33, Option.get!, initSt, initM, envOf, Nat.reduceAdd]
  simp only [vx, T, seval]
  refine CallK.go hk ?_
  simp only [vx, T, seval]
  exact VLe.of_eq (by rw [← hr])
end Go.Proofs.YthfekehoehdkoaaGreat

/-! ## Tre -/
namespace Go.Tre
open Go.Gra (E lt GV Asc)

/-- A tree's parts are f 0, .., f (m - 1); `lf` stands behind them, where nobody looks. -/
inductive Tree where
  | lf
  | nd (a b c : Int) (m : Nat) (f : Nat → Tree)
namespace Tree
def a : Tree → Int | lf => 0 | nd a _ _ _ _ => a
def b : Tree → Int | lf => 0 | nd _ b _ _ _ => b
def c : Tree → Int | lf => 0 | nd _ _ c _ _ => c
def m : Tree → Nat | lf => 0 | nd _ _ _ m _ => m
def f : Tree → Nat → Tree | lf => fun _ => lf | nd _ _ _ _ f => f
end Tree
/-- No part is `lf`. -/
def Whole : Tree → Prop
  | .lf => False
  | .nd _ _ _ m f => ∀ i, i < m → Whole (f i)
theorem Whole.part : ∀ {t : Tree}, Whole t → ∀ {i : Nat}, i < t.m → Whole (t.f i)
  | .nd _ _ _ _ _, h, i, hi => h i hi

def bars : Tree → List E
  | .lf => [(0, 0)]
  | .nd a b _ m f => if m = 0 then [(a, b)] else (List.range m).flatMap fun i => bars (f i)
/-- All points of bars. -/
def endsL (l : List E) : List Int := l.flatMap fun e => [e.1, e.2]
def ends (t : Tree) : List Int := endsL (bars t)
def nodes : Tree → Nat
  | .lf => 1
  | .nd _ _ _ m f => if m = 0 then 1 else 1 + ((List.range m).map fun i => nodes (f i)).sum
def merges : Tree → Nat
  | .lf => 0
  | .nd _ _ _ m f => if m = 0 then 0 else 1 + ((List.range m).map fun i => merges (f i)).sum
/-- Points from 0 to 30, at most four parts. -/
def Fit : Tree → Prop
  | .lf => False
  | .nd a b c m f => (0 ≤ a ∧ a ≤ 30 ∧ 0 ≤ b ∧ b ≤ 30) ∧ m ≤ 4 ∧ (m ≠ 0 → (0 ≤ c ∧ c ≤ 30) ∧ ∀ i, i < m → Fit (f i))
/-- The set of the points. -/
def bset : Tree → Nat
  | .lf => 1
  | .nd a b _ m f => if m = 0 then 2 ^ a.toNat ||| 2 ^ b.toNat else (List.range m).foldl (fun s i => s ||| bset (f i)) 0

theorem Fit.whole : ∀ {t : Tree}, Fit t → Whole t
  | .nd _ _ _ m f, ⟨_, _, h⟩ => fun i hi => ((h (by omega)).2 i hi).whole

theorem testBit_pow (k i : Nat) : (2 ^ k).testBit i = decide (i = k) := by
  rw [Nat.testBit_two_pow]
  exact decide_eq_decide.2 ⟨fun h => h.symm, fun h => h.symm⟩
theorem fold_or {g : Nat → Nat} (k : Nat) : ∀ (l : List Nat) (s : Nat), (l.foldl (fun s i => s ||| g i) s).testBit k = true ↔ s.testBit k = true ∨ ∃ i ∈ l, (g i).testBit k = true
  | [], s => by simp
  | x :: l, s => by
    rw [List.foldl_cons, fold_or k l]
    simp only [Nat.testBit_or, Bool.or_eq_true, List.mem_cons, exists_eq_or_imp, or_assoc]

theorem mem_endsL {x : Int} {l : List E} : x ∈ endsL l ↔ ∃ e ∈ l, x = e.1 ∨ x = e.2 := by
  unfold endsL
  simp only [List.mem_flatMap, List.mem_cons, List.not_mem_nil, or_false]
theorem ends_nd {a b c : Int} {m : Nat} {f : Nat → Tree} {x : Int} : x ∈ ends (.nd a b c m f) ↔ (m = 0 ∧ (x = a ∨ x = b)) ∨ (m ≠ 0 ∧ ∃ i, i < m ∧ x ∈ ends (f i)) := by
  unfold ends
  rw [mem_endsL, bars]
  by_cases h : m = 0
  · rw [if_pos h]
    simp [h]
  · rw [if_neg h]
    simp only [h, false_and, ne_eq, not_false_eq_true, true_and, false_or, List.mem_flatMap, List.mem_range, mem_endsL]
    constructor
    · rintro ⟨e, ⟨i, hi, he⟩, hx⟩; exact ⟨i, hi, e, he, hx⟩
    · rintro ⟨i, hi, e, he, hx⟩; exact ⟨e, ⟨i, hi, he⟩, hx⟩

theorem bset_iff : ∀ (t : Tree), Fit t → ∀ k : Nat, (bset t).testBit k = true ↔ (k : Int) ∈ ends t
  | .lf, h, _ => h.elim
  | .nd a b c m f, ⟨h1, h2, h3⟩, k => by
    rw [ends_nd, bset]
    by_cases h : m = 0
    · rw [if_pos h]
      simp only [Nat.testBit_or, testBit_pow, Bool.or_eq_true, decide_eq_true_eq, h, true_and, ne_eq, not_true_eq_false, false_and, or_false]
      omega
    · rw [if_neg h, fold_or]
      simp only [Nat.zero_testBit, Bool.false_eq_true, false_or, h, false_and, ne_eq, not_false_eq_true, true_and, List.mem_range]
      constructor
      · rintro ⟨i, hi, hx⟩; exact ⟨i, hi, (bset_iff (f i) ((h3 h).2 i hi) k).1 hx⟩
      · rintro ⟨i, hi, hx⟩; exact ⟨i, hi, (bset_iff (f i) ((h3 h).2 i hi) k).2 hx⟩
theorem ends_fit : ∀ (t : Tree), Fit t → ∀ x ∈ ends t, 0 ≤ x ∧ x ≤ 30
  | .lf, h, _, _ => h.elim
  | .nd a b c m f, ⟨h1, h2, h3⟩, x, hx => by
    rcases ends_nd.1 hx with ⟨_, h | h⟩ | ⟨h, i, hi, hx⟩
    · omega
    · omega
    · exact ends_fit (f i) ((h3 h).2 i hi) x hx
theorem bset_lt (t : Tree) (h : Fit t) : bset t < 2 ^ 31 := by
  refine Nat.lt_pow_two_of_testBit _ fun k hk => ?_
  cases hb : (bset t).testBit k with
  | false => rfl
  | true =>
    have := ends_fit t h _ ((bset_iff t h k).1 hb)
    omega

/-! ### Sets as lists. -/
/-- The points of a set, ascending. -/
def lstI (s : Nat) : List Int := ((List.range 31).filter fun i => s.testBit i).map fun (i : Nat) => (i : Int)
def Up : List Int → Prop := List.Pairwise fun x y => x < y

theorem lstI_up (s : Nat) : Up (lstI s) := by
  unfold Up lstI
  rw [List.pairwise_map]
  refine List.Pairwise.imp ?_ (List.Pairwise.filter _ (List.pairwise_lt_range (n := 31)))
  intro a b h; omega
theorem mem_lstI {s : Nat} (hs : s < 2 ^ 31) {x : Int} : x ∈ lstI s ↔ 0 ≤ x ∧ s.testBit x.toNat = true := by
  unfold lstI
  simp only [List.mem_map, List.mem_filter, List.mem_range]
  constructor
  · rintro ⟨i, ⟨_, h⟩, rfl⟩; exact ⟨by omega, by simpa using h⟩
  · rintro ⟨h0, h⟩
    refine ⟨x.toNat, ⟨?_, h⟩, by omega⟩
    refine Nat.lt_of_not_le fun hle => ?_
    rw [Nat.testBit_lt_two_pow (Nat.lt_of_lt_of_le hs (Nat.pow_le_pow_right (by decide) hle))] at h
    cases h
theorem up_ext : ∀ {l l' : List Int}, Up l → Up l' → (∀ x, x ∈ l ↔ x ∈ l') → l = l'
  | [], [], _, _, _ => rfl
  | [], y :: l', _, _, h => absurd ((h y).2 List.mem_cons_self) (by simp)
  | x :: l, [], _, _, h => absurd ((h x).1 List.mem_cons_self) (by simp)
  | x :: l, y :: l', h1, h2, h => by
    have h1' := List.pairwise_cons.1 h1
    have h2' := List.pairwise_cons.1 h2
    have e : x = y := by
      rcases List.mem_cons.1 ((h x).1 List.mem_cons_self) with e | hx
      · exact e
      · rcases List.mem_cons.1 ((h y).2 List.mem_cons_self) with e | hy
        · exact e.symm
        · have := h1'.1 y hy
          have := h2'.1 x hx
          omega
    subst e
    rw [up_ext h1'.2 h2'.2 fun z => ?_]
    constructor
    · intro hz
      rcases List.mem_cons.1 ((h z).1 (List.mem_cons_of_mem _ hz)) with e | hz'
      · exact absurd (h1'.1 z hz) (by omega)
      · exact hz'
    · intro hz
      rcases List.mem_cons.1 ((h z).2 (List.mem_cons_of_mem _ hz)) with e | hz'
      · exact absurd (h2'.1 z hz) (by omega)
      · exact hz'

theorem lstI_and {s s' : Nat} (h : s < 2 ^ 31) (h' : s' < 2 ^ 31) : (lstI s).filter (fun x => decide (x ∈ lstI s')) = lstI (s &&& s') := by
  refine up_ext (List.Pairwise.filter _ (lstI_up s)) (lstI_up _) fun x => ?_
  rw [List.mem_filter, decide_eq_true_eq, mem_lstI h, mem_lstI h', mem_lstI (Nat.lt_of_le_of_lt Nat.and_le_left h), Nat.testBit_and, Bool.and_eq_true]
  exact ⟨fun h => ⟨h.1.1, h.1.2, h.2.2⟩, fun h => ⟨⟨h.1, h.2.1⟩, h.1, h.2.2⟩⟩

/-- The only point of a set, or -1. -/
def oneS (s : Nat) : Int := if (lstI s).length = 1 then (lstI s).getD 0 0 else -1
theorem one_nn {s : Nat} : 0 ≤ oneS s ↔ (lstI s).length = 1 := by
  unfold oneS
  constructor
  · intro h
    by_cases h1 : (lstI s).length = 1
    · exact h1
    · rw [if_neg h1] at h; omega
  · intro h
    rw [if_pos h]
    match hl : lstI s, h with
    | [x], _ =>
      have : x ∈ lstI s := by rw [hl]; exact List.mem_cons_self
      unfold lstI at this
      obtain ⟨i, _, rfl⟩ := List.mem_map.1 this
      simp

/-- Three sets that share pairwise oneS point; which. -/
def Mg (x y z a b c : Int) : Prop := (0 ≤ x ∧ 0 ≤ y ∧ 0 ≤ z) ∧ (x ≠ y ∧ y ≠ z ∧ x ≠ z) ∧ z = a ∧ x = b ∧ y = c
def MgT (t0 t1 t2 : Tree) (a b c : Int) : Prop := Mg (oneS (bset t0 &&& bset t1)) (oneS (bset t1 &&& bset t2)) (oneS (bset t0 &&& bset t2)) a b c
/-- All merges are right. -/
def Rt : Tree → Prop
  | .lf => True
  | .nd a b c m f => m = 0 ∨ (m = 3 ∧ (∀ i, i < 3 → Rt (f i)) ∧ MgT (f 0) (f 1) (f 2) a b c)
/-- As the reference asks it: bars ascend, too. -/
def Bo : Tree → Prop
  | .lf => False
  | .nd a b c m f => (m = 0 ∧ a < b) ∨ (m = 3 ∧ MgT (f 0) (f 1) (f 2) a b c ∧ ∀ i, i < 3 → Bo (f i))

theorem bo_iff : ∀ t : Tree, Bo t ↔ Rt t ∧ ∀ e ∈ bars t, e.1 < e.2
  | .lf => by simp [Bo, bars]
  | .nd a b c m f => by
    rw [Bo, Rt, bars]
    by_cases h : m = 0
    · simp [h]
    · rw [if_neg h]
      simp only [h, false_and, false_or, List.mem_flatMap, List.mem_range]
      constructor
      · rintro ⟨rfl, h1, h2⟩
        refine ⟨⟨rfl, fun i hi => ((bo_iff (f i)).1 (h2 i hi)).1, h1⟩, ?_⟩
        rintro e ⟨i, hi, he⟩
        exact ((bo_iff (f i)).1 (h2 i hi)).2 e he
      · rintro ⟨⟨rfl, h1, h2⟩, h3⟩
        exact ⟨rfl, h2, fun i hi => (bo_iff (f i)).2 ⟨h1 i hi, fun e he => h3 e ⟨i, hi, he⟩⟩⟩

/-! ### Sorted bars. -/
instance : DecidableRel lt := fun a b => by unfold Go.Gra.lt; infer_instance
def leE (x y : E) : Bool := !decide (lt y x)
def srtE (l : List E) : List E := l.mergeSort leE
theorem srtE_perm (l : List E) : (srtE l).Perm l := List.mergeSort_perm ..
theorem leE_trans (x y z : E) (h : leE x y = true) (h' : leE y z = true) : leE x z = true := by
  unfold leE at *
  simp only [Bool.not_eq_true', decide_eq_false_iff_not] at *
  unfold Go.Gra.lt at *
  omega
theorem leE_total (x y : E) : (leE x y || leE y x) = true := by
  unfold leE
  simp only [Bool.or_eq_true, Bool.not_eq_true', decide_eq_false_iff_not]
  unfold Go.Gra.lt
  omega
theorem srtE_sorted (l : List E) : (srtE l).Pairwise fun x y => leE x y = true := List.pairwise_mergeSort leE_trans leE_total l
theorem asc_nodup {l : List E} (h : Asc l) : l.Nodup := by
  unfold List.Nodup
  refine List.Pairwise.imp ?_ h
  intro a b hab e
  rw [e] at hab
  exact Go.Gra.lt_irrefl _ hab
theorem srtE_eq {l es : List E} (h : Asc es) : srtE l = es ↔ l.Perm es := by
  constructor
  · intro e
    rw [← e]
    exact (srtE_perm l).symm
  · intro hp
    refine List.Perm.eq_of_pairwise ?_ (srtE_sorted l) (List.Pairwise.imp ?_ h) ((srtE_perm l).trans hp)
    · intro a b _ _ h1 h2
      unfold leE at h1 h2
      simp only [Bool.not_eq_true', decide_eq_false_iff_not] at h1 h2
      unfold Go.Gra.lt at h1 h2
      exact Prod.ext (by omega) (by omega)
    · intro a b hab
      unfold leE
      simp only [Bool.not_eq_true', decide_eq_false_iff_not]
      intro h'
      exact Go.Gra.lt_irrefl a (Go.Gra.lt_trans hab h')


/-! ### The law. -/
/-- The edges of a graph, as a list. -/
def esL (m : Nat) (f : Nat → E) : List E := (List.range m).map f
theorem gv_asc {n most : Int} {m : Nat} {f : Nat → E} (h : GV n most m f) : Asc (esL m f) := Go.Gra.asc_of fun i hi h0 => (h.2.2 i hi).2.2.2 h0
theorem gv_mem {n most : Int} {m : Nat} {f : Nat → E} (h : GV n most m f) {e : E} (he : e ∈ esL m f) : 0 ≤ e.1 ∧ e.1 < e.2 ∧ e.2 < n := by
  obtain ⟨i, hi, rfl⟩ := List.mem_map.1 he
  obtain ⟨h1, h2, h3, _⟩ := h.2.2 i (List.mem_range.1 hi)
  exact ⟨h1, h2, h3⟩

theorem lst_full : ∀ n : Nat, n ≤ 12 → lstI (2 ^ n - 1) = (List.range n).map fun (i : Nat) => (i : Int) := by decide +kernel

theorem sub_full {n : Nat} (hn : n ≤ 31) {s : Nat} (hs : s < 2 ^ 31) (h : ∀ k, s.testBit k = true → k < n) : (lstI s).length = n ↔ s = 2 ^ n - 1 := by
  have hle : (lstI s).Sublist ((List.range n).map fun (i : Nat) => (i : Int)) := by
    unfold lstI
    refine List.Sublist.map _ ?_
    have e : (List.range 31).filter (fun i => s.testBit i) = (List.range n).filter fun i => s.testBit i := by
      have : List.range 31 = List.range n ++ (List.range (31 - n)).map (n + ·) := by rw [← List.range_add]; congr 1; omega
      rw [this, List.filter_append]
      have : ((List.range (31 - n)).map (n + ·)).filter (fun i => s.testBit i) = [] := by
        rw [List.filter_eq_nil_iff]
        intro x hx
        obtain ⟨y, _, rfl⟩ := List.mem_map.1 hx
        intro hb
        have := h _ hb
        omega
      rw [this, List.append_nil]
    rw [e]
    exact List.filter_sublist
  constructor
  · intro hl
    have e := hle.eq_of_length (by rw [hl]; simp)
    refine Nat.eq_of_testBit_eq fun k => ?_
    rw [Nat.testBit_two_pow_sub_one]
    by_cases hk : k < n
    · have : (k : Int) ∈ lstI s := by rw [e]; exact List.mem_map.2 ⟨k, List.mem_range.2 hk, rfl⟩
      have := ((mem_lstI hs).1 this).2
      simpa [hk] using this
    · cases hb : s.testBit k with
      | false => simp [hk]
      | true => exact absurd (h k hb) hk
  · rintro rfl
    have : ((List.range n).map fun (i : Nat) => (i : Int)) = lstI (2 ^ n - 1) := by
      refine up_ext ?_ (lstI_up _) fun x => ?_
      · unfold Up
        rw [List.pairwise_map]
        exact List.Pairwise.imp (fun {a b} h => by omega) (List.pairwise_lt_range (n := n))
      · rw [mem_lstI hs, Nat.testBit_two_pow_sub_one]
        simp only [List.mem_map, List.mem_range, decide_eq_true_eq]
        constructor
        · rintro ⟨i, hi, rfl⟩; exact ⟨by omega, by omega⟩
        · rintro ⟨h0, hx⟩; exact ⟨x.toNat, hx, by omega⟩
    rw [← this]
    simp

theorem sub_perm : ∀ {l l' : List E}, l.Nodup → (∀ e ∈ l, e ∈ l') → l'.length ≤ l.length → l.Perm l'
  | [], [], _, _, _ => .nil
  | [], _ :: _, _, _, h => absurd h (by simp)
  | x :: l, l', hd, hm, hl => by
    have hd' := List.nodup_cons.1 hd
    have hx := hm x List.mem_cons_self
    have hp := List.perm_cons_erase hx
    refine (List.Perm.cons x (sub_perm hd'.2 (fun e he => ?_) ?_)).trans hp.symm
    · exact (List.mem_erase_of_ne (show e ≠ x from fun h => hd'.1 (by rw [← h]; exact he))).2 (hm e (List.mem_cons_of_mem _ he))
    · have := hp.length_eq
      simp only [List.length_cons] at this hl
      omega
theorem valid_iff {t : Tree} (ht : Fit t) {n : Int} {m : Nat} {f : Nat → E} (g : GV n 12 m f) :
    (srtE (bars t) = esL m f ∧ ((lstI (bset t)).length : Int) = n ∧ Rt t) ↔ (Bo t ∧ (bars t).length = m ∧ (bset t : Int) = 2 ^ n.toNat - 1 ∧ (∀ e ∈ bars t, e ∈ esL m f) ∧ (bars t).Nodup) := by
  obtain ⟨k, rfl⟩ : ∃ k : Nat, n = k := ⟨n.toNat, by have := g.1; omega⟩
  have hk : k ≤ 12 := by have := g.2.1; omega
  have nd := asc_nodup (gv_asc g)
  have el : (esL m f).length = m := by simp [esL]
  have full : (∀ e ∈ bars t, e ∈ esL m f) → ((lstI (bset t)).length = k ↔ bset t = 2 ^ k - 1) := fun hm => sub_full (by omega) (bset_lt t ht) fun j hj => by
    obtain ⟨e, he, hx⟩ := mem_endsL.1 ((bset_iff t ht j).1 hj)
    have := gv_mem g (hm e he)
    omega
  have p1 : 1 ≤ 2 ^ k := Nat.one_le_two_pow
  have cast : (bset t : Int) = 2 ^ ((k : Int).toNat) - 1 ↔ bset t = 2 ^ k - 1 := by
    rw [Int.toNat_natCast]
    have : ((2 : Int) ^ k) = ((2 ^ k : Nat) : Int) := by push_cast; rfl
    rw [this]
    omega
  rw [srtE_eq (gv_asc g), bo_iff, cast]
  constructor
  · rintro ⟨hp, hl, hr⟩
    have hm : ∀ e ∈ bars t, e ∈ esL m f := fun e he => hp.mem_iff.1 he
    exact ⟨⟨hr, fun e he => (gv_mem g (hm e he)).2.1⟩, by rw [hp.length_eq, el], (full hm).1 (by omega), hm, hp.nodup_iff.2 nd⟩
  · rintro ⟨⟨hr, _⟩, hl, hb, hm, hd⟩
    refine ⟨?_, by rw [(full hm).2 hb], hr⟩
    exact sub_perm hd hm (by omega)

end Go.Tre

/-! ## FnYp -/
namespace Go.Proofs.YthfekehoehdkoaaGreat
open Go Go.Eng Go.Gra Go.Tre

/-! ### The program: the only common point of lists. -/
set_option maxRecDepth 10000 in
theorem iIndexZ {xs : List Int} {z r : Int} (hl : xs.length < 2 ^ 40) (h1 : (∀ i, i < xs.length → xs.getD i 0 ≠ z) → r = -1) (h2 : ∀ i : Nat, i < xs.length → xs.getD i 0 = z → (∀ j, j < i → xs.getD j 0 ≠ z) → r = i) :
    PureCalls Tryz.prog 218 [.one (.ints .i64 xs), .one (.int .i64 z)] (.one (.int .i64 r)) := by
  refine pure_of_vc T_ok mixed Tryz.func218 rfl (by decide) _ (by simp [Tryz.ntmps218]) ⟨[0, 1, 4, 5, 7, 8, 9, 16], []⟩ (by kernel_rfl) _ ?_
  show vc T Tryz.prog ⟨[0, 1, 4, 5, 7, 8, 9, 16], []⟩ (Option.get! Tryz.f218.body) _ _
  simp only [Tryz.f218, Tryz.ntmps218, Option.get!, initSt, initM, envOf, Nat.reduceAdd]
  simp only [vx, T, seval]
  refine LoopK.go (fun y : {i : Nat // i ≤ xs.length ∧ ∀ j, j < i → xs.getD j 0 ≠ z} => ⟨[(0, .one (.ints .i64 xs)), (1, .one (.int .i64 z)), (7, .one (.int .i64 xs.length)), (8, .one (.int .i64 y.1))], [], 1, 19⟩) (fun y => xs.length - y.1) ⟨0, Nat.zero_le _, fun j hj => absurd hj (Nat.not_lt_zero _)⟩ ?_ (fun ⟨i, hi, hb⟩ => ?_)
  · refine Sub.auto ?_; simp only [rx, envRen, vRen, cRen, lRen, ownRen, bRen, apartRen, emptyBk, ren, seval, autoR, autoOne, Int.natCast_add, Int.natCast_one, Int.natCast_zero]
  simp only
  have wi : IntKind.i64.wrap ((i : Int) + 1) = ((i + 1 : Nat) : Int) := by rw [IntWalk.i64_in _ (by omega)]; omega
  simp only [vx, T, seval]
  refine ⟨fun g => Later.go ?_, fun g => Later.go ?_⟩
  · simp only [vx, T, seval]
    refine ⟨by omega, ?_⟩
    refine ⟨fun g2 => Later.go ?_, fun g2 => Later.go ?_⟩
    · have e := h2 i (by omega) g2.symm hb
      simp only [vx, T, seval]
      exact VLe.of_eq (by rw [e])
    · simp only [vx, T, seval, wi]
      refine loopQ.go ⟨i + 1, by omega, fun j hj => ?_⟩ ?_ (by show xs.length - (i + 1) < xs.length - i; omega)
      · by_cases e : j = i
        · rw [e]; exact fun h => g2 h.symm
        · exact hb j (by omega)
      · refine Sub.auto ?_; simp only [rx, envRen, vRen, cRen, lRen, ownRen, bRen, apartRen, emptyBk, ren, seval, autoR, autoOne, Int.natCast_add, Int.natCast_one, Int.natCast_zero]
  · have e := h1 fun j hj => hb j (by omega)
    simp only [vx, T, seval]
    exact VLe.of_eq (by rw [e])
theorem mem_iff_getD {xs : List Int} {z : Int} : z ∈ xs ↔ ∃ i, i < xs.length ∧ xs.getD i 0 = z := by
  constructor
  · intro h
    obtain ⟨i, hi, rfl⟩ := List.mem_iff_getElem.1 h
    exact ⟨i, hi, by rw [List.getD_eq_getElem?_getD, List.getElem?_eq_getElem hi]; rfl⟩
  · rintro ⟨i, hi, rfl⟩
    rw [List.getD_eq_getElem?_getD, List.getElem?_eq_getElem hi]
    exact List.getElem_mem _
theorem iContainsZ {xs : List Int} {z : Int} (hl : xs.length < 2 ^ 40) : PureCalls Tryz.prog 185 [.one (.ints .i64 xs), .one (.int .i64 z)] (.one (.bool (decide (z ∈ xs)))) := by
  obtain ⟨r, hr, hk⟩ : ∃ r : Int, decide (r ≥ 0) = decide (z ∈ xs) ∧ PureCalls Tryz.prog 218 [.one (.ints .i64 xs), .one (.int .i64 z)] (.one (.int .i64 r)) := by
    rcases first_or (fun i => decide (xs.getD i 0 = z)) xs.length with h | ⟨i, h4, h5, h6⟩
    · have hn : ∀ i, i < xs.length → xs.getD i 0 ≠ z := fun i hi => of_decide_eq_false (h i hi)
      refine ⟨-1, ?_, iIndexZ hl (fun _ => rfl) fun i hi hp _ => absurd hp (hn i hi)⟩
      exact decide_eq_decide.2 ⟨fun h => absurd h (by decide), fun h => by obtain ⟨i, hi, e⟩ := mem_iff_getD.1 h; exact absurd e (hn i hi)⟩
    · have h5 := of_decide_eq_true h5
      refine ⟨i, ?_, iIndexZ hl (fun h => absurd h5 (h i h4)) fun j hj hp hb => ?_⟩
      · exact decide_eq_decide.2 ⟨fun _ => mem_iff_getD.2 ⟨i, h4, h5⟩, fun _ => by omega⟩
      · by_cases e : i < j
        · exact absurd h5 (hb i e)
        · by_cases e2 : j < i
          · exact absurd hp (of_decide_eq_false (h6 j e2))
          · omega
  refine pure_of_vc T_ok mixed Tryz.func185 rfl (by decide) _ (by simp [Tryz.ntmps185]) ⟨[0, 1, 4], []⟩ (by kernel_rfl) _ ?_
  show vc T Tryz.prog ⟨[0, 1, 4], []⟩ (Option.get! Tryz.f185.body) _ _
  simp only [Tryz.f185, Tryz.ntmps185, Option.get!, initSt, initM, envOf, Nat.reduceAdd]
  simp only [vx, T, seval]
  refine CallK.go hk ?_
  simp only [vx, T, seval]
  exact VLe.of_eq (by rw [← hr])

def comP (xs ys : List Int) (k : Nat) : List Int := (xs.take k).filter fun x => decide (x ∈ ys)
theorem comP_succ (xs ys : List Int) {k : Nat} (hk : k < xs.length) : comP xs ys (k + 1) = if xs.getD k 0 ∈ ys then comP xs ys k ++ [xs.getD k 0] else comP xs ys k := by
  unfold comP
  have e : xs.take (k + 1) = xs.take k ++ [xs.getD k 0] := by
    rw [List.getD_eq_getElem?_getD, List.getElem?_eq_getElem hk, List.take_add_one, List.getElem?_eq_getElem hk]; rfl
  rw [e, List.filter_append]
  generalize xs.getD k 0 = z
  by_cases h : z ∈ ys
  · rw [if_pos h]; congr 1; simp [List.filter, h]
  · rw [if_neg h]; simp [List.filter, h]
theorem comP_len (xs ys : List Int) (k : Nat) : (comP xs ys k).length ≤ xs.length := by
  unfold comP
  exact Nat.le_trans (List.length_filter_le _ _) (by rw [List.length_take]; omega)
theorem comP_all (xs ys : List Int) : comP xs ys xs.length = xs.filter fun x => decide (x ∈ ys) := by unfold comP; rw [List.take_length]

set_option maxRecDepth 10000 in
set_option maxHeartbeats 1000000 in
theorem iCommon {xs ys : List Int} (hx : xs.length < 2 ^ 40) (hy : ys.length < 2 ^ 40) {L : List Int} (hL : L = xs.filter fun x => decide (x ∈ ys)) :
    PureCalls Tryz.prog 133 [.one (.ints .i64 xs), .one (.ints .i64 ys)] (.tup [.one (.int .i64 (if L.length = 1 then L.getD 0 0 else 0)), .one (.bool (decide (L.length = 1)))]) := by
  have all := comP_all xs ys
  rw [← hL] at all
  refine pure_of_vc T_ok mixed Tryz.func133 rfl (by decide) _ (by simp [Tryz.ntmps133]) ⟨[0, 1, 4, 5, 6, 8, 9, 10, 11, 12, 17, 25], []⟩ (by kernel_rfl) _ ?_
  show vc T Tryz.prog ⟨[0, 1, 4, 5, 6, 8, 9, 10, 11, 12, 17, 25], []⟩ (Option.get! Tryz.f133.body) _ _
  simp only [Tryz.f133, Tryz.ntmps133, Option.get!, initSt, initM, envOf, Nat.reduceAdd]
  simp only [vx, T, seval]
  refine LoopK.go (fun y : {i : Nat // i ≤ xs.length} => ⟨[(0, .one (.ints .i64 xs)), (1, .one (.ints .i64 ys)), (4, .one (.int .i64 0)), (5, .one (.bool false)), (6, .one (.own 1 1 0 (comP xs ys y.1).length)), (9, .one (.ints .i64 xs)), (10, .one (.int .i64 xs.length)), (11, .one (.int .i64 y.1))], [(1, ⟨.ints 3 .i64 (comP xs ys y.1), true⟩)], 2, 29⟩) (fun y => xs.length - y.1) ⟨0, Nat.zero_le _⟩ ?_ (fun ⟨i, hi⟩ => ?_)
  · refine Sub.auto ?_; simp only [rx, envRen, vRen, cRen, lRen, ownRen, bRen, apartRen, emptyBk, ren, seval, autoR, autoOne, Int.natCast_add, Int.natCast_one, Int.natCast_zero, comP, List.take_zero, List.filter_nil, List.length_nil]
  simp only
  have wi : IntKind.i64.wrap ((i : Int) + 1) = ((i + 1 : Nat) : Int) := by rw [IntWalk.i64_in _ (by omega)]; omega
  have ln := comP_len xs ys i
  have tk : List.take (comP xs ys i).length (comP xs ys i) = comP xs ys i := List.take_length
  simp only [vx, T, seval]
  refine ⟨fun g => Later.go ?_, fun g => Later.go ?_⟩
  · have hil : i < xs.length := by omega
    have sc := comP_succ xs ys hil
    simp only [vx, T, seval]
    refine ⟨by omega, CallK.go (iContainsZ (z := xs.getD i 0) hy) ?_⟩
    by_cases h : xs.getD i 0 ∈ ys
    · rw [if_pos h] at sc
      have fi := congrArg List.length sc
      rw [List.length_append] at fi
      rw [decide_eq_true h]
      simp only [vx, T, seval, tk, ← sc, wi]
      refine ⟨⟨by omega, by omega⟩, loopQ.go ⟨i + 1, by omega⟩ ?_ (by show xs.length - (i + 1) < xs.length - i; omega)⟩
      refine Sub.auto ?_; simp only [rx, envRen, vRen, cRen, lRen, ownRen, bRen, apartRen, emptyBk, ren, seval, autoR, autoOne, Int.natCast_add, Int.natCast_one, Int.natCast_zero]
    · rw [if_neg h] at sc
      rw [decide_eq_false h]
      simp only [vx, T, seval, wi]
      refine loopQ.go ⟨i + 1, by omega⟩ ?_ (by show xs.length - (i + 1) < xs.length - i; omega)
      refine Sub.auto ?_; simp only [rx, envRen, vRen, cRen, lRen, ownRen, bRen, apartRen, emptyBk, ren, seval, autoR, autoOne, Int.natCast_add, Int.natCast_one, Int.natCast_zero, sc]
  · obtain rfl : i = xs.length := by omega
    simp only [vx, T, seval, all]
    refine ⟨fun h => Later.go ?_, fun h => Later.go ?_⟩
    · have h1 : ¬ L.length = 1 := by omega
      simp only [vx, T, seval, all]
      exact VLe.of_eq (by rw [if_neg h1, decide_eq_false h1])
    · have h1 : L.length = 1 := by omega
      simp only [vx, T, seval, all]
      refine ⟨by omega, VLe.of_eq ?_⟩
      rw [if_pos h1, decide_eq_true h1]

set_option maxRecDepth 10000 in
theorem iListC {xs : List Int} (hl : xs.length < 2 ^ 40) (h : ∀ i, i < xs.length → 0 ≤ xs.getD i 0 ∧ (0 < i → xs.getD (i - 1) 0 < xs.getD i 0)) : PureCalls Tryz.prog 134 [.one (.ints .i64 xs)] (.one (.bool true)) := by
  refine pure_of_vc T_ok mixed Tryz.func134 rfl (by decide) _ (by simp [Tryz.ntmps134]) ⟨[0, 2, 3, 4, 5, 6, 7, 8, 26], []⟩ (by kernel_rfl) _ ?_
  show vc T Tryz.prog ⟨[0, 2, 3, 4, 5, 6, 7, 8, 26], []⟩ (Option.get! Tryz.f134.body) _ _
  simp only [Tryz.f134, Tryz.ntmps134, Option.get!, initSt, initM, envOf, Nat.reduceAdd]
  simp only [vx, T, seval]
  refine LoopK.go (fun y : {i : Nat // i ≤ xs.length} => ⟨[(0, .one (.ints .i64 xs)), (2, .one (.bool false)), (5, .one (.ints .i64 xs)), (6, .one (.int .i64 xs.length)), (7, .one (.int .i64 y.1))], [], 1, 28⟩) (fun y => xs.length - y.1) ⟨0, Nat.zero_le _⟩ ?_ (fun ⟨i, hi⟩ => ?_)
  · refine Sub.auto ?_; simp only [rx, envRen, vRen, cRen, lRen, ownRen, bRen, apartRen, emptyBk, ren, seval, autoR, autoOne, Int.natCast_add, Int.natCast_one, Int.natCast_zero]
  simp only
  have wi : IntKind.i64.wrap ((i : Int) + 1) = ((i + 1 : Nat) : Int) := by rw [IntWalk.i64_in _ (by omega)]; omega
  simp only [vx, T, seval]
  refine ⟨fun g => Later.go ?_, fun g => Later.go ?_⟩
  · obtain ⟨k1, k2⟩ := h i (by omega)
    simp only [vx, T, seval]
    refine ⟨by omega, ?_⟩
    refine ⟨fun h => absurd h (by omega), fun _ => Later.go ?_⟩
    simp only [vx, T, seval]
    refine ⟨fun h2 => Later.go ?_, fun h2 => Later.go ?_⟩
    · have wj : (IntKind.i64.wrap ((i : Int) - 1)) = ((i - 1 : Nat) : Int) := by rw [IntWalk.i64_in _ (by omega)]; omega
      have k3 := k2 (by omega)
      simp only [vx, T, seval, wj, Int.toNat_natCast]
      refine ⟨by omega, ?_⟩
      refine ⟨fun h => absurd h (by omega), fun _ => Later.go ?_⟩
      simp only [vx, T, seval, wi]
      refine loopQ.go ⟨i + 1, by omega⟩ ?_ (by show xs.length - (i + 1) < xs.length - i; omega)
      refine Sub.auto ?_; simp only [rx, envRen, vRen, cRen, lRen, ownRen, bRen, apartRen, emptyBk, ren, seval, autoR, autoOne, Int.natCast_add, Int.natCast_one, Int.natCast_zero]
    · simp only [vx, T, seval, wi]
      refine loopQ.go ⟨i + 1, by omega⟩ ?_ (by show xs.length - (i + 1) < xs.length - i; omega)
      refine Sub.auto ?_; simp only [rx, envRen, vRen, cRen, lRen, ownRen, bRen, apartRen, emptyBk, ren, seval, autoR, autoOne, Int.natCast_add, Int.natCast_one, Int.natCast_zero]
  · simp only [vx, T, seval]
    exact VLe.of_eq rfl

theorem lstI_ok (s : Nat) : (lstI s).length < 2 ^ 40 ∧ ∀ i, i < (lstI s).length → 0 ≤ (lstI s).getD i 0 ∧ (0 < i → (lstI s).getD (i - 1) 0 < (lstI s).getD i 0) := by
  have hl : (lstI s).length ≤ 31 := by
    unfold lstI
    rw [List.length_map]
    exact Nat.le_trans (List.length_filter_le _ _) (by simp)
  refine ⟨by omega, fun i hi => ⟨?_, fun h0 => ?_⟩⟩
  · have : (lstI s).getD i 0 ∈ lstI s := mem_iff_getD.2 ⟨i, hi, rfl⟩
    unfold lstI at this
    obtain ⟨k, _, e⟩ := List.mem_map.1 this
    unfold lstI
    omega
  · have := List.pairwise_iff_getElem.1 (lstI_up s) (i - 1) i (by omega) hi (by omega)
    rw [List.getD_eq_getElem?_getD, List.getD_eq_getElem?_getD, List.getElem?_eq_getElem hi, List.getElem?_eq_getElem (show i - 1 < _ by omega)]
    exact this
/-- The only common point of two sets. -/
theorem iCommonS {a b : Nat} (ha : a < 2 ^ 31) (hb : b < 2 ^ 31) : PureCalls Tryz.prog 133 [.one (.ints .i64 (lstI a)), .one (.ints .i64 (lstI b))] (.tup [.one (.int .i64 (if 0 ≤ oneS (a &&& b) then oneS (a &&& b) else 0)), .one (.bool (decide (0 ≤ oneS (a &&& b))))]) := by
  have c := iCommon (lstI_ok a).1 (lstI_ok b).1 (lstI_and ha hb).symm
  have e : decide ((lstI (a &&& b)).length = 1) = decide (0 ≤ oneS (a &&& b)) := decide_eq_decide.2 one_nn.symm
  have e2 : (if (lstI (a &&& b)).length = 1 then (lstI (a &&& b)).getD 0 0 else 0) = if 0 ≤ oneS (a &&& b) then oneS (a &&& b) else 0 := by
    by_cases h : (lstI (a &&& b)).length = 1
    · rw [if_pos h, if_pos (one_nn.2 h)]; unfold oneS; rw [if_pos h]
    · rw [if_neg h, if_neg (fun k => h (one_nn.1 k))]
  rw [e, e2] at c
  exact c

def MgO (x y z : Int) : Prop := (0 ≤ x ∧ 0 ≤ y ∧ 0 ≤ z) ∧ x ≠ y ∧ y ≠ z ∧ x ≠ z
instance (x y z : Int) : Decidable (MgO x y z) := by unfold MgO; infer_instance
set_option maxRecDepth 10000 in
set_option maxHeartbeats 2000000 in
theorem iMergeC {a b c : Nat} (ha : a < 2 ^ 31) (hb : b < 2 ^ 31) (hc : c < 2 ^ 31) {x y z : Int} (hx : x = oneS (a &&& b)) (hy : y = oneS (b &&& c)) (hz : z = oneS (a &&& c)) :
    PureCalls Tryz.prog 88 [.one (.ints .i64 (lstI a)), .one (.ints .i64 (lstI b)), .one (.ints .i64 (lstI c))]
      (.tup [.one (.int .i64 (if MgO x y z then x else 0)), .one (.int .i64 (if MgO x y z then y else 0)), .one (.int .i64 (if MgO x y z then z else 0)), .one (.bool (decide (MgO x y z)))]) := by
  have c1 := iCommonS ha hb
  have c2 := iCommonS hb hc
  have c3 := iCommonS ha hc
  rw [← hx] at c1
  rw [← hy] at c2
  rw [← hz] at c3
  have l1 := iListC (lstI_ok a).1 (lstI_ok a).2
  have l2 := iListC (lstI_ok b).1 (lstI_ok b).2
  have l3 := iListC (lstI_ok c).1 (lstI_ok c).2
  clear hx hy hz
  generalize lstI a = la at *
  generalize lstI b = bs at *
  generalize lstI c = cs at *
  have no : ¬ MgO x y z → (V.tup [.one (.int .i64 (if MgO x y z then x else 0)), .one (.int .i64 (if MgO x y z then y else 0)), .one (.int .i64 (if MgO x y z then z else 0)), .one (.bool (decide (MgO x y z)))]) = .tup [.one (.int .i64 0), .one (.int .i64 0), .one (.int .i64 0), .one (.bool false)] := fun h => by simp [h]
  have yes : MgO x y z → (V.tup [.one (.int .i64 (if MgO x y z then x else 0)), .one (.int .i64 (if MgO x y z then y else 0)), .one (.int .i64 (if MgO x y z then z else 0)), .one (.bool (decide (MgO x y z)))]) = .tup [.one (.int .i64 x), .one (.int .i64 y), .one (.int .i64 z), .one (.bool true)] := fun h => by simp [h]
  have W : ∀ R, (¬ MgO x y z → R = V.tup [.one (.int .i64 0), .one (.int .i64 0), .one (.int .i64 0), .one (.bool false)]) → (MgO x y z → R = .tup [.one (.int .i64 x), .one (.int .i64 y), .one (.int .i64 z), .one (.bool true)]) → PureCalls Tryz.prog 88 [.one (.ints .i64 la), .one (.ints .i64 bs), .one (.ints .i64 cs)] R := by
    intro R no yes
    unfold MgO at no yes
    by_cases hp : 0 ≤ x ∧ 0 ≤ y ∧ 0 ≤ z
    · obtain ⟨x0, y0, z0⟩ := hp
      simp only [x0, y0, z0, if_true, if_false, decide_true, decide_false] at c1 c2 c3
      refine pure_of_vc T_ok mixed Tryz.func88 rfl (by decide) _ (by simp [Tryz.ntmps88]) ⟨[0, 1, 2, 6, 7, 8, 9, 10, 11, 12, 13, 14, 15, 73], []⟩ (by kernel_rfl) _ ?_
      show vc T Tryz.prog ⟨[0, 1, 2, 6, 7, 8, 9, 10, 11, 12, 13, 14, 15, 73], []⟩ (Option.get! Tryz.f88.body) _ _
      simp only [Tryz.f88, Tryz.ntmps88, Option.get!, initSt, initM, envOf, Nat.reduceAdd]
      simp only [vx, T, seval]
      refine CallK.go c1 ?_
      simp only [vx, T, seval]
      refine CallK.go c2 ?_
      simp only [vx, T, seval]
      refine CallK.go c3 ?_
      simp only [vx, T, seval]
      refine ⟨fun d => Later.go ?_, fun d1 => Later.go ?_⟩
      · simp only [vx, T, seval]
        exact VLe.of_eq (no (by omega)).symm
      simp only [vx, T, seval]
      refine ⟨fun d => Later.go ?_, fun d2 => Later.go ?_⟩
      · simp only [vx, T, seval]
        exact VLe.of_eq (no (by omega)).symm
      simp only [vx, T, seval]
      refine ⟨fun d => Later.go ?_, fun d3 => Later.go ?_⟩
      · simp only [vx, T, seval]
        exact VLe.of_eq (no (by omega)).symm
      simp only [vx, T, seval]
      refine CallK.go l1 ?_
      simp only [vx, T, seval]
      refine CallK.go l2 ?_
      simp only [vx, T, seval]
      refine CallK.go l3 ?_
      simp only [vx, T, seval]
      exact VLe.of_eq (yes (by omega)).symm
    · have nn := no (by omega)
      by_cases x0 : 0 ≤ x <;> by_cases y0 : 0 ≤ y <;> by_cases z0 : 0 ≤ z
      · exact absurd ⟨x0, y0, z0⟩ hp
      all_goals
        simp only [x0, y0, z0, if_true, if_false, decide_true, decide_false] at c1 c2 c3
        refine pure_of_vc T_ok mixed Tryz.func88 rfl (by decide) _ (by simp [Tryz.ntmps88]) ⟨[0, 1, 2, 6, 7, 8, 9, 10, 11, 12, 13, 14, 15, 73], []⟩ (by kernel_rfl) _ ?_
        show vc T Tryz.prog ⟨[0, 1, 2, 6, 7, 8, 9, 10, 11, 12, 13, 14, 15, 73], []⟩ (Option.get! Tryz.f88.body) _ _
        simp only [Tryz.f88, Tryz.ntmps88, Option.get!, initSt, initM, envOf, Nat.reduceAdd]
        simp only [vx, T, seval]
        refine CallK.go c1 ?_
        simp only [vx, T, seval]
        refine CallK.go c2 ?_
        simp only [vx, T, seval]
        refine CallK.go c3 ?_
        simp only [vx, T, seval]
        exact VLe.of_eq nn.symm
  exact W _ no yes
end Go.Proofs.YthfekehoehdkoaaGreat

/-! ## FnYh -/
namespace Go.Proofs.YthfekehoehdkoaaGreat
open Go Go.Eng Go.Gra Go.Tre

/-! ### Trees, by content; the number of their merges. -/
def tc : Tree → Nat → C
  | .lf, j => if j = 3 then .any else .int .i64 0
  | .nd a b c m f, j => if j = 0 then .int .i64 a else if j = 1 then .int .i64 b else if j = 2 then .int .i64 c else .rows 4 m (fun i k => tc (f i) k)
theorem tc0 (t : Tree) : tc t 0 = .int .i64 t.a := by cases t <;> rfl
theorem tc1 (t : Tree) : tc t 1 = .int .i64 t.b := by cases t <;> rfl
theorem tc2 (t : Tree) : tc t 2 = .int .i64 t.c := by cases t <;> rfl
theorem tc3 {t : Tree} (h : Whole t) : tc t 3 = .rows 4 t.m (fun i k => tc (t.f i) k) := by
  cases t with
  | lf => exact h.elim
  | nd => rfl
/-- A tree as an argument. -/
def tA (t : Tree) : List C := [.int .i64 t.a, .int .i64 t.b, .int .i64 t.c, .rows 4 t.m (fun i k => tc (t.f i) k)]

theorem tree_ind {Q : Tree → Prop} (h : ∀ t : Tree, (∀ i, i < t.m → Q (t.f i)) → Q t) : ∀ t, Q t
  | .lf => h .lf fun _ hi => absurd hi (Nat.not_lt_zero _)
  | .nd a b c m f => h (.nd a b c m f) fun i _ => tree_ind h (f i)
theorem tree_all {Q : Tree → Prop} (h0 : Q .lf) (h : ∀ t : Tree, (∀ i, Q (t.f i)) → Q t) : ∀ t, Q t
  | .lf => h0
  | .nd a b c m f => h (.nd a b c m f) fun i => tree_all h0 h (f i)

def psum (g : Nat → Nat) (k : Nat) : Nat := ((List.range k).map g).sum
theorem psum_succ (g : Nat → Nat) (k : Nat) : psum g (k + 1) = psum g k + g k := by
  unfold psum
  rw [List.range_succ, List.map_append, List.sum_append]
  simp
theorem psum_mono (g : Nat → Nat) {i k : Nat} (h : i ≤ k) : psum g i ≤ psum g k := by
  induction k with
  | zero => obtain rfl : i = 0 := by omega
            exact Nat.le_refl _
  | succ k ih =>
    by_cases e : i = k + 1
    · rw [e]; exact Nat.le_refl _
    · rw [psum_succ]; have := ih (by omega); omega
theorem psum_one (g : Nat → Nat) (h : ∀ i, 1 ≤ g i) : ∀ k, k ≤ psum g k
  | 0 => Nat.zero_le _
  | k + 1 => by rw [psum_succ]; have := psum_one g h k; have := h k; omega
theorem nodes_eq (t : Tree) : nodes t = if t.m = 0 then 1 else 1 + psum (fun i => nodes (t.f i)) t.m := by cases t <;> rfl
theorem merges_eq (t : Tree) : merges t = if t.m = 0 then 0 else 1 + psum (fun i => merges (t.f i)) t.m := by cases t <;> rfl
theorem nodes_pos (t : Tree) : 1 ≤ nodes t := by rw [nodes_eq]; split <;> omega
theorem nodes_part {t : Tree} {i : Nat} (hi : i < t.m) : nodes (t.f i) < nodes t := by
  rw [nodes_eq t, if_neg (by omega)]
  have := psum_mono (fun i => nodes (t.f i)) (show i + 1 ≤ t.m by omega)
  rw [psum_succ] at this
  omega
theorem nodes_m (t : Tree) : t.m ≤ nodes t := by
  rw [nodes_eq]
  have := psum_one (fun i => nodes (t.f i)) (fun i => nodes_pos _) t.m
  split <;> omega
theorem merges_nodes : ∀ t : Tree, merges t ≤ nodes t := tree_all (Nat.zero_le _) fun t ih => by
  rw [merges_eq, nodes_eq]
  have : psum (fun i => merges (t.f i)) t.m ≤ psum (fun i => nodes (t.f i)) t.m := by
    generalize t.m = k
    induction k with
    | zero => exact Nat.le_refl _
    | succ k ihk => rw [psum_succ, psum_succ]; have := ih k; omega
  split <;> omega

set_option maxRecDepth 10000 in
theorem rMerges : ∀ t : Tree, Whole t → nodes t < 2 ^ 40 → PureCalls Tryz.prog 14 [.agg (tA t)] (.one (.int .i64 (merges t : Nat))) := tree_ind fun t ih gd hn => by
  have hm := nodes_m t
  have hmn := merges_nodes t
  have e := merges_eq t
  refine pure_of_vc T_ok mixed Tryz.func14 rfl (by decide) _ (by simp [Tryz.ntmps14]) ⟨[0, 1, 2, 3, 4, 8, 13], []⟩ (by kernel_rfl) _ ?_
  show vc T Tryz.prog ⟨[0, 1, 2, 3, 4, 8, 13], []⟩ (Option.get! Tryz.f14.body) _ _
  simp only [Tryz.f14, Tryz.ntmps14, Option.get!, initSt, initM, envOf, Nat.reduceAdd]
  simp only [vx, T, seval, tA]
  refine ⟨fun h => Later.go ?_, fun h => Later.go ?_⟩
  · simp only [vx, T, seval, tA]
    exact VLe.of_eq (by rw [e, if_pos (by omega)]; rfl)
  rw [if_neg (by omega)] at e
  simp only [vx, T, seval, tA]
  refine LoopK.go (fun y : {i : Nat // i ≤ t.m} => ⟨[(0, .agg (tA t)), (1, .one (.ptr 1 0)), (2, .one (.int .i64 0)), (3, .one (.int .i64 ((1 + psum (fun i => merges (t.f i)) y.1 : Nat) : Int))), (4, .one (.int .i64 y.1))], [(1, ⟨.var (tA t), true⟩)], 2, 25⟩) (fun y => t.m - y.1) ⟨0, Nat.zero_le _⟩ ?_ (fun ⟨i, hi⟩ => ?_)
  · refine Sub.auto ?_; simp only [rx, envRen, vRen, cRen, lRen, ownRen, bRen, apartRen, emptyBk, ren, seval, autoR, autoOne, Int.natCast_add, Int.natCast_one, Int.natCast_zero, tA, psum, List.range_zero, List.map_nil, List.sum_nil]
  simp only
  have wi : IntKind.i64.wrap ((i : Int) + 1) = ((i + 1 : Nat) : Int) := by rw [IntWalk.i64_in _ (by omega)]; omega
  simp only [vx, T, seval, tA]
  refine ⟨fun g => Later.go ?_, fun g => Later.go ?_⟩
  · have hp := psum_mono (fun i => merges (t.f i)) (show i + 1 ≤ t.m by omega)
    have hs := psum_succ (fun i => merges (t.f i)) i
    obtain ⟨p0, e0⟩ : ∃ p0, p0 = psum (fun i => merges (t.f i)) i := ⟨_, rfl⟩
    obtain ⟨p1, e1⟩ : ∃ p1, p1 = psum (fun i => merges (t.f i)) (i + 1) := ⟨_, rfl⟩
    rw [← e0, ← e1] at hs
    rw [← e1] at hp
    have ws : IntKind.i64.wrap (((1 + p0 : Nat) : Int) + ((merges (t.f i) : Nat) : Int)) = ((1 + p1 : Nat) : Int) := by rw [IntWalk.i64_in _ (by omega)]; omega
    have gi := gd.part (i := i) (by omega)
    have t3 := tc3 gi
    simp only [vx, T, seval, tA, tc0, tc1, tc2, t3, ← e0]
    refine ⟨by omega, CallK.go (ih i (by omega) gi (by have := nodes_part (t := t) (i := i) (by omega); omega)) ?_⟩
    simp only [vx, T, seval, tA, ws, wi]
    refine loopQ.go ⟨i + 1, by omega⟩ ?_ (by show t.m - (i + 1) < t.m - i; omega)
    refine Sub.auto ?_; simp only [rx, envRen, vRen, cRen, lRen, ownRen, bRen, apartRen, emptyBk, ren, seval, autoR, autoOne, Int.natCast_add, Int.natCast_one, Int.natCast_zero, tA, ← e1]
  · obtain rfl : i = t.m := by omega
    simp only [vx, T, seval, tA]
    exact VLe.of_eq (by rw [e])
set_option maxRecDepth 10000 in
theorem iMerges : ∀ t : Tree, Whole t → nodes t < 2 ^ 40 → PureCalls Tryz.prog 13 [.agg (tA t)] (.one (.int .i64 (merges t : Nat))) := tree_ind fun t ih gd hn => by
  have hm := nodes_m t
  have hmn := merges_nodes t
  have e := merges_eq t
  refine pure_of_vc T_ok mixed Tryz.func13 rfl (by decide) _ (by simp [Tryz.ntmps13]) ⟨[0, 1, 2, 3, 5, 9, 11, 12, 13, 14], []⟩ (by kernel_rfl) _ ?_
  show vc T Tryz.prog ⟨[0, 1, 2, 3, 5, 9, 11, 12, 13, 14], []⟩ (Option.get! Tryz.f13.body) _ _
  simp only [Tryz.f13, Tryz.ntmps13, Option.get!, initSt, initM, envOf, Nat.reduceAdd]
  simp only [vx, T, seval, tA]
  refine ⟨fun h => Later.go ?_, fun h => Later.go ?_⟩
  · simp only [vx, T, seval, tA]
    exact VLe.of_eq (by rw [e, if_pos (by omega)]; rfl)
  rw [if_neg (by omega)] at e
  simp only [vx, T, seval, tA]
  refine LoopK.go (fun y : {i : Nat // i ≤ t.m} => ⟨[(0, .agg (tA t)), (1, .one (.ptr 1 0)), (2, .one (.int .i64 0)), (3, .one (.int .i64 ((1 + psum (fun i => merges (t.f i)) y.1 : Nat) : Int))), (11, .one (.rows 4 t.m (fun i k => tc (t.f i) k))), (12, .one (.int .i64 t.m)), (13, .one (.int .i64 y.1))], [(1, ⟨.var (tA t), true⟩)], 2, 23⟩) (fun y => t.m - y.1) ⟨0, Nat.zero_le _⟩ ?_ (fun ⟨i, hi⟩ => ?_)
  · refine Sub.auto ?_; simp only [rx, envRen, vRen, cRen, lRen, ownRen, bRen, apartRen, emptyBk, ren, seval, autoR, autoOne, Int.natCast_add, Int.natCast_one, Int.natCast_zero, tA, psum, List.range_zero, List.map_nil, List.sum_nil]
  simp only
  have wi : IntKind.i64.wrap ((i : Int) + 1) = ((i + 1 : Nat) : Int) := by rw [IntWalk.i64_in _ (by omega)]; omega
  simp only [vx, T, seval, tA]
  refine ⟨fun g => Later.go ?_, fun g => Later.go ?_⟩
  · have hp := psum_mono (fun i => merges (t.f i)) (show i + 1 ≤ t.m by omega)
    have hs := psum_succ (fun i => merges (t.f i)) i
    obtain ⟨p0, e0⟩ : ∃ p0, p0 = psum (fun i => merges (t.f i)) i := ⟨_, rfl⟩
    obtain ⟨p1, e1⟩ : ∃ p1, p1 = psum (fun i => merges (t.f i)) (i + 1) := ⟨_, rfl⟩
    rw [← e0, ← e1] at hs
    rw [← e1] at hp
    have ws : IntKind.i64.wrap (((1 + p0 : Nat) : Int) + ((merges (t.f i) : Nat) : Int)) = ((1 + p1 : Nat) : Int) := by rw [IntWalk.i64_in _ (by omega)]; omega
    have gi := gd.part (i := i) (by omega)
    have t3 := tc3 gi
    simp only [vx, T, seval, tA, tc0, tc1, tc2, t3, ← e0]
    refine ⟨by omega, CallK.go (ih i (by omega) gi (by have := nodes_part (t := t) (i := i) (by omega); omega)) ?_⟩
    simp only [vx, T, seval, tA, ws, wi]
    refine loopQ.go ⟨i + 1, by omega⟩ ?_ (by show t.m - (i + 1) < t.m - i; omega)
    refine Sub.auto ?_; simp only [rx, envRen, vRen, cRen, lRen, ownRen, bRen, apartRen, emptyBk, ren, seval, autoR, autoOne, Int.natCast_add, Int.natCast_one, Int.natCast_zero, tA, ← e1]
  · obtain rfl : i = t.m := by omega
    simp only [vx, T, seval, tA]
    exact VLe.of_eq (by rw [e])
end Go.Proofs.YthfekehoehdkoaaGreat

/-! ## FnYi -/
namespace Go.Proofs.YthfekehoehdkoaaGreat
open Go Go.Eng Go.Gra Go.Tre

/-! ### The bars of a tree. -/
/-- Edges, by content. -/
def eR (l : List E) : Nat → Nat → C := fun i j => .int .i64 (if j = 0 then (l.getD i (0, 0)).1 else (l.getD i (0, 0)).2)
theorem eR_app (l l' : List E) : (fun i j => if i < l.length then eR l i j else eR l' (i - l.length) j) = eR (l ++ l') := by
  funext i j
  unfold eR
  simp only [List.getD_eq_getElem?_getD]
  by_cases h : i < l.length
  · rw [if_pos h, List.getElem?_append_left h]
  · rw [if_neg h, List.getElem?_append_right (by omega)]

def barsP (t : Tree) (k : Nat) : List E := (List.range k).flatMap fun i => bars (t.f i)
theorem barsP_succ (t : Tree) (k : Nat) : barsP t (k + 1) = barsP t k ++ bars (t.f k) := by
  unfold barsP
  rw [List.range_succ, List.flatMap_append]
  simp
theorem bars_eq (t : Tree) : bars t = if t.m = 0 then [(t.a, t.b)] else barsP t t.m := by cases t <;> rfl
theorem bars_len : ∀ t : Tree, (bars t).length ≤ nodes t := tree_all (Nat.le_refl _) fun t ih => by
  rw [bars_eq, nodes_eq]
  have : ∀ k, (barsP t k).length ≤ psum (fun i => nodes (t.f i)) k := fun k => by
    induction k with
    | zero => simp [barsP]
    | succ k ihk => rw [barsP_succ, psum_succ, List.length_append]; have := ih k; omega
  have := this t.m
  split
  · simp
  · omega
theorem barsP_len (t : Tree) (k : Nat) (h : k ≤ t.m) (h0 : t.m ≠ 0) : (barsP t k).length ≤ nodes t := by
  have : (barsP t k).length ≤ psum (fun i => nodes (t.f i)) k := by
    clear h
    induction k with
    | zero => simp [barsP]
    | succ k ihk => rw [barsP_succ, psum_succ, List.length_append]; have := bars_len (t.f k); omega
  have h2 := psum_mono (fun i => nodes (t.f i)) h
  rw [nodes_eq, if_neg h0]
  omega

set_option maxRecDepth 10000 in
set_option maxHeartbeats 1000000 in
theorem iBars : ∀ t : Tree, Whole t → nodes t < 2 ^ 40 → FreshCalls Tryz.prog 27 [.agg (tA t)] (.rows 37 2 (bars t).length (eR (bars t))) := tree_ind fun t ih gd hn => by
  have hm := nodes_m t
  have e := bars_eq t
  obtain ⟨l, hl⟩ : ∃ l, l = bars t := ⟨_, rfl⟩
  rw [← hl] at e ⊢
  refine fresh_of_vc T_ok mixed Tryz.func27 rfl (by decide) _ (by simp [Tryz.ntmps27]) ⟨[0, 1, 2, 3, 5, 9, 17, 18, 19, 20], []⟩ (by kernel_rfl) (.rows 37 2 l.length (eR l)) trivial ?_
  show vc T Tryz.prog ⟨[0, 1, 2, 3, 5, 9, 17, 18, 19, 20], []⟩ (Option.get! Tryz.f27.body) _ _
  simp only [Tryz.f27, Tryz.ntmps27, Option.get!, initSt, initM, envOf, Nat.reduceAdd]
  simp only [vx, T, seval, tA]
  refine ⟨fun h => Later.go ?_, fun h => Later.go ?_⟩
  · rw [if_pos (by omega)] at e
    subst e
    simp only [vx, T, seval, tA]
    refine ⟨rfl, rfl, fun i j hi hj => ?_⟩
    obtain rfl : i = 0 := by omega
    have : j = 0 ∨ j = 1 := by omega
    rcases this with rfl | rfl <;> rfl
  rw [if_neg (by omega)] at e
  simp only [vx, T, seval, tA]
  refine LoopK.go (fun y : {i : Nat // i ≤ t.m} => ⟨[(0, .agg (tA t)), (1, .one (.ptr 1 0)), (2, .one .nil), (3, .one (.own 2 2 0 (barsP t y.1).length)), (17, .one (.rows 4 t.m (fun i k => tc (t.f i) k))), (18, .one (.int .i64 t.m)), (19, .one (.int .i64 y.1))], [(1, ⟨.var (tA t), true⟩), (2, ⟨.rows 37 2 (barsP t y.1).length (eR (barsP t y.1)), true⟩)], 3, 29⟩) (fun y => t.m - y.1) ⟨0, Nat.zero_le _⟩ ?_ (fun ⟨i, hi⟩ => ?_)
  · refine Sub.auto ?_; simp only [rx, envRen, vRen, cRen, lRen, ownRen, bRen, apartRen, emptyBk, ren, seval, autoR, autoOne, Int.natCast_add, Int.natCast_one, Int.natCast_zero, tA, barsP, List.range_zero, List.flatMap_nil, List.length_nil, Nat.not_lt_zero]
  simp only
  have wi : IntKind.i64.wrap ((i : Int) + 1) = ((i + 1 : Nat) : Int) := by rw [IntWalk.i64_in _ (by omega)]; omega
  simp only [vx, T, seval, tA]
  refine ⟨fun g => Later.go ?_, fun g => Later.go ?_⟩
  · have hl1 := barsP_len t i hi (by omega)
    have hl2 := barsP_len t (i + 1) (by omega) (by omega)
    have hs := barsP_succ t i
    have hr := eR_app (barsP t i) (bars (t.f i))
    have hll := congrArg List.length hs
    rw [List.length_append] at hll
    rw [← hs] at hr
    have gi := gd.part (i := i) (by omega)
    have t3 := tc3 gi
    simp only [vx, T, seval, tA, tc0, tc1, tc2, t3]
    refine ⟨by omega, CallK.go (ih i (by omega) gi (by have := nodes_part (t := t) (i := i) (by omega); omega)).rows ?_⟩
    simp only [vx, T, seval, tA, hr, wi]
    refine ⟨⟨by omega, by omega⟩, loopQ.go ⟨i + 1, by omega⟩ ?_ (by show t.m - (i + 1) < t.m - i; omega)⟩
    refine Sub.auto ?_; simp only [rx, envRen, vRen, cRen, lRen, ownRen, bRen, apartRen, emptyBk, ren, seval, autoR, autoOne, Int.natCast_add, Int.natCast_one, Int.natCast_zero, tA, hll]
  · obtain rfl : i = t.m := by omega
    simp only [vx, T, seval, tA, e]
    exact ⟨rfl, rfl, fun _ _ _ _ => rfl⟩
end Go.Proofs.YthfekehoehdkoaaGreat

/-! ## FnYj -/
namespace Go.Proofs.YthfekehoehdkoaaGreat
open Go Go.Eng Go.Gra Go.Tre

/-! ### The reference: the set of a tree's points. -/
def bsetP (t : Tree) (k : Nat) : Nat := (List.range k).foldl (fun s i => s ||| bset (t.f i)) 0
theorem bsetP_succ (t : Tree) (k : Nat) : bsetP t (k + 1) = bsetP t k ||| bset (t.f k) := by
  unfold bsetP
  rw [List.range_succ, List.foldl_append]
  rfl
theorem bset_eq (t : Tree) : bset t = if t.m = 0 then 2 ^ t.a.toNat ||| 2 ^ t.b.toNat else bsetP t t.m := by cases t <;> rfl
theorem fit_eq {t : Tree} (g : Whole t) : Fit t ↔ (0 ≤ t.a ∧ t.a ≤ 30 ∧ 0 ≤ t.b ∧ t.b ≤ 30) ∧ t.m ≤ 4 ∧ (t.m ≠ 0 → (0 ≤ t.c ∧ t.c ≤ 30) ∧ ∀ i, i < t.m → Fit (t.f i)) := by
  cases t with
  | lf => exact g.elim
  | nd => rfl
theorem bsetP_lt (t : Tree) (h : Fit t) : ∀ k, k ≤ t.m → bsetP t k < 2 ^ 31
  | 0, _ => Nat.two_pow_pos 31
  | k + 1, hk => by
    rw [bsetP_succ]
    exact Nat.or_lt_two_pow (bsetP_lt t h k (by omega)) (bset_lt _ ((((fit_eq h.whole).1 h).2.2 (by omega)).2 k (by omega)))

theorem ofInt_nat {x : Nat} (hx : x < 2 ^ 31) : (BitVec.ofInt 64 (x : Int)).toNat = x := by
  rw [BitVec.ofInt_natCast, BitVec.toNat_ofNat]
  omega
theorem bits_or {x y : Nat} (hx : x < 2 ^ 31) (hy : y < 2 ^ 31) : bitsOp .or .i64 (x : Int) (y : Int) = ((x ||| y : Nat) : Int) := by
  have h := Nat.or_lt_two_pow hx hy
  show IntKind.i64.wrap (((BitVec.ofInt 64 (x : Int) ||| BitVec.ofInt 64 (y : Int)).toNat : Nat) : Int) = _
  rw [BitVec.toNat_or, ofInt_nat hx, ofInt_nat hy, IntWalk.i64_in _ (by omega)]
theorem bits_and {x y : Nat} (hx : x < 2 ^ 31) (hy : y < 2 ^ 31) : bitsOp .and .i64 (x : Int) (y : Int) = ((x &&& y : Nat) : Int) := by
  have h := Nat.lt_of_le_of_lt (Nat.and_le_left (n := x) (m := y)) hx
  show IntKind.i64.wrap (((BitVec.ofInt 64 (x : Int) &&& BitVec.ofInt 64 (y : Int)).toNat : Nat) : Int) = _
  rw [BitVec.toNat_and, ofInt_nat hx, ofInt_nat hy, IntWalk.i64_in _ (by omega)]
theorem pow_lt {a : Nat} (h : a ≤ 30) : 2 ^ a < 2 ^ 31 := Nat.pow_lt_pow_right (by decide) (by omega)
theorem shl_one {a : Int} (h : a ≤ 30) : IntKind.i64.wrap (1 * 2 ^ (if a.toNat ≤ 64 then a.toNat else 64)) = ((2 ^ a.toNat : Nat) : Int) := by
  have h2 := pow_lt (a := a.toNat) (by omega)
  rw [if_pos (by omega), Int.one_mul, show ((2 : Int) ^ a.toNat) = ((2 ^ a.toNat : Nat) : Int) by push_cast; rfl]
  generalize 2 ^ a.toNat = q at h2 ⊢
  rw [IntWalk.i64_in _ (by omega)]

set_option maxRecDepth 10000 in
set_option maxHeartbeats 1000000 in
theorem rPoints : ∀ t : Tree, Fit t → PureCalls Tryz.prog 12 [.agg (tA t)] (.one (.int .i64 (bset t : Nat))) := tree_ind fun t ih hf => by
  have hf' := (fit_eq hf.whole).1 hf
  have e := bset_eq t
  refine pure_of_vc T_ok mixed Tryz.func12 rfl (by decide) _ (by simp [Tryz.ntmps12]) ⟨[0, 1, 2, 3, 4, 8, 20], []⟩ (by kernel_rfl) _ ?_
  show vc T Tryz.prog ⟨[0, 1, 2, 3, 4, 8, 20], []⟩ (Option.get! Tryz.f12.body) _ _
  simp only [Tryz.f12, Tryz.ntmps12, Option.get!, initSt, initM, envOf, Nat.reduceAdd]
  simp only [vx, T, seval, tA]
  refine ⟨fun h => Later.go ?_, fun h => Later.go ?_⟩
  · rw [if_pos (by omega)] at e
    have o := bits_or (pow_lt (a := t.a.toNat) (by omega)) (pow_lt (a := t.b.toNat) (by omega))
    simp only [vx, T, seval, tA]
    refine ⟨by omega, by omega, VLe.of_eq ?_⟩
    rw [shl_one (by omega), shl_one (by omega), o, e]
  rw [if_neg (by omega)] at e
  simp only [vx, T, seval, tA]
  refine LoopK.go (fun y : {i : Nat // i ≤ t.m} => ⟨[(0, .agg (tA t)), (1, .one (.ptr 1 0)), (2, .one (.int .i64 0)), (3, .one (.int .i64 (bsetP t y.1 : Nat))), (4, .one (.int .i64 y.1))], [(1, ⟨.var (tA t), true⟩)], 2, 32⟩) (fun y => t.m - y.1) ⟨0, Nat.zero_le _⟩ ?_ (fun ⟨i, hi⟩ => ?_)
  · refine Sub.auto ?_; simp only [rx, envRen, vRen, cRen, lRen, ownRen, bRen, apartRen, emptyBk, ren, seval, autoR, autoOne, Int.natCast_add, Int.natCast_one, Int.natCast_zero, tA, bsetP, List.range_zero, List.foldl_nil]
  simp only
  have wi : IntKind.i64.wrap ((i : Int) + 1) = ((i + 1 : Nat) : Int) := by rw [IntWalk.i64_in _ (by omega)]; omega
  simp only [vx, T, seval, tA]
  refine ⟨fun g => Later.go ?_, fun g => Later.go ?_⟩
  · have hs := bsetP_succ t i
    have t3 := tc3 (hf.whole.part (i := i) (by omega))
    simp only [vx, T, seval, tA, tc0, tc1, tc2, t3]
    refine ⟨by omega, CallK.go (ih i (by omega) ((hf'.2.2 (by omega)).2 i (by omega))) ?_⟩
    have o := bits_or (bsetP_lt t hf i (by omega)) (bset_lt _ ((hf'.2.2 (by omega)).2 i (by omega)))
    rw [← hs] at o
    simp only [vx, T, seval, tA, wi, o]
    refine loopQ.go ⟨i + 1, by omega⟩ ?_ (by show t.m - (i + 1) < t.m - i; omega)
    refine Sub.auto ?_; simp only [rx, envRen, vRen, cRen, lRen, ownRen, bRen, apartRen, emptyBk, ren, seval, autoR, autoOne, Int.natCast_add, Int.natCast_one, Int.natCast_zero, tA]
  · obtain rfl : i = t.m := by omega
    simp only [vx, T, seval, tA]
    exact VLe.of_eq (by rw [e])
end Go.Proofs.YthfekehoehdkoaaGreat

/-! ## FnYq -/
namespace Go.Proofs.YthfekehoehdkoaaGreat
open Go Go.Eng

/-! ### slices.Compact of integers. -/
/-- The first j, each once where equal ones stand together. -/
def dd (xs : List Int) : Nat → List Int
  | 0 => []
  | j + 1 => if j = 0 ∨ xs.getD j 0 ≠ xs.getD (j - 1) 0 then dd xs j ++ [xs.getD j 0] else dd xs j
theorem dd_len (xs : List Int) : ∀ j, (dd xs j).length ≤ j
  | 0 => Nat.le_refl _
  | j + 1 => by
    have := dd_len xs j
    unfold dd
    split
    · rw [List.length_append]; simp; omega
    · omega
theorem dd_pos (xs : List Int) : ∀ j, 1 ≤ j → 1 ≤ (dd xs j).length
  | 1, _ => by simp [dd]
  | j + 2, _ => by
    have := dd_pos xs (j + 1) (by omega)
    unfold dd
    split
    · rw [List.length_append]; omega
    · exact this
theorem take_stepI {xs : List Int} {i : Nat} (hi : i < xs.length) : xs.take (i + 1) = xs.take i ++ [xs.getD i 0] := by
  rw [List.getD_eq_getElem?_getD, List.getElem?_eq_getElem hi, List.take_add_one, List.getElem?_eq_getElem hi]; rfl
theorem dd_take {xs : List Int} : ∀ k, k ≤ xs.length → (∀ i, 0 < i → i < k → xs.getD i 0 ≠ xs.getD (i - 1) 0) → dd xs k = xs.take k
  | 0, _, _ => by simp [dd]
  | k + 1, hk, h => by
    have ih := dd_take k (by omega) fun i h0 hi => h i h0 (by omega)
    unfold dd
    rw [take_stepI (by omega), ih]
    by_cases h0 : k = 0
    · rw [if_pos (.inl h0)]
    · rw [if_pos (.inr (h k (by omega) (by omega)))]
theorem take_set_stepI {ys : List Int} {k : Nat} {v : Int} (hk : k < ys.length) : (ys.set k v).take (k + 1) = ys.take k ++ [v] := by
  rw [take_stepI (by simpa using hk), List.take_set_of_le (Nat.le_refl _), List.getD_eq_getElem?_getD, List.getElem?_set_self hk]; rfl
theorem getD_set_otherI {ys : List Int} {k c : Nat} {v : Int} (h : k ≠ c) : (ys.set k v).getD c 0 = ys.getD c 0 := by
  rw [List.getD_eq_getElem?_getD, List.getD_eq_getElem?_getD, List.getElem?_set_ne h]

def CmpR (xs : List Int) (r : V) (B' : Bk) : Prop := ∃ ys : List Int, r = .one (.own 0 1 0 (dd xs xs.length).length) ∧ B' = .ints 3 .i64 ys ∧ ys.length = xs.length ∧ ys.take (dd xs xs.length).length = dd xs xs.length

set_option maxRecDepth 10000 in
set_option maxHeartbeats 4000000 in
theorem iCompact {xs : List Int} {N : Nat} (hN : xs.length = N) (hl : N < 2 ^ 38) : MutCalls Tryz.prog 29 [.one (.own 0 1 0 N)] (.ints 3 .i64 xs) (CmpR xs) := by
  refine mut_of_vc T_ok mixed Tryz.func29 rfl (by decide) _ (by simp [Tryz.ntmps29]) ⟨[0, 2, 3, 4, 5, 8, 13, 25, 32, 44], []⟩ (by kernel_rfl) (.ints 3 .i64 xs) trivial _ ?_
  show vc T Tryz.prog ⟨[0, 2, 3, 4, 5, 8, 13, 25, 32, 44], []⟩ (Option.get! Tryz.f29.body) _ _
  simp only [Tryz.f29, Tryz.ntmps29, Option.get!, initSt, initM, envOf, Nat.reduceAdd]
  simp only [vx, T, seval]
  refine ⟨fun h => Later.go ?_, fun h => Later.go ?_⟩
  · have e := dd_take (xs := xs) xs.length (Nat.le_refl _) fun i h0 hi => by omega
    have e2 : (dd xs xs.length).length = N := by rw [e, List.take_length, hN]
    simp only [vx, T, seval]
    exact ⟨xs, by rw [e2], rfl, rfl, by rw [e2, e, hN]⟩
  simp only [vx, T, seval]
  refine LoopK.go (fun y : {k : Nat // 1 ≤ k ∧ k ≤ N ∧ ∀ i, 0 < i → i < k → xs.getD i 0 ≠ xs.getD (i - 1) 0} => ⟨[(0, .one (.own 0 1 0 N)), (2, .one .nil), (3, .one (.int .i64 y.1))], [(0, ⟨.ints 3 .i64 xs, true⟩)], 1, 61⟩) (fun y => N - y.1) ⟨1, Nat.le_refl _, by omega, fun i h0 hi => by omega⟩ ?_ (fun ⟨k, hk1, hkN, hz⟩ => ?_)
  · refine Sub.auto ?_; simp only [rx, envRen, vRen, cRen, lRen, ownRen, bRen, apartRen, emptyBk, ren, seval, autoR, autoOne, Int.natCast_add, Int.natCast_one, Int.natCast_zero]
  simp only
  have wk : IntKind.i64.wrap ((k : Int) + 1) = ((k + 1 : Nat) : Int) := by rw [IntWalk.i64_in _ (by omega)]; omega
  have wj : (IntKind.i64.wrap ((k : Int) - 1)) = ((k - 1 : Nat) : Int) := by rw [IntWalk.i64_in _ (by omega)]; omega
  simp only [vx, T, seval]
  refine ⟨fun g => Later.go ?_, fun g => Later.go ?_⟩
  · simp only [vx, T, seval, wj, Int.toNat_natCast]
    refine ⟨by omega, by omega, ?_⟩
    refine ⟨fun g2 => Later.go ?_, fun g2 => Later.go ?_⟩
    · have et : (((N : Int) - (k : Int)).toNat : Nat) = N - k := by omega
      have d1 : dd xs (k + 1) = dd xs k := by
        show (if k = 0 ∨ xs.getD k 0 ≠ xs.getD (k - 1) 0 then dd xs k ++ [xs.getD k 0] else dd xs k) = dd xs k
        rw [if_neg (by rintro (h | h); (· omega); exact h g2)]
      have d2 := dd_take (xs := xs) k (by omega) fun i h0 hi => hz i h0 hi
      have d3 : (dd xs (k + 1)).length = k := by rw [d1, d2, List.length_take]; omega
      simp only [vx, T, seval, et]
      refine ⟨by omega, ?_⟩
      refine LoopK.go (fun y : {y : Nat × List Int // 1 ≤ y.1 ∧ y.1 ≤ N - k ∧ (dd xs (k + y.1)).length ≤ k + y.1 - 1 ∧ y.2.length = N ∧ y.2.take (dd xs (k + y.1)).length = dd xs (k + y.1) ∧ ∀ c, (dd xs (k + y.1)).length ≤ c → y.2.getD c 0 = xs.getD c 0} => ⟨[(0, .one (.own 0 1 0 N)), (2, .one .nil), (3, .one (.int .i64 ((dd xs (k + y.1.1)).length : Nat))), (4, .one (.own 0 1 k (N - k))), (5, .one (.int .i64 y.1.1))], [(0, ⟨.ints 3 .i64 y.1.2, true⟩)], 1, 61⟩) (fun y => N - y.1.1) ⟨(1, xs), Nat.le_refl _, by show 1 ≤ N - k; omega, by show (dd xs (k + 1)).length ≤ k + 1 - 1; omega, hN, by show xs.take (dd xs (k + 1)).length = dd xs (k + 1); rw [d3, d1, d2], fun _ _ => rfl⟩ ?_ (fun ⟨(q, ys), hq1, hqN, hp, hyl, ht, hc⟩ => ?_)
      · refine Sub.auto ?_; simp only [rx, envRen, vRen, cRen, lRen, ownRen, bRen, apartRen, emptyBk, ren, seval, autoR, autoOne, Int.natCast_add, Int.natCast_one, Int.natCast_zero, d3]
      simp only at hq1 hqN hp hyl ht hc
      have wq : IntKind.i64.wrap ((q : Int) + 1) = ((q + 1 : Nat) : Int) := by rw [IntWalk.i64_in _ (by omega)]; omega
      have wr : (IntKind.i64.wrap ((q : Int) - 1)) = ((q - 1 : Nat) : Int) := by rw [IntWalk.i64_in _ (by omega)]; omega
      simp only [vx, T, seval]
      refine ⟨fun g3 => Later.go ?_, fun g3 => Later.go ?_⟩
      · have hqn : q < N - k := by omega
        have r1 := hc (k + q) (by omega)
        have r2 := hc (k + (q - 1)) (by omega)
        have ds : dd xs (k + (q + 1)) = if xs.getD (k + q) 0 ≠ xs.getD (k + (q - 1)) 0 then dd xs (k + q) ++ [xs.getD (k + q) 0] else dd xs (k + q) := by
          rw [show k + (q + 1) = (k + q) + 1 by omega]
          show (if k + q = 0 ∨ xs.getD (k + q) 0 ≠ xs.getD (k + q - 1) 0 then _ else _) = _
          rw [show k + (q - 1) = k + q - 1 by omega]
          by_cases h : xs.getD (k + q) 0 ≠ xs.getD (k + q - 1) 0
          · rw [if_pos (.inr h), if_pos h]
          · rw [if_neg (by rintro (h' | h'); (· omega); exact h h'), if_neg h]
        generalize hL : (dd xs (k + q)).length = L at *
        have wL : IntKind.i64.wrap ((L : Int) + 1) = ((L + 1 : Nat) : Int) := by rw [IntWalk.i64_in _ (by omega)]; omega
        simp only [vx, T, seval, wr, Int.toNat_natCast, r1, r2]
        refine ⟨by omega, by omega, ?_⟩
        refine ⟨fun g4 => Later.go ?_, fun g4 => Later.go ?_⟩
        · rw [if_pos g4] at ds
          have dl : (dd xs (k + (q + 1))).length = L + 1 := by rw [ds, List.length_append, hL]; rfl
          simp only [vx, T, seval, wr, Int.toNat_natCast, r1, wq, wL]
          refine ⟨by omega, by omega, ?_⟩
          refine loopQ.go ⟨(q + 1, ys.set L (xs.getD (k + q) 0)), by omega, by simp only; omega, by simp only [dl]; omega, by simp only [List.length_set]; exact hyl, by simp only [dl]; rw [take_set_stepI (by omega), ht, ds], fun c h => ?_⟩ ?_ (by simp only; omega)
          · simp only [dl] at h ⊢
            rw [getD_set_otherI (by omega)]
            exact hc c (by omega)
          · refine Sub.auto ?_; simp only [rx, envRen, vRen, cRen, lRen, ownRen, bRen, apartRen, emptyBk, ren, seval, autoR, autoOne, Int.natCast_add, Int.natCast_one, Int.natCast_zero, dl]
        · rw [if_neg (by simpa using g4)] at ds
          have dl : (dd xs (k + (q + 1))).length = L := by rw [ds, hL]
          simp only [vx, T, seval, wq]
          refine loopQ.go ⟨(q + 1, ys), by omega, by simp only; omega, by simp only [dl]; omega, hyl, by simp only [dl]; rw [ht, ds], fun c h => hc c (by simpa only [dl] using h)⟩ ?_ (by simp only; omega)
          refine Sub.auto ?_; simp only [rx, envRen, vRen, cRen, lRen, ownRen, bRen, apartRen, emptyBk, ren, seval, autoR, autoOne, Int.natCast_add, Int.natCast_one, Int.natCast_zero, dl]
      · have hqn : q = N - k := by omega
        have e : k + q = N := by omega
        rw [e] at ht hp hc
        generalize hL : (dd xs N).length = L at *
        simp only [vx, T, seval, e, hL]
        refine ⟨by omega, by omega, clrL ys L ((N : Int) - (L : Int)).toNat, ?_, rfl, ?_, ?_⟩
        · rw [hN, hL]
        · rw [clrL_length _ _ _ (by omega), hyl, hN]
        · rw [hN, hL]
          unfold clrL
          rw [List.take_append_of_le_length (by rw [List.length_take]; omega), List.take_take, Nat.min_self, ht]
    · simp only [vx, T, seval, wk]
      refine loopQ.go ⟨k + 1, by omega, by omega, fun i h0 hi => ?_⟩ ?_ (by show N - (k + 1) < N - k; omega)
      · by_cases e : i = k
        · rw [e]; exact g2
        · exact hz i h0 (by omega)
      · refine Sub.auto ?_; simp only [rx, envRen, vRen, cRen, lRen, ownRen, bRen, apartRen, emptyBk, ren, seval, autoR, autoOne, Int.natCast_add, Int.natCast_one, Int.natCast_zero]
  · obtain rfl : k = N := by omega
    have e := dd_take (xs := xs) xs.length (Nat.le_refl _) fun i h0 hi => hz i h0 (by omega)
    have e2 : (dd xs xs.length).length = k := by rw [e, List.take_length, hN]
    simp only [vx, T, seval]
    exact ⟨xs, by rw [e2], rfl, rfl, by rw [e2, e, hN]⟩
end Go.Proofs.YthfekehoehdkoaaGreat

/-! ## Shs -/
namespace Go.Proofs
open Go.Shelf
def Tryz.lays189_ren : Go.Shelf.Ren := ⟨fun | 189 => 28 | 125 => 51 | 257 => 50 | 128 => 78 | 129 => 79 | 294 => 69 | 295 => 70 | 296 => 71 | 297 => 72 | 298 => 73 | 299 => 74 | 216 => 75 | 300 => 76 | 301 => 77 | 328 => 103 | 329 => 104 | 330 => 105 | 331 => 106 | 332 => 107 | 215 => 93 | 343 => 142 | n => n, fun | 28 => 33 | 3 => 3 | 46 => 97 | 0 => 0 | 51 => 127 | 53 => 129 | 4 => 4 | 183 => 120 | 182 => 119 | 131 => 124 | 5 => 5 | 9 => 9 | 218 => 155 | 222 => 159 | 228 => 189 | 229 => 190 | n => n, fun | n => n⟩
theorem Tryz.lays189 : Go.Proofs.Lays.n189 Tryz.prog Tryz.lays189_ren := {
  mixed := by kernel_rfl
  f125 := Tryz.func51.trans (congrArg some (by kernel_rfl))
  f128 := Tryz.func78.trans (congrArg some (by kernel_rfl))
  f129 := Tryz.func79.trans (congrArg some (by kernel_rfl))
  f189 := Tryz.func28.trans (congrArg some (by kernel_rfl))
  f215 := Tryz.func93.trans (congrArg some (by kernel_rfl))
  f216 := Tryz.func75.trans (congrArg some (by kernel_rfl))
  f257 := Tryz.func50.trans (congrArg some (by kernel_rfl))
  f294 := Tryz.func69.trans (congrArg some (by kernel_rfl))
  f295 := Tryz.func70.trans (congrArg some (by kernel_rfl))
  f296 := Tryz.func71.trans (congrArg some (by kernel_rfl))
  f297 := Tryz.func72.trans (congrArg some (by kernel_rfl))
  f298 := Tryz.func73.trans (congrArg some (by kernel_rfl))
  f299 := Tryz.func74.trans (congrArg some (by kernel_rfl))
  f300 := Tryz.func76.trans (congrArg some (by kernel_rfl))
  f301 := Tryz.func77.trans (congrArg some (by kernel_rfl))
  f328 := Tryz.func103.trans (congrArg some (by kernel_rfl))
  f329 := Tryz.func104.trans (congrArg some (by kernel_rfl))
  f330 := Tryz.func105.trans (congrArg some (by kernel_rfl))
  f331 := Tryz.func106.trans (congrArg some (by kernel_rfl))
  f332 := Tryz.func107.trans (congrArg some (by kernel_rfl))
  f343 := Tryz.func142.trans (congrArg some (by kernel_rfl))
  t0 := Tryz.underlying0
  a0 := Tryz.isAgg0
  z0 := Tryz.sizeOf0
  v0 := Tryz.zeroValue0
  t3 := Tryz.underlying3
  a3 := Tryz.isAgg3
  z3 := Tryz.sizeOf3
  v3 := Tryz.zeroValue3
  t4 := Tryz.underlying4
  a4 := Tryz.isAgg4
  z4 := Tryz.sizeOf4
  v4 := Tryz.zeroValue4
  t5 := Tryz.underlying5
  a5 := Tryz.isAgg5
  z5 := Tryz.sizeOf5
  v5 := Tryz.zeroValue5
  t9 := Tryz.underlying9
  a9 := Tryz.isAgg9
  z9 := Tryz.sizeOf9
  v9 := Tryz.zeroValue9
  t28 := Tryz.underlying33
  a28 := Tryz.isAgg33
  z28 := Tryz.sizeOf33
  v28 := Tryz.zeroValue33
  t46 := Tryz.underlying97
  a46 := Tryz.isAgg97
  z46 := Tryz.sizeOf97
  v46 := Tryz.zeroValue97
  t51 := Tryz.underlying127
  a51 := Tryz.isAgg127
  z51 := Tryz.sizeOf127
  v51 := Tryz.zeroValue127
  t53 := Tryz.underlying129
  a53 := Tryz.isAgg129
  z53 := Tryz.sizeOf129
  v53 := Tryz.zeroValue129
  t131 := Tryz.underlying124
  a131 := Tryz.isAgg124
  z131 := Tryz.sizeOf124
  v131 := Tryz.zeroValue124
  t182 := Tryz.underlying119
  a182 := Tryz.isAgg119
  z182 := Tryz.sizeOf119
  v182 := Tryz.zeroValue119
  t183 := Tryz.underlying120
  a183 := Tryz.isAgg120
  z183 := Tryz.sizeOf120
  v183 := Tryz.zeroValue120
  t218 := Tryz.underlying155
  a218 := Tryz.isAgg155
  z218 := Tryz.sizeOf155
  v218 := Tryz.zeroValue155
  t222 := Tryz.underlying159
  a222 := Tryz.isAgg159
  z222 := Tryz.sizeOf159
  v222 := Tryz.zeroValue159
  t228 := Tryz.underlying189
  a228 := Tryz.isAgg189
  z228 := Tryz.sizeOf189
  v228 := Tryz.zeroValue189
  t229 := Tryz.underlying190
  a229 := Tryz.isAgg190
  z229 := Tryz.sizeOf190
  v229 := Tryz.zeroValue190 }
open Go.Sort Go.RowKit in
theorem Tryz.slices_Sort_int (blk off cap : Nat) (zs : List Int) (w : World) (hH : Holds (Value.int .i64) w blk off zs.toArray) (hblk : blk < w.heap.size) (hsz : zs.length < 4611686018427387904) :
    Calls Tryz.prog 28 #[.slice (some ⟨blk, off, none⟩) zs.length cap] w fun e w' =>
      e = .returned (.tuple #[]) ∧ ∃ n os, w' = grow (putRow (Value.int .i64) (Sort.ahead w n) blk off (zs.mergeSort fun x y => decide (x ≤ y)).toArray) os := Any.slices_Sort_int Tryz.lays189 blk off cap zs w hH hblk hsz
open Go.Sort Go.RowKit in
theorem Tryz.slices_Sort_int_none (p : Option Addr) (cap : Nat) (w : World) :
    Calls Tryz.prog 28 #[.slice p 0 cap] w fun e w' => e = .returned (.tuple #[]) ∧ w' = w := Any.slices_Sort_int_none Tryz.lays189 p cap w
end Go.Proofs

/-! ## Dig -/
namespace Go.Eng

/-- The lowest words of a number, as many as are asked for. -/
def dig : Nat → Nat → List Int
  | 0, _ => []
  | k + 1, n => ((n % BB : Nat) : Int) :: dig k (n / BB)

theorem dig_length : ∀ k n, (dig k n).length = k
  | 0, _ => rfl
  | k + 1, n => by simp [dig, dig_length k]
theorem dig_inr : ∀ k n, InR (dig k n)
  | 0, _ => InR.nil
  | k + 1, n => InR.cons ⟨by omega, by have := Nat.mod_lt n (show BB > 0 by decide); unfold BB at *; omega⟩ (dig_inr k _)
theorem val_dig : ∀ k n, val (dig k n) = n % BB ^ k
  | 0, n => by simp [dig, val, Nat.mod_one]
  | k + 1, n => by
    simp only [dig, val, val_dig k, Int.toNat_natCast]
    rw [Nat.pow_succ, Nat.mul_comm (BB ^ k), Nat.mod_mul]
theorem dig_val : ∀ {xs : List Int}, InR xs → dig xs.length (val xs) = xs
  | [], _ => rfl
  | x :: xs, h => by
    have h2 := h.head
    have h3 : x.toNat < BB := by unfold BB; omega
    simp only [List.length_cons, dig, val]
    rw [Nat.add_mul_mod_self_left, Nat.mod_eq_of_lt h3, Nat.add_mul_div_left _ _ (by decide : 0 < BB), Nat.div_eq_of_lt h3, Nat.zero_add, dig_val h.tail]
    congr 1; omega
theorem dig_of {xs : List Int} {k n : Nat} (h : InR xs) (hl : xs.length = k) (hv : val xs = n) : xs = dig k n := by
  rw [← hl, ← hv, dig_val h]

/-! ### The digit of a long division. -/
theorem kn_init {U V P high next Vr top u2 Ur : Nat} (hU : U = (top * BB + u2) * P + Ur) (hV : V = (high * BB + next) * P + Vr) (hUr : Ur < P) (hu2 : u2 < BB) (hh : 0 < high) : U / V ≤ top / high := by
  rw [Nat.le_div_iff_mul_le hh]
  have h1 := Nat.div_mul_le_self U V
  generalize U / V = q at h1 ⊢
  rcases Nat.lt_or_ge top (q * high) with h2 | h2
  · exfalso
    have h3 : (top + 1) * (BB * P) ≤ q * high * (BB * P) := Nat.mul_le_mul_right _ h2
    have h4 : q * high * (BB * P) ≤ q * V := by
      rw [hV, Nat.mul_assoc]
      refine Nat.mul_le_mul_left _ ?_
      rw [Nat.add_mul, Nat.mul_assoc]
      omega
    have h5 : (u2 + 1) * P ≤ BB * P := Nat.mul_le_mul_right _ hu2
    rw [Nat.add_mul, Nat.mul_assoc top] at hU
    rw [Nat.add_mul] at h3 h5
    omega
  · exact h2

theorem kn_step {U V P V2 Vr T3 Ur D : Nat} (hU : U = T3 * P + Ur) (hV : V = V2 * P + Vr) (hUr : Ur < P) (hD : T3 < D * V2) : U / V < D := by
  have h1 := Nat.div_mul_le_self U V
  generalize U / V = q at h1 ⊢
  rcases Nat.lt_or_ge q D with h2 | h2
  · exact h2
  · exfalso
    have h3 : D * V2 ≤ q * V2 := Nat.mul_le_mul_right _ h2
    have h4 : (T3 + 1) * P ≤ q * V2 * P := Nat.mul_le_mul_right _ (by omega)
    have h5 : q * V2 * P ≤ q * V := by rw [hV, Nat.mul_assoc]; exact Nat.mul_le_mul_left _ (by omega)
    rw [Nat.add_mul] at h4
    omega

theorem kn_end {U V P V2 Vr T3 Ur D : Nat} (hU : U = T3 * P + Ur) (hV : V = V2 * P + Vr) (hVr : Vr < P) (hD : D * V2 ≤ T3) (hl : D ≤ V2) (hV0 : 0 < V) : D ≤ U / V + 1 := by
  rcases Nat.lt_or_ge (U / V + 1) D with h | h
  · exfalso
    have h1 : U < (U / V + 1) * V := by
      have e := Nat.div_add_mod U V
      have l := Nat.mod_lt U hV0
      rw [Nat.add_mul, Nat.mul_comm (U / V)]
      omega
    generalize U / V = q at h h1
    have h2 : (q + 1) * V ≤ (q + 1) * ((V2 + 1) * P) := Nat.mul_le_mul_left _ (by rw [hV, Nat.add_mul]; omega)
    have h3 : D * V2 * P ≤ T3 * P := Nat.mul_le_mul_right _ hD
    have h4 : D * V2 * P < (q + 1) * (V2 + 1) * P := by rw [Nat.mul_assoc (q + 1)]; omega
    have h5 : D * V2 < (q + 1) * (V2 + 1) := Nat.lt_of_mul_lt_mul_right h4
    have h6 : (q + 2) * V2 ≤ D * V2 := Nat.mul_le_mul_right _ h
    have e1 : (q + 2) * V2 = q * V2 + 2 * V2 := Nat.add_mul _ _ _
    have e2 : (q + 1) * (V2 + 1) = q * V2 + V2 + q + 1 := by rw [Nat.add_mul, Nat.mul_add]; omega
    omega
  · exact h

end Go.Eng

/-! ## Shr -/
namespace Go.Eng

theorem BB_split {n : Nat} (hn : n ≤ 32) : BB = 2 ^ n * 2 ^ (32 - n) := by
  rw [← Nat.pow_add, show n + (32 - n) = 32 by omega]; rfl
theorem BB_split' {n : Nat} (hn : n ≤ 32) : BB = 2 ^ (32 - n) * 2 ^ n := by rw [BB_split hn, Nat.mul_comm]

theorem shr_div (w Y n : Nat) (hn : n ≤ 32) : (w + BB * Y) / 2 ^ n = w / 2 ^ n + 2 ^ (32 - n) * Y := by
  rw [BB_split hn, Nat.mul_assoc, Nat.add_mul_div_left _ _ (Nat.pow_pos (by decide))]

theorem shr_low (w n : Nat) (hn : n ≤ 32) (hw : w < BB) : w / 2 ^ n < 2 ^ (32 - n) := by
  rw [Nat.div_lt_iff_lt_mul (Nat.pow_pos (by decide)), ← BB_split' hn]; exact hw

theorem shr_mod (w Y n : Nat) (hn : n ≤ 32) (hw : w < BB) : (w + BB * Y) / 2 ^ n % BB = w / 2 ^ n + 2 ^ (32 - n) * (Y % 2 ^ n) := by
  rw [shr_div w Y n hn]
  generalize hr : w / 2 ^ n = r
  have h := shr_low w n hn hw
  rw [hr] at h
  rw [BB_split' hn, Nat.mod_mul, Nat.add_mul_mod_self_left, Nat.mod_eq_of_lt h, Nat.add_mul_div_left _ _ (Nat.pow_pos (by decide)), Nat.div_eq_of_lt h, Nat.zero_add]

/-- A word of the shifted number, out of two words. -/
theorem shr_dig (X n : Nat) (hn : n ≤ 32) : X / 2 ^ n % BB = X % BB / 2 ^ n + (X / BB % BB * 2 ^ (32 - n)) % BB := by
  have hw : X % BB < BB := Nat.mod_lt _ (by decide)
  have e : X / 2 ^ n % BB = (X % BB + BB * (X / BB)) / 2 ^ n % BB := by rw [Nat.mod_add_div]
  rw [e, shr_mod _ _ n hn hw, Nat.mul_comm (X / BB % BB)]
  congr 1
  rw [BB_split' hn, Nat.mul_mod_mul_left, ← BB_split' hn, BB_split hn, Nat.mod_mul_right_mod]

theorem shr_dig2 (X n : Nat) (hn : n ≤ 32) : (X % BB + X / BB % BB * BB) / 2 ^ n % BB = X / 2 ^ n % BB := by
  have hw : X % BB < BB := Nat.mod_lt _ (by decide)
  rw [Nat.mul_comm (X / BB % BB), shr_mod _ _ n hn hw]
  have e : X / 2 ^ n % BB = (X % BB + BB * (X / BB)) / 2 ^ n % BB := by rw [Nat.mod_add_div]
  rw [e, shr_mod _ _ n hn hw]
  congr 2
  rw [BB_split hn, Nat.mod_mul_right_mod]

theorem pow_split {p q : Nat} (h : p = 2 ^ 32) : p = q → q = 2 ^ 32 := fun e => e ▸ h

/-- So far as it is filled. -/
structure ShrInv (a n l i : Nat) (zs : List Int) : Prop where
  le : i ≤ l
  len : zs.length = l
  inr : InR zs
  eq : val zs = (a / 2 ^ n) % BB ^ i

theorem ShrInv.init (a n l : Nat) : ShrInv a n l 0 (List.replicate l 0) := ⟨Nat.zero_le _, by simp, InR.replicate _, by rw [val_replicate]; simp [Nat.mod_one]⟩

theorem mod_next' (y i : Nat) : y % BB ^ (i + 1) = y % BB ^ i + BB ^ i * (y / BB ^ i % BB) := by
  rw [Nat.pow_succ, Nat.mod_mul]

theorem ShrInv.get {a n l i : Nat} {zs : List Int} (h : ShrInv a n l i zs) : zs.getD i 0 = 0 := by
  rw [getD_val h.inr, h.eq, Nat.div_eq_of_lt (Nat.mod_lt _ (Nat.pow_pos (by decide)))]; rfl

theorem ShrInv.put {a n l i : Nat} {zs : List Int} (h : ShrInv a n l i zs) (hi : i < l) {d : Nat} (hd : a / BB ^ i / 2 ^ n % BB = d) : ShrInv a n l (i + 1) (zs.set i (d : Int)) := by
  have hl : i < zs.length := by rw [h.len]; exact hi
  have hd2 : d < BB := by rw [← hd]; exact Nat.mod_lt _ (by decide)
  have e := val_set (xs := zs) (i := i) (x := (d : Int)) hl
  rw [h.get] at e
  simp only [Int.toNat_zero, Nat.mul_zero, Nat.add_zero, Int.toNat_natCast] at e
  refine ⟨hi, by rw [List.length_set]; exact h.len, h.inr.set _ ⟨by omega, by unfold BB at hd2; omega⟩, ?_⟩
  rw [e, h.eq, mod_next']
  congr 2
  rw [← hd, Nat.div_div_eq_div_mul, Nat.div_div_eq_div_mul, Nat.mul_comm]

theorem ShrInv.done {a n l : Nat} {zs : List Int} (h : ShrInv a n l l zs) (hl : a < BB ^ l) : zs = dig l (a / 2 ^ n) :=
  dig_of h.inr h.len (by rw [h.eq, Nat.mod_eq_of_lt (Nat.lt_of_le_of_lt (Nat.div_le_self _ _) hl)])

theorem val_dig_lt {l n : Nat} (h : n < BB ^ l) : val (dig l n) = n := by rw [val_dig, Nat.mod_eq_of_lt h]

end Go.Eng

/-! ## Knu -/
namespace Go.Eng

/-- How many binary digits. -/
def bl (x : Nat) : Nat := if h : x = 0 then 0 else 1 + bl (x / 2)
termination_by x
decreasing_by omega
theorem bl_zero : bl 0 = 0 := by rw [bl]; rfl
theorem bl_pos {x : Nat} (h : 0 < x) : bl x = 1 + bl (x / 2) := by rw [bl, dif_neg (by omega)]
theorem bl_spec (x : Nat) (h : 0 < x) : 2 ^ (bl x - 1) ≤ x ∧ x < 2 ^ bl x ∧ 0 < bl x := by
  induction x using Nat.strongRecOn with
  | _ x ih =>
    rw [bl_pos h]
    by_cases h2 : x / 2 = 0
    · rw [h2, bl_zero]
      have : x = 1 := by omega
      subst this; decide
    · obtain ⟨h3, h4, h5⟩ := ih (x / 2) (by omega) (by omega)
      have e : 1 + bl (x / 2) - 1 = (bl (x / 2) - 1) + 1 := by omega
      rw [e, Nat.pow_succ, Nat.add_comm 1, Nat.pow_succ]
      omega
theorem bl_le {x k : Nat} (h : x < 2 ^ k) : bl x ≤ k := by
  rcases Nat.eq_zero_or_pos x with h0 | h0
  · subst h0; rw [bl_zero]; omega
  · obtain ⟨h3, _, h5⟩ := bl_spec x h0
    rcases Nat.lt_or_ge k (bl x) with h1 | h1
    · have : 2 ^ k ≤ 2 ^ (bl x - 1) := Nat.pow_le_pow_right (by decide) (by omega)
      omega
    · exact h1

/-- The highest word; and by how much it is shifted till its highest bit is set. -/
def topW (b : Nat) : Nat := b / BB ^ (nl b - 1)
def shf (b : Nat) : Nat := 32 - bl (topW b)
theorem topW_lt {b : Nat} (h : 0 < b) : 0 < topW b ∧ topW b < BB := by
  have h1 := nl_pos.2 h
  have hp : 0 < BB ^ (nl b - 1) := Nat.pow_pos (by decide)
  refine ⟨Nat.div_pos (ge_of_nl h) hp, ?_⟩
  unfold topW
  rw [Nat.div_lt_iff_lt_mul hp, Nat.mul_comm, ← Nat.pow_succ, show (nl b - 1).succ = nl b by omega]
  exact lt_of_nl b
theorem topW_mod {b : Nat} (h : 0 < b) : b / BB ^ (nl b - 1) % BB = topW b := Nat.mod_eq_of_lt (topW_lt h).2

theorem shf_spec {b : Nat} (h : 0 < b) : shf b < 32 ∧ b * 2 ^ shf b < BB ^ nl b ∧ BB ^ nl b ≤ 2 * (b * 2 ^ shf b) := by
  obtain ⟨t1, t2⟩ := topW_lt h
  obtain ⟨b1, b2, b3⟩ := bl_spec _ t1
  have b4 : bl (topW b) ≤ 32 := bl_le (by unfold BB at t2; omega)
  have h1 := nl_pos.2 h
  have hp : 0 < BB ^ (nl b - 1) := Nat.pow_pos (by decide)
  have e1 := Nat.div_add_mod b (BB ^ (nl b - 1))
  have e2 := Nat.mod_lt b hp
  have eB : BB ^ nl b = BB ^ (nl b - 1) * (2 ^ bl (topW b) * 2 ^ shf b) := by
    have e3 : 2 ^ bl (topW b) * 2 ^ shf b = BB := by rw [← Nat.pow_add]; unfold shf; rw [show bl (topW b) + (32 - bl (topW b)) = 32 by omega]; rfl
    rw [e3, ← Nat.pow_succ, show (nl b - 1).succ = nl b by omega]
  refine ⟨by unfold shf; omega, ?_, ?_⟩
  · rw [eB, ← Nat.mul_assoc]
    refine Nat.mul_lt_mul_of_pos_right ?_ (Nat.pow_pos (by decide))
    have : BB ^ (nl b - 1) * (topW b + 1) ≤ BB ^ (nl b - 1) * 2 ^ bl (topW b) := Nat.mul_le_mul_left _ b2
    rw [Nat.mul_add] at this
    unfold topW at *
    omega
  · rw [eB, ← Nat.mul_assoc, ← Nat.mul_assoc]
    refine Nat.mul_le_mul_right _ ?_
    have e5 : 2 ^ bl (topW b) = 2 * 2 ^ (bl (topW b) - 1) := by
      rw [Nat.mul_comm, ← Nat.pow_succ]; congr 1; omega
    rw [e5]
    have : BB ^ (nl b - 1) * 2 ^ (bl (topW b) - 1) ≤ BB ^ (nl b - 1) * topW b := Nat.mul_le_mul_left _ b1
    rw [Nat.mul_left_comm]
    have e6 : BB ^ (nl b - 1) * topW b ≤ b := Nat.mul_div_le _ _
    omega

theorem shf_nl {b : Nat} (h : 0 < b) : nl (b * 2 ^ shf b) = nl b := by
  obtain ⟨_, h2, h3⟩ := shf_spec h
  have h1 := nl_pos.2 h
  have h4 := nl_le_of_lt h2
  rcases Nat.lt_or_ge (nl (b * 2 ^ shf b)) (nl b) with h5 | h5
  · have h6 : b * 2 ^ shf b < BB ^ (nl b - 1) := nl_le_iff.1 (by omega)
    have e : BB ^ nl b = BB ^ (nl b - 1) * BB := by rw [← Nat.pow_succ]; congr 1; omega
    have h7 : BB ^ (nl b - 1) * 2 ≤ BB ^ (nl b - 1) * BB := Nat.mul_le_mul_left _ (by decide)
    omega
  · omega

/-- A divisor whose highest bit is set. -/
structure Nrm (V n : Nat) : Prop where
  nle : nl V = n
  two : 2 ≤ n
  big : BB ^ n ≤ 2 * V

theorem Nrm.pos {V n : Nat} (h : Nrm V n) : 0 < V := nl_pos.1 (by rw [h.nle]; have := h.two; omega)
theorem Nrm.lt {V n : Nat} (h : Nrm V n) : V < BB ^ n := by have := lt_of_nl V; rw [h.nle] at this; exact this
theorem pow_split2 {n : Nat} (h : 2 ≤ n) : BB ^ (n - 1) = BB ^ (n - 2) * BB := by rw [← Nat.pow_succ]; congr 1; omega
theorem pow_split1 {n : Nat} (h : 1 ≤ n) : BB ^ n = BB ^ (n - 1) * BB := by rw [← Nat.pow_succ]; congr 1; omega

/-- The divisor's two highest words. -/
theorem Nrm.high {V n : Nat} (h : Nrm V n) : BB ≤ 2 * (V / BB ^ (n - 1)) ∧ V / BB ^ (n - 1) < BB ∧ V / BB ^ (n - 2) = V / BB ^ (n - 1) * BB + V / BB ^ (n - 2) % BB := by
  have hp : 0 < BB ^ (n - 1) := Nat.pow_pos (by decide)
  have h2 := h.two
  refine ⟨?_, ?_, ?_⟩
  · have h3 := h.big
    rw [pow_split1 (by omega)] at h3
    have h4 : BB / 2 ≤ V / BB ^ (n - 1) := by
      rw [Nat.le_div_iff_mul_le hp]
      have : (BB / 2) * BB ^ (n - 1) * 2 = BB ^ (n - 1) * BB := by
        rw [Nat.mul_comm, ← Nat.mul_assoc, show 2 * (BB / 2) = BB from rfl, Nat.mul_comm]
      omega
    have : BB = 2 * (BB / 2) := rfl
    omega
  · rw [Nat.div_lt_iff_lt_mul hp, Nat.mul_comm, ← pow_split1 (by omega)]; exact h.lt
  · rw [pow_split2 h2, ← Nat.div_div_eq_div_mul, Nat.mul_comm, Nat.div_add_mod]

/-- What is divided by at a place. -/
structure At (V n i R : Nat) : Prop where
  nrm : Nrm V n
  lt : R < V * BB ^ (i + 1)

def q3 (n i R : Nat) : Nat := R / BB ^ (i + n - 2)

theorem At.words {V n i R : Nat} (h : At V n i R) : R / BB ^ (i + n - 2) % BB = q3 n i R % BB ∧ R / BB ^ (i + n - 1) % BB = q3 n i R / BB % BB ∧ R / BB ^ (i + n) % BB = q3 n i R / BB / BB ∧ q3 n i R / BB < BB * BB := by
  have h2 := h.nrm.two
  have e1 : R / BB ^ (i + n - 1) = q3 n i R / BB := by
    unfold q3
    rw [Nat.div_div_eq_div_mul, ← Nat.pow_succ]; congr 2; omega
  have e2 : R / BB ^ (i + n) = q3 n i R / BB / BB := by
    rw [← e1, Nat.div_div_eq_div_mul, ← Nat.pow_succ]; congr 2; omega
  have hR : R < BB ^ (i + n + 1) := by
    refine Nat.lt_of_lt_of_le h.lt ?_
    have := Nat.mul_le_mul_right (BB ^ (i + 1)) (Nat.le_of_lt h.nrm.lt)
    rw [← Nat.pow_add, show n + (i + 1) = i + n + 1 by omega] at this
    exact this
  have h3 : R / BB ^ (i + n) < BB := by
    rw [Nat.div_lt_iff_lt_mul (Nat.pow_pos (by decide)), Nat.mul_comm, ← Nat.pow_succ]; exact hR
  refine ⟨rfl, by rw [e1], by rw [Nat.mod_eq_of_lt h3, e2], ?_⟩
  rw [e2] at h3
  exact (Nat.div_lt_iff_lt_mul (by decide)).1 h3

theorem At.U {V n i R : Nat} (h : At V n i R) : R / BB ^ i < V * BB ∧ R / BB ^ i = q3 n i R * BB ^ (n - 2) + R / BB ^ i % BB ^ (n - 2) := by
  have h2 := h.nrm.two
  refine ⟨?_, ?_⟩
  · rw [Nat.div_lt_iff_lt_mul (Nat.pow_pos (by decide)), Nat.mul_assoc, Nat.mul_comm BB, ← Nat.pow_succ]; exact h.lt
  · have e : q3 n i R = R / BB ^ i / BB ^ (n - 2) := by
      unfold q3
      rw [Nat.div_div_eq_div_mul, ← Nat.pow_add]; congr 2; omega
    rw [e, Nat.mul_comm, Nat.div_add_mod]

/-- The digit so far. -/
structure Dg (V n i R D rest : Nat) : Prop where
  top : q3 n i R / BB = D * (V / BB ^ (n - 1)) + rest
  ge : R / BB ^ i / V ≤ D
  rest : rest < BB
  lt : D < 2 * BB

theorem Dg.init {V n i R : Nat} (h : At V n i R) : Dg V n i R (q3 n i R / BB / (V / BB ^ (n - 1))) (q3 n i R / BB % (V / BB ^ (n - 1))) := by
  obtain ⟨h1, h2, h3⟩ := h.nrm.high
  obtain ⟨_, hU⟩ := h.U
  obtain ⟨_, _, _, h4⟩ := h.words
  have hp : 0 < V / BB ^ (n - 1) := by unfold BB at *; omega
  have hP : 0 < BB ^ (n - 2) := Nat.pow_pos (by decide)
  refine ⟨by rw [Nat.mul_comm, Nat.div_add_mod], ?_, Nat.lt_trans (Nat.mod_lt _ hp) h2, ?_⟩
  · refine kn_init (P := BB ^ (n - 2)) (next := V / BB ^ (n - 2) % BB) (Vr := V % BB ^ (n - 2)) (u2 := q3 n i R % BB) (Ur := R / BB ^ i % BB ^ (n - 2)) ?_ ?_ (Nat.mod_lt _ hP) (Nat.mod_lt _ (by decide)) hp
    · rw [Nat.mul_comm (q3 n i R / BB), Nat.div_add_mod]; exact hU
    · rw [← h3, Nat.mul_comm, Nat.div_add_mod]
  · rw [Nat.div_lt_iff_lt_mul hp]
    have : BB * BB ≤ 2 * BB * (V / BB ^ (n - 1)) := by
      rw [Nat.mul_comm 2, Nat.mul_assoc]; exact Nat.mul_le_mul_left _ h1
    omega

theorem Dg.next {V n i R D rest : Nat} (hA : At V n i R) (h : Dg V n i R D rest) (hc : BB ≤ D ∨ rest * BB + q3 n i R % BB < D * (V / BB ^ (n - 2) % BB)) :
    0 < D ∧ q3 n i R / BB = (D - 1) * (V / BB ^ (n - 1)) + (rest + V / BB ^ (n - 1)) ∧ R / BB ^ i / V ≤ D - 1 := by
  obtain ⟨h1, h2, h3⟩ := hA.nrm.high
  obtain ⟨hU1, hU⟩ := hA.U
  have hV : 0 < V := hA.nrm.pos
  have hP : 0 < BB ^ (n - 2) := Nat.pow_pos (by decide)
  have hD : R / BB ^ i / V < D := by
    rcases hc with hc | hc
    · refine Nat.lt_of_lt_of_le ?_ hc
      rw [Nat.div_lt_iff_lt_mul hV, Nat.mul_comm]; exact hU1
    · refine kn_step (P := BB ^ (n - 2)) (V2 := V / BB ^ (n - 2)) (Vr := V % BB ^ (n - 2)) (Ur := R / BB ^ i % BB ^ (n - 2)) hU (by rw [Nat.mul_comm, Nat.div_add_mod]) (Nat.mod_lt _ hP) ?_
      have e := Nat.div_add_mod (q3 n i R) BB
      rw [h.top] at e
      rw [h3, Nat.mul_add, ← Nat.mul_assoc]
      rw [Nat.mul_add, Nat.mul_comm BB, Nat.mul_comm BB rest] at e
      omega
  refine ⟨Nat.lt_of_le_of_lt (Nat.zero_le _) hD, ?_, Nat.le_sub_one_of_lt hD⟩
  have hD0 : 0 < D := Nat.lt_of_le_of_lt (Nat.zero_le _) hD
  have e : D * (V / BB ^ (n - 1)) = (D - 1) * (V / BB ^ (n - 1)) + V / BB ^ (n - 1) := by
    rw [← Nat.succ_mul]; congr 1; omega
  rw [h.top, e]; omega

/-- It ends at the digit, or at one more. -/
theorem Dg.fin {V n i R D rest : Nat} (hA : At V n i R) (htop : q3 n i R / BB = D * (V / BB ^ (n - 1)) + rest) (hge : R / BB ^ i / V ≤ D) (hc : (D < BB ∧ D * (V / BB ^ (n - 2) % BB) ≤ rest * BB + q3 n i R % BB) ∨ BB ≤ rest) :
    D < BB ∧ R / BB ^ i / V ≤ D ∧ D ≤ R / BB ^ i / V + 1 := by
  obtain ⟨h1, h2, h3⟩ := hA.nrm.high
  obtain ⟨hU1, hU⟩ := hA.U
  obtain ⟨_, _, w3, h4⟩ := hA.words
  have hV : 0 < V := hA.nrm.pos
  have hP : 0 < BB ^ (n - 2) := Nat.pow_pos (by decide)
  have e := Nat.div_add_mod (q3 n i R) BB
  have hnext : V / BB ^ (n - 2) % BB < BB := Nat.mod_lt _ (by decide)
  -- the highest word is not above the divisor's
  have hD : D < BB := by
    rcases hc with hc | hc
    · exact hc.1
    · rcases Nat.lt_or_ge D BB with hD | hD
      · exact hD
      · exfalso
        have h5 : BB * (V / BB ^ (n - 1)) ≤ D * (V / BB ^ (n - 1)) := Nat.mul_le_mul_right _ hD
        have h6 : q3 n i R / BB < (V / BB ^ (n - 1) + 1) * BB := by
          have h7 : R / BB ^ i / BB ^ (n - 1) = q3 n i R / BB := by
            unfold q3
            have h2' := hA.nrm.two
            rw [Nat.div_div_eq_div_mul, Nat.div_div_eq_div_mul, ← Nat.pow_add, ← Nat.pow_succ]; congr 2; omega
          rw [← h7, Nat.div_lt_iff_lt_mul (Nat.pow_pos (by decide))]
          refine Nat.lt_of_lt_of_le hU1 ?_
          rw [Nat.mul_right_comm]
          refine Nat.mul_le_mul_right _ ?_
          have e8 := Nat.div_add_mod V (BB ^ (n - 1))
          have l8 := Nat.mod_lt V (Nat.pow_pos (n := n - 1) (show 0 < BB by decide))
          rw [Nat.add_mul, Nat.mul_comm (V / _)]
          omega
        rw [Nat.add_mul, Nat.mul_comm (V / _)] at h6
        omega
  have hq : D * (V / BB ^ (n - 2)) ≤ q3 n i R := by
    rw [htop] at e
    rw [h3, Nat.mul_add, ← Nat.mul_assoc]
    rw [Nat.mul_add, Nat.mul_comm BB, Nat.mul_comm BB rest] at e
    rcases hc with hc | hc
    · omega
    · have h5 : D * (V / BB ^ (n - 2) % BB) ≤ BB * BB := Nat.mul_le_mul (Nat.le_of_lt hD) (Nat.le_of_lt hnext)
      have h6 : BB * BB ≤ rest * BB := Nat.mul_le_mul_right _ hc
      omega
  refine ⟨hD, hge, kn_end (P := BB ^ (n - 2)) (V2 := V / BB ^ (n - 2)) (Vr := V % BB ^ (n - 2)) (Ur := R / BB ^ i % BB ^ (n - 2)) hU (by rw [Nat.mul_comm, Nat.div_add_mod]) (Nat.mod_lt _ hP) hq ?_ hV⟩
  rw [h3]
  have : BB ≤ V / BB ^ (n - 1) * BB := Nat.le_mul_of_pos_left _ (by unfold BB at *; omega)
  omega

/-- What is left when the digit has been taken. -/
theorem At.step {V n i R : Nat} (h : At V n i R) : R - BB ^ i * (R / BB ^ i / V * V) < V * BB ^ i ∧ BB ^ i * (R / BB ^ i / V * V) ≤ R := by
  have hp : 0 < BB ^ i := Nat.pow_pos (by decide)
  have e1 := Nat.div_add_mod R (BB ^ i)
  have l1 := Nat.mod_lt R hp
  have e2 := Nat.div_add_mod (R / BB ^ i) V
  have l2 := Nat.mod_lt (R / BB ^ i) h.nrm.pos
  have e3 : BB ^ i * (R / BB ^ i) = BB ^ i * (R / BB ^ i / V * V) + BB ^ i * (R / BB ^ i % V) := by
    rw [← Nat.mul_add, Nat.mul_comm (R / BB ^ i / V), e2]
  have h3 : BB ^ i * (R / BB ^ i % V + 1) ≤ BB ^ i * V := Nat.mul_le_mul_left _ l2
  rw [Nat.mul_add] at h3
  rw [Nat.mul_comm V]
  generalize R / BB ^ i = U at *
  generalize R % BB ^ i = r at *
  generalize U % V = m at *
  generalize U / V * V = x at *
  omega

/-- Behind 'subtract', where it says no: the digit was right. -/
theorem At.sub_no {V n i R D Z : Nat} (h : At V n i R) (hge : R / BB ^ i / V ≤ D) (hz : Z + BB ^ i * (D * V) = R) : D = R / BB ^ i / V ∧ Z = R - BB ^ i * (R / BB ^ i / V * V) := by
  have hD : D ≤ R / BB ^ i / V := by
    rw [Nat.le_div_iff_mul_le h.nrm.pos, Nat.le_div_iff_mul_le (Nat.pow_pos (by decide)), Nat.mul_comm]; omega
  have : D = R / BB ^ i / V := by omega
  subst this
  exact ⟨rfl, by omega⟩

/-- Where it says yes: it was one too many; and 'restore' mends it. -/
theorem At.sub_yes {V n i R D Z Z2 k : Nat} (h : At V n i R) (hle : D ≤ R / BB ^ i / V + 1) (hge : R / BB ^ i / V ≤ D) (hZ : Z < BB ^ (i + n + 1)) (hZ2 : Z2 < BB ^ (i + n + 1)) (hz : Z + BB ^ i * (D * V) = R + BB ^ (i + n + 1)) (hz2 : Z2 + BB ^ (i + n + 1) * k = Z + BB ^ i * V) :
    D = R / BB ^ i / V + 1 ∧ Z2 = R - BB ^ i * (R / BB ^ i / V * V) := by
  obtain ⟨s1, s2⟩ := h.step
  have hD : D = R / BB ^ i / V + 1 := by
    rcases Nat.lt_or_ge (R / BB ^ i / V) D with h1 | h1
    · omega
    · have : D = R / BB ^ i / V := by omega
      subst this; omega
  refine ⟨hD, ?_⟩
  subst hD
  rw [Nat.add_mul, Nat.one_mul, Nat.mul_add] at hz
  have hV : V * BB ^ i < BB ^ (i + n + 1) := by
    have h2 : V * BB ^ i < BB ^ n * BB ^ i := Nat.mul_lt_mul_of_pos_right h.nrm.lt (Nat.pow_pos (by decide))
    have h3 : BB ^ (i + n + 1) = BB ^ n * BB ^ i * BB := by rw [Nat.pow_succ, Nat.pow_add, Nat.mul_comm (BB ^ i)]
    have h4 : BB ^ n * BB ^ i * 1 ≤ BB ^ n * BB ^ i * BB := Nat.mul_le_mul_left _ (by decide)
    omega
  rcases Nat.lt_or_ge k 1 with hk | hk
  · have : k = 0 := by omega
    subst this
    rw [Nat.mul_zero] at hz2
    omega
  · rcases Nat.lt_or_ge k 2 with hk2 | hk2
    · have : k = 1 := by omega
      subst this
      rw [Nat.mul_one] at hz2
      omega
    · have : BB ^ (i + n + 1) * 2 ≤ BB ^ (i + n + 1) * k := Nat.mul_le_mul_left _ hk2
      omega

end Go.Eng

/-! ## Ord -/
namespace Go.Eng
open Go

theorem drop_getD {xs : List Int} {i : Nat} (h : i < xs.length) : xs.drop i = xs.getD i 0 :: xs.drop (i + 1) := by
  rw [List.drop_eq_getElem_cons h, List.getD_eq_getElem?_getD, List.getElem?_eq_getElem h]; rfl

def cmpZ (x y : Int) : Int := if x < y then -1 else if y < x then 1 else 0

/-- As slices.Compare. -/
def cmpL : List Int → List Int → Int
  | [], [] => 0
  | [], _ :: _ => -1
  | _ :: _, [] => 1
  | x :: xs, y :: ys => if cmpZ x y = 0 then cmpL xs ys else cmpZ x y

/-- Shorter ones first. -/
def cmpV (a b : List Int) : Int := if cmpZ a.length b.length = 0 then cmpL a b else cmpZ a.length b.length

/-- As the reference has it. -/
def befL : List Int → List Int → Int
  | x :: xs, y :: ys => if x = y then befL xs ys else IntKind.i64.wrap (x - y)
  | _, _ => 0
def bef (a b : List Int) : Int := if a.length = b.length then befL a b else (a.length : Int) - b.length

theorem cmpZ_zero {x y : Int} : cmpZ x y = 0 ↔ x = y := by unfold cmpZ; (repeat' split) <;> omega
theorem cmpZ_neg {x y : Int} : cmpZ x y < 0 ↔ x < y := by unfold cmpZ; (repeat' split) <;> omega
theorem cmpZ_pos {x y : Int} : 0 < cmpZ x y ↔ y < x := by unfold cmpZ; (repeat' split) <;> omega
theorem cmpZ_swap (x y : Int) : cmpZ y x = - cmpZ x y := by unfold cmpZ; (repeat' split) <;> omega

theorem cmpL_zero : ∀ {a b : List Int}, cmpL a b = 0 ↔ a = b
  | [], [] => by simp [cmpL]
  | [], _ :: _ => by simp [cmpL]
  | _ :: _, [] => by simp [cmpL]
  | x :: xs, y :: ys => by
    have ih := cmpL_zero (a := xs) (b := ys)
    have hz := cmpZ_zero (x := x) (y := y)
    simp only [cmpL, List.cons.injEq]
    split
    · rename_i h; rw [ih]; simp [hz.1 h]
    · rename_i h
      refine ⟨fun h2 => absurd h2 h, fun h2 => absurd (hz.2 h2.1) h⟩
theorem cmpL_swap : ∀ (a b : List Int), cmpL b a = - cmpL a b
  | [], [] => by simp [cmpL]
  | [], _ :: _ => by simp [cmpL]
  | _ :: _, [] => by simp [cmpL]
  | x :: xs, y :: ys => by
    have ih := cmpL_swap xs ys
    have hz := cmpZ_swap x y
    simp only [cmpL]
    split <;> split <;> omega
theorem cmpL_trans : ∀ {a b c : List Int}, cmpL a b ≤ 0 → cmpL b c ≤ 0 → cmpL a c ≤ 0
  | [], _, [], _, _ => by simp [cmpL]
  | [], _, _ :: _, _, _ => by simp [cmpL]
  | _ :: _, [], _, h, _ => by simp [cmpL] at h
  | _ :: _, _ :: _, [], _, h => by simp [cmpL] at h
  | x :: xs, y :: ys, z :: zs, h1, h2 => by
    have ih := cmpL_trans (a := xs) (b := ys) (c := zs)
    simp only [cmpL] at *
    unfold cmpZ at *
    (repeat' split at h1) <;> (repeat' split at h2) <;> (repeat' split) <;> first | omega | (exact ih h1 h2) | (subst_vars; omega)

theorem cmpV_zero {a b : List Int} : cmpV a b = 0 ↔ a = b := by
  unfold cmpV
  split
  · exact cmpL_zero
  · rename_i h
    refine ⟨fun h2 => absurd h2 h, fun h2 => ?_⟩
    subst h2
    exact absurd (cmpZ_zero.2 rfl) h
theorem cmpV_swap (a b : List Int) : cmpV b a = - cmpV a b := by
  unfold cmpV
  rw [cmpZ_swap (a.length : Int) b.length, cmpL_swap a b]
  split <;> split <;> omega
theorem cmpV_trans {a b c : List Int} (h1 : cmpV a b ≤ 0) (h2 : cmpV b c ≤ 0) : cmpV a c ≤ 0 := by
  have := cmpL_trans (a := a) (b := b) (c := c)
  unfold cmpV cmpZ at *
  (repeat' split at h1) <;> (repeat' split at h2) <;> (repeat' split) <;> first | omega | (exact this h1 h2)

def In63 (a : List Int) : Prop := ∀ x ∈ a, 0 ≤ x ∧ x < 9223372036854775808

theorem befL_sgn : ∀ {a b : List Int}, In63 a → In63 b → a.length = b.length → (befL a b < 0 ↔ cmpL a b < 0) ∧ (befL a b = 0 ↔ a = b)
  | [], [], _, _, _ => by simp [befL, cmpL]
  | x :: xs, y :: ys, ha, hb, hl => by
    have ih := befL_sgn (a := xs) (b := ys) (fun z hz => ha z (by simp [hz])) (fun z hz => hb z (by simp [hz])) (by simpa using hl)
    have h1 := ha x (by simp)
    have h2 := hb y (by simp)
    simp only [befL, cmpL, List.cons.injEq]
    by_cases h : x = y
    · rw [if_pos h, if_pos (cmpZ_zero.2 h), ih.2]
      exact ⟨ih.1, by simp [h]⟩
    · have hw : IntKind.i64.wrap (x - y) = x - y := IntWalk.i64_in _ (by omega)
      rw [if_neg h, if_neg (fun e => h (cmpZ_zero.1 e)), hw, cmpZ_neg]
      refine ⟨by omega, by omega⟩
theorem bef_sgn {a b : List Int} (ha : In63 a) (hb : In63 b) : (bef a b < 0 ↔ cmpV a b < 0) ∧ (bef a b = 0 ↔ a = b) := by
  unfold bef cmpV
  split
  · rename_i h
    rw [if_pos (cmpZ_zero.2 (by omega))]
    exact befL_sgn ha hb h
  · rename_i h
    rw [if_neg (fun e => h (by have := cmpZ_zero.1 e; omega)), cmpZ_neg]
    refine ⟨by omega, ⟨fun e => absurd e (by omega), fun e => absurd (by rw [e]) h⟩⟩

end Go.Eng

/-! ## Srt -/
namespace Go.Eng

variable {α : Type} [Inhabited α]

theorem getD_set_same {xs : List α} {i : Nat} {x : α} (h : i < xs.length) : (xs.set i x).getD i default = x := by
  rw [List.getD_eq_getElem?_getD, List.getElem?_set_self h]; rfl
theorem getD_set_other {xs : List α} {i j : Nat} {x : α} (h : i ≠ j) : (xs.set i x).getD j default = xs.getD j default := by
  rw [List.getD_eq_getElem?_getD, List.getElem?_set_ne h, List.getD_eq_getElem?_getD]

/-- Two places change their contents. -/
def swp (xs : List α) (i j : Nat) : List α := (xs.set i (xs.getD j default)).set j (xs.getD i default)

theorem swp_length (xs : List α) (i j : Nat) : (swp xs i j).length = xs.length := by simp [swp]
theorem swp_get {xs : List α} {i j k : Nat} (hi : i < xs.length) (hj : j < xs.length) :
    (swp xs i j).getD k default = if k = j then xs.getD i default else if k = i then xs.getD j default else xs.getD k default := by
  unfold swp
  by_cases h1 : k = j
  · subst h1
    rw [if_pos rfl, getD_set_same (by simpa using hj)]
  · rw [if_neg h1, getD_set_other (fun e => h1 e.symm)]
    by_cases h2 : k = i
    · subst h2
      rw [if_pos rfl, getD_set_same hi]
    · rw [if_neg h2, getD_set_other (fun e => h2 e.symm)]
theorem getD_eq {xs : List α} {i : Nat} (h : i < xs.length) : xs.getD i default = xs[i] := by
  rw [List.getD_eq_getElem?_getD, List.getElem?_eq_getElem h]; rfl
theorem swp_perm {xs : List α} {i j : Nat} (hi : i < xs.length) (hj : j < xs.length) : (swp xs i j).Perm xs := by
  unfold swp
  rw [getD_eq hi, getD_eq hj]
  exact List.set_set_perm hi hj

/-- In order from a place to another. -/
def Srt (le : α → α → Prop) (xs : List α) (lo hi : Nat) : Prop := ∀ a b, lo ≤ a → a < b → b < hi → le (xs.getD a default) (xs.getD b default)

/-- Outside a part nothing has changed. -/
def Out (xs0 xs : List α) (lo hi : Nat) : Prop := xs.length = xs0.length ∧ xs.Perm xs0 ∧ ∀ j, (j < lo ∨ hi ≤ j) → xs.getD j default = xs0.getD j default

theorem Out.refl (xs : List α) (lo hi : Nat) : Out xs xs lo hi := ⟨rfl, .refl _, fun _ _ => rfl⟩
theorem Out.trans {xs ys zs : List α} {lo hi : Nat} (h1 : Out xs ys lo hi) (h2 : Out ys zs lo hi) : Out xs zs lo hi :=
  ⟨h2.1.trans h1.1, h2.2.1.trans h1.2.1, fun j hj => (h2.2.2 j hj).trans (h1.2.2 j hj)⟩
theorem Out.mono {xs ys : List α} {lo hi lo' hi' : Nat} (h : Out xs ys lo hi) (h1 : lo' ≤ lo) (h2 : hi ≤ hi') : Out xs ys lo' hi' :=
  ⟨h.1, h.2.1, fun j hj => h.2.2 j (by omega)⟩
theorem Out.swp {xs0 xs : List α} {lo hi i j : Nat} (h : Out xs0 xs lo hi) (hi1 : lo ≤ i) (hi2 : i < hi) (hj1 : lo ≤ j) (hj2 : j < hi) (hl : hi ≤ xs.length) : Out xs0 (swp xs i j) lo hi := by
  refine ⟨by rw [swp_length]; exact h.1, (swp_perm (by omega) (by omega)).trans h.2.1, fun k hk => ?_⟩
  rw [swp_get (by omega) (by omega), if_neg (by omega), if_neg (by omega)]
  exact h.2.2 k hk

theorem Srt.mono {le : α → α → Prop} {xs : List α} {lo hi lo' hi' : Nat} (h : Srt le xs lo hi) (h1 : lo ≤ lo') (h2 : hi' ≤ hi) : Srt le xs lo' hi' :=
  fun a b ha hab hb => h a b (by omega) hab (by omega)
theorem Srt.out {le : α → α → Prop} {xs ys : List α} {lo hi l h : Nat} (hs : Srt le xs l h) (ho : Out xs ys lo hi) (hd : h ≤ lo ∨ hi ≤ l) : Srt le ys l h := by
  intro a b ha hab hb
  rw [ho.2.2 a (by omega), ho.2.2 b (by omega)]
  exact hs a b ha hab hb

/-- The inner loop of an insertion sort: the element that came in at i stands at k. -/
structure Ins (le : α → α → Prop) (lo i k : Nat) (xs : List α) : Prop where
  lok : lo ≤ k
  ki : k ≤ i
  rest : ∀ a b, lo ≤ a → a < b → b ≤ i → a ≠ k → b ≠ k → le (xs.getD a default) (xs.getD b default)
  up : ∀ b, k < b → b ≤ i → le (xs.getD k default) (xs.getD b default)

theorem Ins.init {le : α → α → Prop} {lo i : Nat} {xs : List α} (h : Srt le xs lo i) (hl : lo ≤ i) : Ins le lo i i xs :=
  ⟨hl, Nat.le_refl _, fun a b ha hab hb h1 h2 => h a b ha hab (by omega), fun b h1 h2 => by omega⟩
theorem Ins.step {le : α → α → Prop} {lo i k : Nat} {xs : List α} (h : Ins le lo i k xs) (hk : lo < k) (hl : i < xs.length) (hle : le (xs.getD k default) (xs.getD (k - 1) default)) : Ins le lo i (k - 1) (swp xs (k - 1) k) := by
  have hki := h.ki
  have g : ∀ j, (swp xs (k - 1) k).getD j default = if j = k then xs.getD (k - 1) default else if j = k - 1 then xs.getD k default else xs.getD j default := fun j => swp_get (by omega) (by omega)
  refine ⟨by omega, by omega, fun a b ha hab hb h1 h2 => ?_, fun b h1 h2 => ?_⟩
  · rw [g a, g b, if_neg h1, if_neg h2]
    by_cases hak : a = k
    · rw [if_pos hak, if_neg (by omega)]
      exact h.rest (k - 1) b (by omega) (by omega) hb (by omega) (by omega)
    · rw [if_neg hak]
      by_cases hbk : b = k
      · rw [if_pos hbk]
        exact h.rest a (k - 1) ha (by omega) (by omega) hak (by omega)
      · rw [if_neg hbk]
        exact h.rest a b ha hab hb hak hbk
  · rw [g (k - 1), g b, if_neg (by omega), if_pos rfl]
    by_cases hbk : b = k
    · rw [if_pos hbk]; exact hle
    · rw [if_neg hbk, if_neg (by omega)]
      exact h.up b (by omega) h2
theorem Ins.done {le : α → α → Prop} (tr : ∀ {x y z}, le x y → le y z → le x z) {lo i k : Nat} {xs : List α} (h : Ins le lo i k xs) (hk : k = lo ∨ le (xs.getD (k - 1) default) (xs.getD k default)) : Srt le xs lo (i + 1) := by
  intro a b ha hab hb
  have h1 := h.lok
  have h2 := h.ki
  by_cases hak : a = k
  · subst hak; exact h.up b hab (by omega)
  · by_cases hbk : b = k
    · subst hbk
      rcases hk with hk | hk
      · omega
      · by_cases hab2 : a = b - 1
        · subst hab2; exact hk
        · exact tr (h.rest a (b - 1) ha (by omega) (by omega) hak (by omega)) hk
    · exact h.rest a b ha hab (by omega) hak hbk

theorem srt_pairwise {le : α → α → Prop} {xs : List α} (h : Srt le xs 0 xs.length) : xs.Pairwise le := by
  rw [List.pairwise_iff_getElem]
  intro i j hi hj hij
  have := h i j (Nat.zero_le _) hij hj
  rwa [getD_eq hi, getD_eq hj] at this

end Go.Eng

/-! ## Srz -/
namespace Go.Eng

def srtZ (l : List Int) : List Int := l.mergeSort (fun a b => decide (a ≤ b))
theorem srtZ_perm (l : List Int) : (srtZ l).Perm l := List.mergeSort_perm _ _
theorem srtZ_pair (l : List Int) : (srtZ l).Pairwise (· ≤ ·) := by
  have h := List.pairwise_mergeSort (le := fun a b : Int => decide (a ≤ b)) (by intro a b c; simp; omega) (by intro a b; simp; omega) l
  exact h.imp (by intro a b h; simpa using h)
theorem srtZ_length (l : List Int) : (srtZ l).length = l.length := (srtZ_perm l).length_eq
theorem srtZ_of {l xs : List Int} (h : Srt (· ≤ ·) xs 0 xs.length) (hp : xs.Perm l) : xs = srtZ l :=
  List.Perm.eq_of_pairwise (le := (· ≤ ·)) (fun a b _ _ h1 h2 => by omega) (srt_pairwise h) (srtZ_pair l) (hp.trans (srtZ_perm l).symm)
theorem srtZ_self {l : List Int} (h : l.Pairwise (· ≤ ·)) : srtZ l = l :=
  List.Perm.eq_of_pairwise (le := (· ≤ ·)) (fun a b _ _ h1 h2 => by omega) (srtZ_pair l) h (srtZ_perm l)
theorem srtZ_congr {a b : List Int} (h : a.Perm b) : srtZ a = srtZ b :=
  List.Perm.eq_of_pairwise (le := (· ≤ ·)) (fun a b _ _ h1 h2 => by omega) (srtZ_pair a) (srtZ_pair b) ((srtZ_perm a).trans (h.trans (srtZ_perm b).symm))

end Go.Eng

/-! ## Srs -/
namespace Go.Proofs.YthfekehoehdkoaaGreat
open Go Go.Proofs Go.Eng Go.Sort

theorem mergeSort_srtZ (xs : List Int) : (xs.mergeSort fun x y => decide (x ≤ y)) = srtZ xs := rfl

def SortR (e : TypeId) (xs : List Int) (r : V) (B' : Bk) : Prop := r = .tup [] ∧ B' = .ints e .i64 (srtZ xs)

theorem heap_mapBlock_other (w : World) (blk k : Nat) (f : Array Value → Array Value) (h : k ≠ blk) : (mapBlock w blk f).heap[k]? = w.heap[k]? := by
  simp only [mapBlock, Array.getElem?_modify]
  rw [if_neg (fun e => h e.symm)]
theorem heap_mapBlock_same (w : World) (blk : Nat) (f : Array Value → Array Value) {c : Array Value} {e : TypeId} {fr : Nat × Nat} (h : w.heap[blk]? = some (.cells c e fr)) : (mapBlock w blk f).heap[blk]? = some (.cells (f c) e fr) := by
  simp [mapBlock, Array.getElem?_modify, h, onCells]

theorem sortZ_spec (e : TypeId) (xs : List Int) (hl : xs.length < 2 ^ 38) : MutCalls Tryz.prog 28 [.one (.own 0 1 0 xs.length)] (.ints e .i64 xs) (SortR e xs) := by
  refine ⟨⟨_, Tryz.func28, by rfl, by rfl⟩, fun ok w vs l hok hll hla hb hr => ?_⟩
  obtain ⟨vs⟩ := vs
  match vs, hr with
  | [v], hr =>
    obtain ⟨⟨_, _, cap, hcap, hv⟩, _⟩ := hr
    have hsl : (srtZ xs).length = xs.length := srtZ_length xs
    by_cases h0 : xs.length = 0
    · have hx : xs = [] := List.eq_nil_of_length_eq_zero h0
      subst hx
      have hv2 : ∃ p c, v = .slice p 0 c := by
        rcases hv with ⟨g, o, o', _, rfl, _⟩ | ⟨_, rfl, _⟩
        · exact ⟨_, _, rfl⟩
        · exact ⟨_, _, rfl⟩
      obtain ⟨p, c, rfl⟩ := hv2
      refine (Tryz.slices_Sort_int_none p c w).mono ?_
      rintro e1 w' ⟨rfl, rfl⟩
      have hs0 : srtZ [] = [] := List.eq_nil_of_length_eq_zero hsl
      refine ⟨_, .tup [], .ints e .i64 [], rfl, ⟨rfl, by rw [hs0]⟩, trivial, rfl, ⟨rfl, rfl, rfl, Nat.le_refl _, fun _ _ _ => rfl, fun _ => Nat.le_refl _⟩, ?_, ⟨#[], rfl, trivial⟩⟩
      refine RepBk.ext (Ext.of_imp fun g hg => .inl hg) ⟨fun _ h => h, fun _ _ => rfl⟩ l _ (fun _ _ _ => rfl) hb
    · rcases hv with ⟨g, o, o', ha, rfl, ho, hroom⟩ | ⟨_, _, h1, _⟩
      · have ho' : o' = o := by rcases ho with ho | ho <;> omega
        subst ho'
        unfold RepBk at hb
        rw [ha] at hb
        obtain ⟨cur, e', hg, hcell⟩ := hb
        have hgl := (hla g o' ha).1
        have hx : ∀ j, j < xs.length → cur[o' + j]? = some (.int .i64 (xs.getD j 0)) := by
          intro j hj
          obtain ⟨u, hu, hru⟩ := hcell j (.int .i64 (xs.getD j 0)) (by simp [Bk.cell, List.getElem?_eq_getElem hj])
          have hru : u = .int .i64 (xs.getD j 0) := hru
          rw [hu, hru]
        have hH : Holds (Value.int .i64) w g o' xs.toArray := by
          intro j hj
          have hj : j < xs.length := by simpa using hj
          refine ⟨?_, ?_⟩
          · rw [World.cell?, hg]
            simp only [Option.isSome_none, Bool.false_eq_true, if_false]
            rw [hx j hj]
            congr 2
            simp [List.getD_eq_getElem?_getD, hj]
          · simp only [World.frozen?, hg]
            simp
        refine (Tryz.slices_Sort_int g o' cap xs w hH hgl (by omega)).mono ?_
        rintro e1 w' ⟨rfl, n, os, rfl⟩
        rw [mergeSort_srtZ]
        have hgl' : g < (putRow (Value.int .i64) (Sort.ahead w n) g o' (srtZ xs).toArray).heap.size := by simpa using hgl
        have hgs : (putRow (Value.int .i64) (Sort.ahead w n) g o' (srtZ xs).toArray).heap[g]? = some (.cells (putCells (Value.int .i64) o' (srtZ xs).toArray cur) e' (0, 0)) := heap_mapBlock_same (Sort.ahead w n) g _ hg
        refine ⟨_, .tup [], .ints e .i64 (srtZ xs), rfl, ⟨rfl, rfl⟩, trivial, hsl, ⟨rfl, rfl, rfl, by simp, fun k hk hne => ?_, fun g' => ?_⟩, ?_, ⟨#[], rfl, trivial⟩⟩
        · rw [heap_grow_old _ _ (by simpa using hk)]
          exact heap_mapBlock_other (Sort.ahead w n) g k _ (fun e => hne o' (by rw [e]; exact ha))
        · by_cases hg' : g' < w.heap.size
          · by_cases hgg : g' = g
            · subst hgg
              simp only [rowSize, heap_grow_old _ _ hgl', hgs, hg, putCells]
              simp
            · rw [rowSize_of_block (w' := grow _ os) (w := w) (by rw [heap_grow_old _ _ (by simpa using hg')]; exact heap_mapBlock_other (Sort.ahead w n) g g' _ hgg)]
              exact Nat.le_refl _
          · rw [rowSize_lt hg']; exact Nat.zero_le _
        · unfold RepBk
          rw [ha]
          refine ⟨_, e', by rw [heap_grow_old _ _ hgl']; exact hgs, fun j c hj => ?_⟩
          simp only [Bk.cell] at hj
          have hjl : j < (srtZ xs).length := by
            rcases Nat.lt_or_ge j (srtZ xs).length with h | h
            · exact h
            · rw [List.getElem?_eq_none h] at hj; cases hj
          rw [List.getElem?_eq_getElem hjl] at hj
          simp only [Option.map_some, Option.some.injEq] at hj
          subst hj
          refine ⟨.int .i64 ((srtZ xs)[j]), ?_, rfl⟩
          have hc := hx j (by omega)
          simp only [putCells, Array.getElem?_mapIdx, hc, Option.map_some]
          rw [if_pos ⟨by omega, by simp; omega⟩]
          congr 2
          simp [hjl]
      · exact absurd h1 h0

end Go.Proofs.YthfekehoehdkoaaGreat

/-! ## FnYr -/
namespace Go.Proofs.YthfekehoehdkoaaGreat
open Go Go.Eng Go.Gra Go.Tre

/-! ### The program: the points of a tree. -/
theorem dd_up {xs : List Int} (hs : ∀ i j, i ≤ j → j < xs.length → xs.getD i 0 ≤ xs.getD j 0) : ∀ j, j ≤ xs.length → Up (dd xs j) ∧ ∀ x, x ∈ dd xs j ↔ ∃ i, i < j ∧ xs.getD i 0 = x
  | 0, _ => ⟨List.Pairwise.nil, fun x => by simp [dd]⟩
  | j + 1, hj => by
    obtain ⟨h1, h2⟩ := dd_up hs j (by omega)
    unfold dd
    by_cases h : j = 0 ∨ xs.getD j 0 ≠ xs.getD (j - 1) 0
    · rw [if_pos h]
      refine ⟨?_, fun x => ?_⟩
      · unfold Up
        rw [List.pairwise_append]
        refine ⟨h1, List.pairwise_singleton .., fun a ha b hb => ?_⟩
        obtain ⟨i, hi, rfl⟩ := (h2 a).1 ha
        rw [List.mem_singleton.1 hb]
        have e1 := hs i (j - 1) (by omega) (by omega)
        have e2 := hs (j - 1) j (by omega) (by omega)
        rcases h with h | h
        · omega
        · omega
      · rw [List.mem_append, List.mem_singleton, h2]
        constructor
        · rintro (⟨i, hi, rfl⟩ | rfl)
          · exact ⟨i, by omega, rfl⟩
          · exact ⟨j, by omega, rfl⟩
        · rintro ⟨i, hi, rfl⟩
          by_cases e : i = j
          · rw [e]; exact .inr rfl
          · exact .inl ⟨i, by omega, rfl⟩
    · rw [if_neg h]
      refine ⟨h1, fun x => ?_⟩
      rw [h2]
      constructor
      · rintro ⟨i, hi, rfl⟩; exact ⟨i, by omega, rfl⟩
      · rintro ⟨i, hi, rfl⟩
        by_cases e : i = j
        · exact ⟨j - 1, by omega, by rw [e]; exact (Classical.byContradiction fun h' => h (.inr fun k => h' k.symm))⟩
        · exact ⟨i, by omega, rfl⟩
theorem srtZ_get (l : List Int) (i j : Nat) (hij : i ≤ j) (hj : j < (srtZ l).length) : (srtZ l).getD i 0 ≤ (srtZ l).getD j 0 := by
  by_cases e : i = j
  · rw [e]; omega
  · have := List.pairwise_iff_getElem.1 (srtZ_pair l) i j (by omega) hj (by omega)
    rw [List.getD_eq_getElem?_getD, List.getD_eq_getElem?_getD, List.getElem?_eq_getElem hj, List.getElem?_eq_getElem (show i < _ by omega)]
    exact this
theorem points_eq {t : Tree} (hf : Fit t) : dd (srtZ (ends t)) (srtZ (ends t)).length = lstI (bset t) := by
  obtain ⟨h1, h2⟩ := dd_up (srtZ_get (ends t)) _ (Nat.le_refl _)
  refine up_ext h1 (lstI_up _) fun x => ?_
  rw [h2, mem_lstI (bset_lt t hf)]
  have key : (∃ i, i < (srtZ (ends t)).length ∧ (srtZ (ends t)).getD i 0 = x) ↔ x ∈ ends t := by
    rw [← (srtZ_perm (ends t)).mem_iff]
    constructor
    · rintro ⟨i, hi, rfl⟩
      rw [List.getD_eq_getElem?_getD, List.getElem?_eq_getElem hi]
      exact List.getElem_mem _
    · intro h
      obtain ⟨i, hi, rfl⟩ := List.mem_iff_getElem.1 h
      exact ⟨i, hi, by rw [List.getD_eq_getElem?_getD, List.getElem?_eq_getElem hi]; rfl⟩
  rw [key]
  constructor
  · intro hx
    have hr := ends_fit t hf x hx
    refine ⟨hr.1, (bset_iff t hf x.toNat).2 ?_⟩
    rw [Int.toNat_of_nonneg hr.1]; exact hx
  · rintro ⟨h0, hx⟩
    have := (bset_iff t hf x.toNat).1 hx
    rwa [Int.toNat_of_nonneg h0] at this

theorem endsL_take (l : List E) {k : Nat} (hk : k < l.length) : endsL (l.take (k + 1)) = endsL (l.take k) ++ [(l.getD k (0, 0)).1, (l.getD k (0, 0)).2] := by
  unfold endsL
  have e : l.take (k + 1) = l.take k ++ [l.getD k (0, 0)] := by
    rw [List.getD_eq_getElem?_getD, List.getElem?_eq_getElem hk, List.take_add_one, List.getElem?_eq_getElem hk]; rfl
  rw [e, List.flatMap_append]
  rfl
theorem endsL_len (l : List E) : (endsL l).length = 2 * l.length := by
  induction l with
  | nil => rfl
  | cons e l ih => unfold endsL at *; simp only [List.flatMap_cons, List.length_append, ih, List.length_cons, List.length_nil]; omega

set_option maxRecDepth 10000 in
set_option maxHeartbeats 2000000 in
theorem iPoints {t : Tree} (hf : Fit t) (hn : nodes t < 2 ^ 36) : PureCalls Tryz.prog 10 [.agg (tA t)] (.one (.ints .i64 (lstI (bset t)))) := by
  have cb := (iBars t hf.whole (by omega)).rows
  have bl := bars_len t
  have pe := points_eq hf
  obtain ⟨l, hl⟩ : ∃ l, l = bars t := ⟨_, rfl⟩
  have he : ends t = endsL l := by rw [hl]; rfl
  rw [he] at pe
  rw [← hl] at cb bl
  refine pure_of_vc T_ok mixed Tryz.func10 rfl (by decide) _ (by simp [Tryz.ntmps10]) ⟨[0, 1, 2, 3, 5, 7, 8, 9, 10], []⟩ (by kernel_rfl) _ ?_
  show vc T Tryz.prog ⟨[0, 1, 2, 3, 5, 7, 8, 9, 10], []⟩ (Option.get! Tryz.f10.body) _ _
  simp only [Tryz.f10, Tryz.ntmps10, Option.get!, initSt, initM, envOf, Nat.reduceAdd]
  simp only [vx, T, seval, tA]
  refine CallK.go cb ?_
  simp only [vx, T, seval, tA]
  refine LoopK.go (fun y : {i : Nat // i ≤ l.length} => ⟨[(0, .agg (tA t)), (1, .one (.ptr 1 0)), (2, .one .nil), (3, .one (.own 2 1 0 (endsL (l.take y.1)).length)), (7, .one (.rows 2 l.length (eR l))), (8, .one (.int .i64 l.length)), (9, .one (.int .i64 y.1))], [(1, ⟨.var (tA t), true⟩), (2, ⟨.ints 3 .i64 (endsL (l.take y.1)), true⟩)], 3, 25⟩) (fun y => l.length - y.1) ⟨0, Nat.zero_le _⟩ ?_ (fun ⟨i, hi⟩ => ?_)
  · refine Sub.auto ?_; simp only [rx, envRen, vRen, cRen, lRen, ownRen, bRen, apartRen, emptyBk, ren, seval, autoR, autoOne, Int.natCast_add, Int.natCast_one, Int.natCast_zero, tA, List.take_zero, endsL, List.flatMap_nil, List.length_nil]
  simp only
  have wi : IntKind.i64.wrap ((i : Int) + 1) = ((i + 1 : Nat) : Int) := by rw [IntWalk.i64_in _ (by omega)]; omega
  have ln := endsL_len (l.take i)
  rw [List.length_take] at ln
  have tk : List.take (endsL (l.take i)).length (endsL (l.take i)) = endsL (l.take i) := List.take_length
  simp only [vx, T, seval, tA]
  refine ⟨fun g => Later.go ?_, fun g => Later.go ?_⟩
  · have sc := endsL_take l (k := i) (by omega)
    have fi := congrArg List.length sc
    rw [List.length_append] at fi
    simp only [vx, T, seval, tA, eR, tk, ← sc, wi]
    refine ⟨by omega, ?_⟩
    refine ⟨⟨by omega, by omega⟩, loopQ.go ⟨i + 1, by omega⟩ ?_ (by show l.length - (i + 1) < l.length - i; omega)⟩
    refine Sub.auto ?_; simp only [rx, envRen, vRen, cRen, lRen, ownRen, bRen, apartRen, emptyBk, ren, seval, autoR, autoOne, Int.natCast_add, Int.natCast_one, Int.natCast_zero, tA, fi, List.length_cons, List.length_nil]
  · obtain rfl : i = l.length := by omega
    rw [List.take_length] at *
    simp only [vx, T, seval, tA, List.take_length]
    refine CallK.mut 2 rfl trivial (sortZ_spec 3 (endsL l) (by omega)) ?_
    rintro r B' ⟨rfl, rfl⟩ _
    simp only [vx, T, seval, tA]
    refine CallK.mut 2 rfl trivial (iCompact (xs := srtZ (endsL l)) (srtZ_length _) (by omega)) ?_
    rintro r B' ⟨ys, rfl, rfl, hy1, hy2⟩ _
    rw [pe] at hy2 ⊢
    simp only [vx, T, seval, tA, hy2]
    exact VLe.of_eq rfl
end Go.Proofs.YthfekehoehdkoaaGreat

/-! ## FnYk -/
namespace Go.Proofs.YthfekehoehdkoaaGreat
open Go Go.Eng Go.Gra Go.Tre

/-! ### The reference: a set as a list; its only point; corners. -/
def lstP (s k : Nat) : List Int := ((List.range k).filter fun i => s.testBit i).map fun (i : Nat) => (i : Int)
theorem lstP_succ (s k : Nat) : lstP s (k + 1) = if s.testBit k = true then lstP s k ++ [(k : Int)] else lstP s k := by
  unfold lstP
  rw [List.range_succ, List.filter_append, List.map_append]
  by_cases h : s.testBit k = true
  · rw [if_pos h]; simp [h]
  · rw [if_neg h]; simp [h]
theorem lstP_len (s k : Nat) : (lstP s k).length ≤ k := by
  unfold lstP
  rw [List.length_map]
  exact Nat.le_trans (List.length_filter_le _ _) (by simp)
theorem lstP_end {s k : Nat} (hs : s < 2 ^ 31) (hk : k ≤ 31) (h : s / 2 ^ k = 0) : lstP s k = lstI s := by
  have hlt : s < 2 ^ k := by
    rcases Nat.lt_or_ge s (2 ^ k) with h1 | h1
    · exact h1
    · have := Nat.div_pos h1 (Nat.two_pow_pos k); omega
  unfold lstP lstI
  congr 1
  have : List.range 31 = List.range k ++ (List.range (31 - k)).map (k + ·) := by rw [← List.range_add]; congr 1; omega
  rw [this, List.filter_append]
  have : ((List.range (31 - k)).map (k + ·)).filter (fun i => s.testBit i) = [] := by
    rw [List.filter_eq_nil_iff]
    intro x hx
    obtain ⟨y, _, rfl⟩ := List.mem_map.1 hx
    rw [Nat.testBit_lt_two_pow (Nat.lt_of_lt_of_le hlt (Nat.pow_le_pow_right (by decide) (by omega)))]
    simp
  rw [this, List.append_nil]

set_option maxRecDepth 10000 in
theorem rList {s : Nat} (hs : s < 2 ^ 31) : FreshCalls Tryz.prog 11 [.one (.int .i64 (s : Nat))] (.ints 3 .i64 (lstI s)) := by
  refine fresh_of_vc T_ok mixed Tryz.func11 rfl (by decide) _ (by simp [Tryz.ntmps11]) ⟨[0, 2, 3, 4, 6, 11], []⟩ (by kernel_rfl) (.ints 3 .i64 (lstI s)) trivial ?_
  show vc T Tryz.prog ⟨[0, 2, 3, 4, 6, 11], []⟩ (Option.get! Tryz.f11.body) _ _
  simp only [Tryz.f11, Tryz.ntmps11, Option.get!, initSt, initM, envOf, Nat.reduceAdd]
  simp only [vx, T, seval]
  refine LoopK.go (fun y : {i : Nat // i ≤ 31} => ⟨[(0, .one (.int .i64 (s / 2 ^ y.1 : Nat))), (2, .one .nil), (3, .one (.own 1 1 0 (lstP s y.1).length)), (4, .one (.int .i64 y.1))], [(1, ⟨.ints 3 .i64 (lstP s y.1), true⟩)], 2, 19⟩) (fun y => 31 - y.1) ⟨0, Nat.zero_le _⟩ ?_ (fun ⟨i, hi⟩ => ?_)
  · refine Sub.auto ?_; simp only [rx, envRen, vRen, cRen, lRen, ownRen, bRen, apartRen, emptyBk, ren, seval, autoR, autoOne, Int.natCast_add, Int.natCast_one, Int.natCast_zero, lstP, List.range_zero, List.filter_nil, List.map_nil, List.length_nil, Nat.pow_zero, Nat.div_one]
  simp only
  have wi : IntKind.i64.wrap ((i : Int) + 1) = ((i + 1 : Nat) : Int) := by rw [IntWalk.i64_in _ (by omega)]; omega
  obtain ⟨q, hq⟩ : ∃ q, q = s / 2 ^ i := ⟨_, rfl⟩
  have qs : q < 2 ^ 31 := Nat.lt_of_le_of_lt (by rw [hq]; exact Nat.div_le_self _ _) hs
  have qn : q / 2 = s / 2 ^ (i + 1) := by rw [hq, Nat.div_div_eq_div_mul, Nat.pow_succ]
  have e1 : (q : Int).tmod 2 = ((q % 2 : Nat) : Int) := by rw [Int.tmod_eq_emod_of_nonneg (by omega)]; omega
  have e2 : IntKind.i64.wrap ((q : Int).tdiv 2) = ((s / 2 ^ (i + 1) : Nat) : Int) := by rw [← qn, Int.tdiv_eq_ediv_of_nonneg (by omega), IntWalk.i64_in _ (by omega)]; omega
  have tb : s.testBit i = decide (q % 2 = 1) := by rw [Nat.testBit_eq_decide_div_mod_eq, ← hq]
  have ln := lstP_len s i
  have sc := lstP_succ s i
  have tk : List.take (lstP s i).length (lstP s i) = lstP s i := List.take_length
  simp only [vx, T, seval, ← hq]
  refine ⟨fun g => Later.go ?_, fun g => Later.go ?_⟩
  · have hi' : i < 31 := by
      rcases Nat.lt_or_ge i 31 with h | h
      · exact h
      · obtain rfl : i = 31 := by omega
        have : s / 2 ^ 31 = 0 := Nat.div_eq_of_lt hs
        omega
    simp only [vx, T, seval, ← hq, e1]
    refine ⟨fun g2 => Later.go ?_, fun g2 => Later.go ?_⟩
    · rw [if_pos (by rw [tb]; simp; omega)] at sc
      have fi := congrArg List.length sc
      rw [List.length_append] at fi
      simp only [vx, T, seval, e2, wi, tk, ← sc]
      refine ⟨⟨by omega, by omega⟩, loopQ.go ⟨i + 1, by omega⟩ ?_ (by show 31 - (i + 1) < 31 - i; omega)⟩
      refine Sub.auto ?_; simp only [rx, envRen, vRen, cRen, lRen, ownRen, bRen, apartRen, emptyBk, ren, seval, autoR, autoOne, Int.natCast_add, Int.natCast_one, Int.natCast_zero]
    · rw [if_neg (by rw [tb]; simp; omega)] at sc
      simp only [vx, T, seval, e2, wi]
      refine loopQ.go ⟨i + 1, by omega⟩ ?_ (by show 31 - (i + 1) < 31 - i; omega)
      refine Sub.auto ?_; simp only [rx, envRen, vRen, cRen, lRen, ownRen, bRen, apartRen, emptyBk, ren, seval, autoR, autoOne, Int.natCast_add, Int.natCast_one, Int.natCast_zero, sc]
  · have e := lstP_end hs hi (by omega)
    simp only [vx, T, seval, e]
    exact ⟨rfl, rfl⟩

set_option maxRecDepth 10000 in
theorem rOne {s : Nat} (hs : s < 2 ^ 31) : PureCalls Tryz.prog 48 [.one (.int .i64 (s : Nat))] (.one (.int .i64 (oneS s))) := by
  have c := (rList hs).ints
  refine pure_of_vc T_ok mixed Tryz.func48 rfl (by decide) _ (by simp [Tryz.ntmps48]) ⟨[0, 2, 3, 8], []⟩ (by kernel_rfl) _ ?_
  show vc T Tryz.prog ⟨[0, 2, 3, 8], []⟩ (Option.get! Tryz.f48.body) _ _
  simp only [Tryz.f48, Tryz.ntmps48, Option.get!, initSt, initM, envOf, Nat.reduceAdd]
  simp only [vx, T, seval]
  refine CallK.go c ?_
  simp only [vx, T, seval]
  refine ⟨fun h => Later.go ?_, fun h => Later.go ?_⟩
  · simp only [vx, T, seval]
    exact VLe.of_eq (by unfold oneS; rw [if_neg (by omega)])
  · have h1 : (lstI s).length = 1 := by omega
    simp only [vx, T, seval]
    refine ⟨by omega, VLe.of_eq ?_⟩
    unfold oneS
    rw [if_pos h1]
    try rfl

set_option maxRecDepth 10000 in
theorem rCorners {a b c : Nat} (ha : a < 2 ^ 31) (hb : b < 2 ^ 31) (hc : c < 2 ^ 31) : PureCalls Tryz.prog 49 [.one (.int .i64 (a : Nat)), .one (.int .i64 (b : Nat)), .one (.int .i64 (c : Nat))]
    (.one (.bool (decide ((0 ≤ oneS (a &&& b) ∧ 0 ≤ oneS (b &&& c) ∧ 0 ≤ oneS (a &&& c)) ∧ oneS (a &&& b) ≠ oneS (b &&& c) ∧ oneS (b &&& c) ≠ oneS (a &&& c) ∧ oneS (a &&& b) ≠ oneS (a &&& c))))) := by
  have c1 := rOne (Nat.lt_of_le_of_lt (Nat.and_le_left (n := a) (m := b)) ha)
  have c2 := rOne (Nat.lt_of_le_of_lt (Nat.and_le_left (n := b) (m := c)) hb)
  have c3 := rOne (Nat.lt_of_le_of_lt (Nat.and_le_left (n := a) (m := c)) ha)
  have o1 := bits_and ha hb
  have o2 := bits_and hb hc
  have o3 := bits_and ha hc
  generalize oneS (a &&& b) = x at *
  generalize oneS (b &&& c) = y at *
  generalize oneS (a &&& c) = z at *
  refine pure_of_vc T_ok mixed Tryz.func49 rfl (by decide) _ (by simp [Tryz.ntmps49]) ⟨[0, 1, 2, 6, 7, 8, 9], []⟩ (by kernel_rfl) _ ?_
  show vc T Tryz.prog ⟨[0, 1, 2, 6, 7, 8, 9], []⟩ (Option.get! Tryz.f49.body) _ _
  simp only [Tryz.f49, Tryz.ntmps49, Option.get!, initSt, initM, envOf, Nat.reduceAdd]
  simp only [vx, T, seval, o1, o2, o3]
  refine CallK.go c1 ?_
  simp only [vx, T, seval, o1, o2, o3]
  refine CallK.go c2 ?_
  simp only [vx, T, seval, o1, o2, o3]
  refine CallK.go c3 ?_
  simp only [vx, T, seval]
  refine ⟨fun h0 => Later.go ?_, fun h0 => Later.go ?_⟩
  rotate_left
  · simp only [vx, T, seval]
    exact VLe.of_eq (by rw [decide_eq_false]; omega)
  simp only [vx, T, seval]
  refine ⟨fun h1 => Later.go ?_, fun h1 => Later.go ?_⟩
  rotate_left
  · simp only [vx, T, seval]
    exact VLe.of_eq (by rw [decide_eq_false]; omega)
  simp only [vx, T, seval]
  refine ⟨fun h2 => Later.go ?_, fun h2 => Later.go ?_⟩
  rotate_left
  · simp only [vx, T, seval]
    exact VLe.of_eq (by rw [decide_eq_false]; omega)
  simp only [vx, T, seval]
  refine ⟨fun h3 => Later.go ?_, fun h3 => Later.go ?_⟩
  rotate_left
  · simp only [vx, T, seval]
    exact VLe.of_eq (by rw [decide_eq_false]; omega)
  simp only [vx, T, seval]
  refine ⟨fun h4 => Later.go ?_, fun h4 => Later.go ?_⟩
  rotate_left
  · simp only [vx, T, seval]
    exact VLe.of_eq (by rw [decide_eq_false]; omega)
  simp only [vx, T, seval]
  exact VLe.of_eq (by congr 2; exact decide_eq_decide.2 (by omega))
end Go.Proofs.YthfekehoehdkoaaGreat

/-! ## FnYl -/
namespace Go.Proofs.YthfekehoehdkoaaGreat
open Go Go.Eng Go.Gra Go.Tre

/-! ### The reference's bars. -/
theorem bo_eq (t : Tree) : Bo t ↔ (t.m = 0 ∧ t.a < t.b) ∨ (t.m = 3 ∧ MgT (t.f 0) (t.f 1) (t.f 2) t.a t.b t.c ∧ ∀ i, i < 3 → Bo (t.f i)) := by
  cases t with
  | lf => simp [Bo, Tree.m, Tree.a, Tree.b]
  | nd => rfl
def catL (ls : Nat → List E) (k : Nat) : List E := (List.range k).flatMap ls
theorem catL_succ (ls : Nat → List E) (k : Nat) : catL ls (k + 1) = catL ls k ++ ls k := by
  unfold catL
  rw [List.range_succ, List.flatMap_append]
  simp
theorem catL_len (ls : Nat → List E) (g : Nat → Nat) (k : Nat) (h : ∀ i, i < k → (ls i).length ≤ g i) : (catL ls k).length ≤ psum g k := by
  induction k with
  | zero => simp [catL]
  | succ k ih => rw [catL_succ, psum_succ, List.length_append]; have := ih fun i hi => h i (by omega); have := h k (by omega); omega

open Classical in
set_option maxRecDepth 10000 in
set_option maxHeartbeats 4000000 in
theorem rBars : ∀ t : Tree, Fit t → nodes t < 2 ^ 40 → ∃ l : List E, l.length ≤ nodes t ∧ (Bo t → l = bars t) ∧
    PureCalls Tryz.prog 24 [.agg (tA t)] (.tup [.one (.rows 2 l.length (eR l)), .one (.bool (decide (Bo t)))]) := tree_ind fun t ih hf hn => by
  have hf' := (fit_eq hf.whole).1 hf
  have hb := bo_eq t
  by_cases h0 : t.m = 0
  · refine ⟨[(t.a, t.b)], nodes_pos t, fun _ => by rw [bars_eq, if_pos h0], ?_⟩
    have e : decide (Bo t) = decide (t.a < t.b) := decide_eq_decide.2 (hb.trans ⟨fun h => h.elim (·.2) fun h => absurd h.1 (by omega), fun h => .inl ⟨h0, h⟩⟩)
    rw [e]
    refine pure_of_vc T_ok mixed Tryz.func24 rfl (by decide) _ (by simp [Tryz.ntmps24]) ⟨[0, 1, 2, 3, 4, 5, 6, 7, 8, 9, 10, 11, 15, 30, 78], [(2, .nil)]⟩ (by kernel_rfl) _ ?_
    show vc T Tryz.prog ⟨[0, 1, 2, 3, 4, 5, 6, 7, 8, 9, 10, 11, 15, 30, 78], [(2, .nil)]⟩ (Option.get! Tryz.f24.body) _ _
    simp only [Tryz.f24, Tryz.ntmps24, Option.get!, initSt, initM, envOf, Nat.reduceAdd]
    simp only [vx, T, seval, tA]
    refine ⟨fun h => Later.go ?_, fun h => absurd h (by omega)⟩
    simp only [vx, T, seval, tA]
    refine VLe.auto ?_; simp only [vLe, vLeL, rx, envRen, vRen, cRen, lRen, ownRen, bRen, apartRen, emptyBk, ren, seval]
    intro i j hi hj
    obtain rfl : i = 0 := by omega
    have : j = 0 ∨ j = 1 := by omega
    rcases this with rfl | rfl <;> rfl
  by_cases h3 : t.m = 3
  rotate_left
  · refine ⟨[], Nat.zero_le _, fun h => absurd (hb.1 h) (by omega), ?_⟩
    rw [decide_eq_false (fun h => absurd (hb.1 h) (by omega))]
    refine pure_of_vc T_ok mixed Tryz.func24 rfl (by decide) _ (by simp [Tryz.ntmps24]) ⟨[0, 1, 2, 3, 4, 5, 6, 7, 8, 9, 10, 11, 15, 30, 78], [(2, .nil)]⟩ (by kernel_rfl) _ ?_
    show vc T Tryz.prog ⟨[0, 1, 2, 3, 4, 5, 6, 7, 8, 9, 10, 11, 15, 30, 78], [(2, .nil)]⟩ (Option.get! Tryz.f24.body) _ _
    simp only [Tryz.f24, Tryz.ntmps24, Option.get!, initSt, initM, envOf, Nat.reduceAdd]
    simp only [vx, T, seval, tA]
    refine ⟨fun h => absurd h (by omega), fun _ => Later.go ?_⟩
    simp only [vx, T, seval, tA]
    refine ⟨fun _ => Later.go ?_, fun h => absurd h (by omega)⟩
    simp only [vx, T, seval, tA]
    refine VLe.auto ?_; simp only [vLe, vLeL, rx, envRen, vRen, cRen, lRen, ownRen, bRen, apartRen, emptyBk, ren, seval, Nat.not_lt_zero]
  have fi : ∀ i, i < 3 → Fit (t.f i) := fun i hi => (hf'.2.2 h0).2 i (by omega)
  have q0 := tc3 (t := t.f 0) (fi 0 (by omega)).whole
  have q1 := tc3 (t := t.f 1) (fi 1 (by omega)).whole
  have q2 := tc3 (t := t.f 2) (fi 2 (by omega)).whole
  have ex : ∀ i, ∃ l : List E, i < 3 → l.length ≤ nodes (t.f i) ∧ (Bo (t.f i) → l = bars (t.f i)) ∧ PureCalls Tryz.prog 24 [.agg (tA (t.f i))] (.tup [.one (.rows 2 l.length (eR l)), .one (.bool (decide (Bo (t.f i))))]) := fun i => by
    by_cases hi : i < 3
    · obtain ⟨l, h⟩ := ih i (by omega) (fi i hi) (by have := nodes_part (t := t) (i := i) (by omega); omega)
      exact ⟨l, fun _ => h⟩
    · exact ⟨[], fun h => absurd h hi⟩
  obtain ⟨ls, hls⟩ := Classical.skolem.1 ex
  have nn := nodes_eq t
  rw [if_neg h0, h3] at nn
  have ll := fun k (hk : k ≤ 3) => Nat.le_trans (catL_len ls (fun i => nodes (t.f i)) k fun i hi => (hls i (by omega)).1) (psum_mono _ hk)
  refine ⟨catL ls 3, by have := ll 3 (by omega); omega, fun hB => ?_, ?_⟩
  · obtain ⟨_, _, hB⟩ := (hb.1 hB).resolve_left fun h => absurd h.1 h0
    rw [bars_eq, if_neg h0, h3]
    have e0 := (hls 0 (by omega)).2.1 (hB 0 (by omega))
    have e1 := (hls 1 (by omega)).2.1 (hB 1 (by omega))
    have e2 := (hls 2 (by omega)).2.1 (hB 2 (by omega))
    rw [catL_succ, catL_succ, catL_succ, barsP_succ, barsP_succ, barsP_succ, e0, e1, e2]
    rfl
  have b0 := bset_lt _ (fi 0 (by omega))
  have b1 := bset_lt _ (fi 1 (by omega))
  have b2 := bset_lt _ (fi 2 (by omega))
  have p0 := rPoints _ (fi 0 (by omega))
  have p1 := rPoints _ (fi 1 (by omega))
  have p2 := rPoints _ (fi 2 (by omega))
  have o1 := bits_and b0 b1
  have o2 := bits_and b1 b2
  have o3 := bits_and b0 b2
  have c1 := rOne (Nat.lt_of_le_of_lt (Nat.and_le_left (n := bset (t.f 0)) (m := bset (t.f 1))) b0)
  have c2 := rOne (Nat.lt_of_le_of_lt (Nat.and_le_left (n := bset (t.f 1)) (m := bset (t.f 2))) b1)
  have c3 := rOne (Nat.lt_of_le_of_lt (Nat.and_le_left (n := bset (t.f 0)) (m := bset (t.f 2))) b0)
  have cc := rCorners b0 b1 b2
  have mg : MgT (t.f 0) (t.f 1) (t.f 2) t.a t.b t.c ↔ Mg (oneS (bset (t.f 0) &&& bset (t.f 1))) (oneS (bset (t.f 1) &&& bset (t.f 2))) (oneS (bset (t.f 0) &&& bset (t.f 2))) t.a t.b t.c := Iff.rfl
  generalize MgT (t.f 0) (t.f 1) (t.f 2) t.a t.b t.c = M at *
  generalize oneS (bset (t.f 0) &&& bset (t.f 1)) = x at *
  generalize oneS (bset (t.f 1) &&& bset (t.f 2)) = y at *
  generalize oneS (bset (t.f 0) &&& bset (t.f 2)) = z at *
  unfold Mg at mg
  have ok : ∀ k, k ≤ 3 → ((M ∧ ∀ i, i < k + 1 → Bo (t.f i)) ↔ (M ∧ ∀ i, i < k → Bo (t.f i)) ∧ Bo (t.f k)) := fun k _ => by
    constructor
    · rintro ⟨h1, h2⟩; exact ⟨⟨h1, fun i hi => h2 i (by omega)⟩, h2 k (by omega)⟩
    · rintro ⟨⟨h1, h2⟩, h3⟩; exact ⟨h1, fun i hi => by by_cases e : i = k; (· rw [e]; exact h3); exact h2 i (by omega)⟩
  have inner : PureCalls Tryz.prog 24 [.agg (tA t)] (.tup [.one (.rows 2 (catL ls 3).length (eR (catL ls 3))), .one (.bool (decide (M ∧ ∀ i, i < 3 → Bo (t.f i))))]) := by
    refine pure_of_vc T_ok mixed Tryz.func24 rfl (by decide) _ (by simp [Tryz.ntmps24]) ⟨[0, 1, 2, 3, 4, 5, 6, 7, 8, 9, 10, 11, 15, 30, 78], [(2, .nil)]⟩ (by kernel_rfl) _ ?_
    show vc T Tryz.prog ⟨[0, 1, 2, 3, 4, 5, 6, 7, 8, 9, 10, 11, 15, 30, 78], [(2, .nil)]⟩ (Option.get! Tryz.f24.body) _ _
    simp only [Tryz.f24, Tryz.ntmps24, Option.get!, initSt, initM, envOf, Nat.reduceAdd]
    simp only [vx, T, seval, tA]
    refine ⟨fun h => absurd h (by omega), fun _ => Later.go ?_⟩
    simp only [vx, T, seval, tA]
    refine ⟨fun h => absurd (show (t.m : Int) = 3 by omega) h, fun _ => Later.go ?_⟩
    simp only [vx, T, seval, tA, h3, tc0, tc1, tc2, q0, q1, q2]
    refine CallK.go p0 ?_
    simp only [vx, T, seval, tA, h3, tc0, tc1, tc2, q0, q1, q2]
    refine CallK.go p1 ?_
    simp only [vx, T, seval, tA, h3, tc0, tc1, tc2, q0, q1, q2]
    refine CallK.go p2 ?_
    simp only [vx, T, seval, tA, h3, o1, o2, o3]
    refine CallK.go c1 ?_
    simp only [vx, T, seval, tA, h3, o1, o2, o3]
    refine ⟨fun d1 => Later.go ?_, fun d1 => Later.go ?_⟩
    rotate_left
    · simp only [vx, T, seval, tA, h3, o1, o2, o3]
      refine LoopK.go (fun y : {i : Nat // i ≤ 3} => ⟨[(0, .agg (tA t)), (1, .one (.ptr 1 0)), (2, .one .nil), (3, .one (.bool false)), (7, .one (.bool (decide (M ∧ ∀ i, i < y.1 → Bo (t.f i))))), (8, .one (.own 2 2 0 (catL ls y.1).length)), (9, .one (.int .i64 y.1))], [(1, ⟨.var (tA t), true⟩), (2, ⟨.rows 37 2 (catL ls y.1).length (eR (catL ls y.1)), true⟩)], 3, 99⟩) (fun y => 3 - y.1) ⟨0, Nat.zero_le _⟩ ?_ (fun ⟨i, hi⟩ => ?_)
      · refine Sub.auto ?_; simp only [rx, envRen, vRen, cRen, lRen, ownRen, bRen, apartRen, emptyBk, ren, seval, autoR, autoOne, Int.natCast_add, Int.natCast_one, Int.natCast_zero, tA, h3, catL, List.range_zero, List.flatMap_nil, List.length_nil, Nat.not_lt_zero, false_imp_iff, implies_true, and_true]
        exact (decide_eq_false fun h => absurd (mg.1 h) (by omega)).symm
      simp only
      have wi : IntKind.i64.wrap ((i : Int) + 1) = ((i + 1 : Nat) : Int) := by rw [IntWalk.i64_in _ (by omega)]; omega
      simp only [vx, T, seval, tA, h3]
      refine ⟨fun g => Later.go ?_, fun g => Later.go ?_⟩
      · obtain ⟨q1, _, q3⟩ := hls i (by omega)
        have l0 := ll i (by omega)
        have l1 := ll (i + 1) (by omega)
        have hs := catL_succ ls i
        have hr := eR_app (catL ls i) (ls i)
        have hll := congrArg List.length hs
        rw [List.length_append] at hll
        rw [← hs] at hr
        have okk := ok i (by omega)
        have t3 := tc3 (fi i (by omega)).whole
        simp only [vx, T, seval, tA, h3, tc0, tc1, tc2, t3]
        refine ⟨by omega, CallK.go q3 ?_⟩
        by_cases hv : M ∧ ∀ k, k < i → Bo (t.f k)
        · rw [decide_eq_true hv]
          have e1 : decide (Bo (t.f i)) = decide (M ∧ ∀ k, k < i + 1 → Bo (t.f k)) := decide_eq_decide.2 ⟨fun h => okk.2 ⟨hv, h⟩, fun h => (okk.1 h).2⟩
          rw [e1]
          simp only [vx, T, seval, tA, h3, hr, wi]
          refine ⟨⟨by omega, by omega⟩, loopQ.go ⟨i + 1, by omega⟩ ?_ (by show 3 - (i + 1) < 3 - i; omega)⟩
          refine Sub.auto ?_; simp only [rx, envRen, vRen, cRen, lRen, ownRen, bRen, apartRen, emptyBk, ren, seval, autoR, autoOne, Int.natCast_add, Int.natCast_one, Int.natCast_zero, tA, h3, hll]
        · rw [decide_eq_false hv]
          have e1 : decide (M ∧ ∀ k, k < i + 1 → Bo (t.f k)) = false := decide_eq_false fun h => hv (okk.1 h).1
          simp only [vx, T, seval, tA, h3, hr, wi]
          refine ⟨⟨by omega, by omega⟩, loopQ.go ⟨i + 1, by omega⟩ ?_ (by show 3 - (i + 1) < 3 - i; omega)⟩
          refine Sub.auto ?_; simp only [rx, envRen, vRen, cRen, lRen, ownRen, bRen, apartRen, emptyBk, ren, seval, autoR, autoOne, Int.natCast_add, Int.natCast_one, Int.natCast_zero, tA, h3, hll, e1]
      · obtain rfl : i = 3 := by omega
        simp only [vx, T, seval, tA, h3]
        exact VLe.of_eq (by congr)
    simp only [vx, T, seval, tA, h3, o1, o2, o3]
    refine CallK.go c2 ?_
    simp only [vx, T, seval, tA, h3, o1, o2, o3]
    refine ⟨fun d2 => Later.go ?_, fun d2 => Later.go ?_⟩
    rotate_left
    · simp only [vx, T, seval, tA, h3, o1, o2, o3]
      refine LoopK.go (fun y : {i : Nat // i ≤ 3} => ⟨[(0, .agg (tA t)), (1, .one (.ptr 1 0)), (2, .one .nil), (3, .one (.bool false)), (7, .one (.bool (decide (M ∧ ∀ i, i < y.1 → Bo (t.f i))))), (8, .one (.own 2 2 0 (catL ls y.1).length)), (9, .one (.int .i64 y.1))], [(1, ⟨.var (tA t), true⟩), (2, ⟨.rows 37 2 (catL ls y.1).length (eR (catL ls y.1)), true⟩)], 3, 99⟩) (fun y => 3 - y.1) ⟨0, Nat.zero_le _⟩ ?_ (fun ⟨i, hi⟩ => ?_)
      · refine Sub.auto ?_; simp only [rx, envRen, vRen, cRen, lRen, ownRen, bRen, apartRen, emptyBk, ren, seval, autoR, autoOne, Int.natCast_add, Int.natCast_one, Int.natCast_zero, tA, h3, catL, List.range_zero, List.flatMap_nil, List.length_nil, Nat.not_lt_zero, false_imp_iff, implies_true, and_true]
        exact (decide_eq_false fun h => absurd (mg.1 h) (by omega)).symm
      simp only
      have wi : IntKind.i64.wrap ((i : Int) + 1) = ((i + 1 : Nat) : Int) := by rw [IntWalk.i64_in _ (by omega)]; omega
      simp only [vx, T, seval, tA, h3]
      refine ⟨fun g => Later.go ?_, fun g => Later.go ?_⟩
      · obtain ⟨q1, _, q3⟩ := hls i (by omega)
        have l0 := ll i (by omega)
        have l1 := ll (i + 1) (by omega)
        have hs := catL_succ ls i
        have hr := eR_app (catL ls i) (ls i)
        have hll := congrArg List.length hs
        rw [List.length_append] at hll
        rw [← hs] at hr
        have okk := ok i (by omega)
        have t3 := tc3 (fi i (by omega)).whole
        simp only [vx, T, seval, tA, h3, tc0, tc1, tc2, t3]
        refine ⟨by omega, CallK.go q3 ?_⟩
        by_cases hv : M ∧ ∀ k, k < i → Bo (t.f k)
        · rw [decide_eq_true hv]
          have e1 : decide (Bo (t.f i)) = decide (M ∧ ∀ k, k < i + 1 → Bo (t.f k)) := decide_eq_decide.2 ⟨fun h => okk.2 ⟨hv, h⟩, fun h => (okk.1 h).2⟩
          rw [e1]
          simp only [vx, T, seval, tA, h3, hr, wi]
          refine ⟨⟨by omega, by omega⟩, loopQ.go ⟨i + 1, by omega⟩ ?_ (by show 3 - (i + 1) < 3 - i; omega)⟩
          refine Sub.auto ?_; simp only [rx, envRen, vRen, cRen, lRen, ownRen, bRen, apartRen, emptyBk, ren, seval, autoR, autoOne, Int.natCast_add, Int.natCast_one, Int.natCast_zero, tA, h3, hll]
        · rw [decide_eq_false hv]
          have e1 : decide (M ∧ ∀ k, k < i + 1 → Bo (t.f k)) = false := decide_eq_false fun h => hv (okk.1 h).1
          simp only [vx, T, seval, tA, h3, hr, wi]
          refine ⟨⟨by omega, by omega⟩, loopQ.go ⟨i + 1, by omega⟩ ?_ (by show 3 - (i + 1) < 3 - i; omega)⟩
          refine Sub.auto ?_; simp only [rx, envRen, vRen, cRen, lRen, ownRen, bRen, apartRen, emptyBk, ren, seval, autoR, autoOne, Int.natCast_add, Int.natCast_one, Int.natCast_zero, tA, h3, hll, e1]
      · obtain rfl : i = 3 := by omega
        simp only [vx, T, seval, tA, h3]
        exact VLe.of_eq (by congr)
    simp only [vx, T, seval, tA, h3, o1, o2, o3]
    refine CallK.go c3 ?_
    simp only [vx, T, seval, tA, h3, o1, o2, o3]
    refine ⟨fun d3 => Later.go ?_, fun d3 => Later.go ?_⟩
    rotate_left
    · simp only [vx, T, seval, tA, h3, o1, o2, o3]
      refine LoopK.go (fun y : {i : Nat // i ≤ 3} => ⟨[(0, .agg (tA t)), (1, .one (.ptr 1 0)), (2, .one .nil), (3, .one (.bool false)), (7, .one (.bool (decide (M ∧ ∀ i, i < y.1 → Bo (t.f i))))), (8, .one (.own 2 2 0 (catL ls y.1).length)), (9, .one (.int .i64 y.1))], [(1, ⟨.var (tA t), true⟩), (2, ⟨.rows 37 2 (catL ls y.1).length (eR (catL ls y.1)), true⟩)], 3, 99⟩) (fun y => 3 - y.1) ⟨0, Nat.zero_le _⟩ ?_ (fun ⟨i, hi⟩ => ?_)
      · refine Sub.auto ?_; simp only [rx, envRen, vRen, cRen, lRen, ownRen, bRen, apartRen, emptyBk, ren, seval, autoR, autoOne, Int.natCast_add, Int.natCast_one, Int.natCast_zero, tA, h3, catL, List.range_zero, List.flatMap_nil, List.length_nil, Nat.not_lt_zero, false_imp_iff, implies_true, and_true]
        exact (decide_eq_false fun h => absurd (mg.1 h) (by omega)).symm
      simp only
      have wi : IntKind.i64.wrap ((i : Int) + 1) = ((i + 1 : Nat) : Int) := by rw [IntWalk.i64_in _ (by omega)]; omega
      simp only [vx, T, seval, tA, h3]
      refine ⟨fun g => Later.go ?_, fun g => Later.go ?_⟩
      · obtain ⟨q1, _, q3⟩ := hls i (by omega)
        have l0 := ll i (by omega)
        have l1 := ll (i + 1) (by omega)
        have hs := catL_succ ls i
        have hr := eR_app (catL ls i) (ls i)
        have hll := congrArg List.length hs
        rw [List.length_append] at hll
        rw [← hs] at hr
        have okk := ok i (by omega)
        have t3 := tc3 (fi i (by omega)).whole
        simp only [vx, T, seval, tA, h3, tc0, tc1, tc2, t3]
        refine ⟨by omega, CallK.go q3 ?_⟩
        by_cases hv : M ∧ ∀ k, k < i → Bo (t.f k)
        · rw [decide_eq_true hv]
          have e1 : decide (Bo (t.f i)) = decide (M ∧ ∀ k, k < i + 1 → Bo (t.f k)) := decide_eq_decide.2 ⟨fun h => okk.2 ⟨hv, h⟩, fun h => (okk.1 h).2⟩
          rw [e1]
          simp only [vx, T, seval, tA, h3, hr, wi]
          refine ⟨⟨by omega, by omega⟩, loopQ.go ⟨i + 1, by omega⟩ ?_ (by show 3 - (i + 1) < 3 - i; omega)⟩
          refine Sub.auto ?_; simp only [rx, envRen, vRen, cRen, lRen, ownRen, bRen, apartRen, emptyBk, ren, seval, autoR, autoOne, Int.natCast_add, Int.natCast_one, Int.natCast_zero, tA, h3, hll]
        · rw [decide_eq_false hv]
          have e1 : decide (M ∧ ∀ k, k < i + 1 → Bo (t.f k)) = false := decide_eq_false fun h => hv (okk.1 h).1
          simp only [vx, T, seval, tA, h3, hr, wi]
          refine ⟨⟨by omega, by omega⟩, loopQ.go ⟨i + 1, by omega⟩ ?_ (by show 3 - (i + 1) < 3 - i; omega)⟩
          refine Sub.auto ?_; simp only [rx, envRen, vRen, cRen, lRen, ownRen, bRen, apartRen, emptyBk, ren, seval, autoR, autoOne, Int.natCast_add, Int.natCast_one, Int.natCast_zero, tA, h3, hll, e1]
      · obtain rfl : i = 3 := by omega
        simp only [vx, T, seval, tA, h3]
        exact VLe.of_eq (by congr)
    simp only [vx, T, seval, tA, h3, o1, o2, o3]
    refine CallK.go cc ?_
    simp only [vx, T, seval, tA, h3, o1, o2, o3]
    refine LoopK.go (fun y : {i : Nat // i ≤ 3} => ⟨[(0, .agg (tA t)), (1, .one (.ptr 1 0)), (2, .one .nil), (3, .one (.bool false)), (7, .one (.bool (decide (M ∧ ∀ i, i < y.1 → Bo (t.f i))))), (8, .one (.own 2 2 0 (catL ls y.1).length)), (9, .one (.int .i64 y.1))], [(1, ⟨.var (tA t), true⟩), (2, ⟨.rows 37 2 (catL ls y.1).length (eR (catL ls y.1)), true⟩)], 3, 99⟩) (fun y => 3 - y.1) ⟨0, Nat.zero_le _⟩ ?_ (fun ⟨i, hi⟩ => ?_)
    · refine Sub.auto ?_; simp only [rx, envRen, vRen, cRen, lRen, ownRen, bRen, apartRen, emptyBk, ren, seval, autoR, autoOne, Int.natCast_add, Int.natCast_one, Int.natCast_zero, tA, h3, catL, List.range_zero, List.flatMap_nil, List.length_nil, Nat.not_lt_zero, false_imp_iff, implies_true, and_true]
      exact decide_eq_decide.2 ⟨fun h => mg.2 (by omega), fun h => by have := mg.1 h; omega⟩
    simp only
    have wi : IntKind.i64.wrap ((i : Int) + 1) = ((i + 1 : Nat) : Int) := by rw [IntWalk.i64_in _ (by omega)]; omega
    simp only [vx, T, seval, tA, h3]
    refine ⟨fun g => Later.go ?_, fun g => Later.go ?_⟩
    · obtain ⟨q1, _, q3⟩ := hls i (by omega)
      have l0 := ll i (by omega)
      have l1 := ll (i + 1) (by omega)
      have hs := catL_succ ls i
      have hr := eR_app (catL ls i) (ls i)
      have hll := congrArg List.length hs
      rw [List.length_append] at hll
      rw [← hs] at hr
      have okk := ok i (by omega)
      have t3 := tc3 (fi i (by omega)).whole
      simp only [vx, T, seval, tA, h3, tc0, tc1, tc2, t3]
      refine ⟨by omega, CallK.go q3 ?_⟩
      by_cases hv : M ∧ ∀ k, k < i → Bo (t.f k)
      · rw [decide_eq_true hv]
        have e1 : decide (Bo (t.f i)) = decide (M ∧ ∀ k, k < i + 1 → Bo (t.f k)) := decide_eq_decide.2 ⟨fun h => okk.2 ⟨hv, h⟩, fun h => (okk.1 h).2⟩
        rw [e1]
        simp only [vx, T, seval, tA, h3, hr, wi]
        refine ⟨⟨by omega, by omega⟩, loopQ.go ⟨i + 1, by omega⟩ ?_ (by show 3 - (i + 1) < 3 - i; omega)⟩
        refine Sub.auto ?_; simp only [rx, envRen, vRen, cRen, lRen, ownRen, bRen, apartRen, emptyBk, ren, seval, autoR, autoOne, Int.natCast_add, Int.natCast_one, Int.natCast_zero, tA, h3, hll]
      · rw [decide_eq_false hv]
        have e1 : decide (M ∧ ∀ k, k < i + 1 → Bo (t.f k)) = false := decide_eq_false fun h => hv (okk.1 h).1
        simp only [vx, T, seval, tA, h3, hr, wi]
        refine ⟨⟨by omega, by omega⟩, loopQ.go ⟨i + 1, by omega⟩ ?_ (by show 3 - (i + 1) < 3 - i; omega)⟩
        refine Sub.auto ?_; simp only [rx, envRen, vRen, cRen, lRen, ownRen, bRen, apartRen, emptyBk, ren, seval, autoR, autoOne, Int.natCast_add, Int.natCast_one, Int.natCast_zero, tA, h3, hll, e1]
    · obtain rfl : i = 3 := by omega
      simp only [vx, T, seval, tA, h3]
      exact VLe.of_eq (by congr)
  have e : decide (Bo t) = decide (M ∧ ∀ i, i < 3 → Bo (t.f i)) := decide_eq_decide.2 ⟨fun h => ((hb.1 h).resolve_left fun h => absurd h.1 h0).2, fun h => hb.2 (.inr ⟨h3, h⟩)⟩
  rw [e]
  exact inner
end Go.Proofs.YthfekehoehdkoaaGreat

/-! ## FnYs -/
namespace Go.Proofs.YthfekehoehdkoaaGreat
open Go Go.Eng Go.Gra Go.Tre

/-! ### The program: merges, and whether all are right. -/
set_option maxRecDepth 10000 in
theorem ixT (g : FuncId) {N : Nat} {f : Nat → Tree} (p : Nat → Bool) (r : Int) (hN : N < 2 ^ 40) (gd : ∀ i, i < N → Whole (f i)) (hc : ∀ i, i < N → PureCalls Tryz.prog g [.agg (tA (f i))] (.one (.bool (p i))))
    (h1 : (∀ i, i < N → p i = false) → r = -1) (h2 : ∀ i : Nat, i < N → p i = true → (∀ j, j < i → p j = false) → r = i) :
    PureCalls Tryz.prog 102 [.one (.rows 4 N (fun i k => tc (f i) k)), .one (.fn g 0 (fun _ => .any))] (.one (.int .i64 r)) := by
  refine pure_of_vc T_ok mixed Tryz.func102 rfl (by decide) _ (by simp [Tryz.ntmps102]) ⟨[0, 1, 4, 5, 7, 8, 9, 16], []⟩ (by kernel_rfl) _ ?_
  show vc T Tryz.prog ⟨[0, 1, 4, 5, 7, 8, 9, 16], []⟩ (Option.get! Tryz.f102.body) _ _
  simp only [Tryz.f102, Tryz.ntmps102, Option.get!, initSt, initM, envOf, Nat.reduceAdd]
  simp only [vx, T, seval]
  refine LoopK.go (fun y : {i : Nat // i ≤ N ∧ ∀ k, k < i → p k = false} => ⟨[(0, .one (.rows 4 N (fun i k => tc (f i) k))), (1, .one (.fn g 0 (fun _ => .any))), (7, .one (.int .i64 N)), (8, .one (.int .i64 y.1))], [], 1, 19⟩) (fun y => N - y.1) ⟨0, Nat.zero_le _, fun k h => absurd h (Nat.not_lt_zero _)⟩ ?_ (fun ⟨i, hi, hz⟩ => ?_)
  · refine Sub.auto ?_; simp only [rx, envRen, vRen, cRen, lRen, ownRen, bRen, apartRen, emptyBk, ren, seval, autoR, autoOne, Int.natCast_add, Int.natCast_one, Int.natCast_zero]
  have i1 : IntKind.i64.wrap ((i : Int) + 1) = ((i + 1 : Nat) : Int) := by rw [IntWalk.i64_in _ (by omega)]; omega
  simp only [vx, T, seval]
  refine ⟨fun h3 => Later.go ?_, fun h3 => Later.go ?_⟩
  · have t3 := tc3 (gd i (by omega))
    simp only [vx, T, seval, tA, tc0, tc1, tc2, t3]
    refine ⟨by omega, CallK.go (hc i (by omega)) ?_⟩
    simp only [vx, T, seval]
    refine ⟨fun h4 => Later.go ?_, fun h4 => Later.go ?_⟩
    · have e := h2 i (by omega) h4 hz
      simp only [vx, T, seval]
      exact VLe.of_eq (by rw [e])
    · simp only [vx, T, seval, i1]
      refine loopQ.go ⟨i + 1, by omega, fun k hk => ?_⟩ ?_ (by show N - (i + 1) < N - i; omega)
      · by_cases e : k = i
        · rw [e]; simpa using h4
        · exact hz k (by omega)
      · refine Sub.auto ?_; simp only [rx, envRen, vRen, cRen, lRen, ownRen, bRen, apartRen, emptyBk, ren, seval, autoR, autoOne, Int.natCast_add, Int.natCast_one, Int.natCast_zero]
  · have e := h1 fun k hk => hz k (by omega)
    simp only [vx, T, seval]
    exact VLe.of_eq (by rw [e])
set_option maxRecDepth 10000 in
theorem hasT (g : FuncId) {N : Nat} {f : Nat → Tree} (p : Nat → Bool) (hN : N < 2 ^ 40) (gd : ∀ i, i < N → Whole (f i)) (hc : ∀ i, i < N → PureCalls Tryz.prog g [.agg (tA (f i))] (.one (.bool (p i)))) :
    PureCalls Tryz.prog 67 [.one (.rows 4 N (fun i k => tc (f i) k)), .one (.fn g 0 (fun _ => .any))] (.one (.bool (anyN p N))) := by
  obtain ⟨r, hr, hk⟩ : ∃ r : Int, decide (r ≥ 0) = anyN p N ∧ PureCalls Tryz.prog 102 [.one (.rows 4 N (fun i k => tc (f i) k)), .one (.fn g 0 (fun _ => .any))] (.one (.int .i64 r)) := by
    rcases first_or p N with h | ⟨i, h4, h5, h6⟩
    · exact ⟨-1, by rw [anyN_no h]; rfl, ixT g p _ hN gd hc (fun _ => rfl) fun i hi hp _ => absurd hp (by rw [h i hi]; simp)⟩
    · refine ⟨i, by rw [anyN_yes h4 h5, decide_eq_true]; omega, ixT g p _ hN gd hc (fun h => absurd h5 (by rw [h i h4]; simp)) fun j hj hp hb => ?_⟩
      by_cases e : i < j
      · exact absurd h5 (by rw [hb i e]; simp)
      · by_cases e2 : j < i
        · exact absurd hp (by rw [h6 j e2]; simp)
        · omega
  refine pure_of_vc T_ok mixed Tryz.func67 rfl (by decide) _ (by simp [Tryz.ntmps67]) ⟨[0, 1, 4], []⟩ (by kernel_rfl) _ ?_
  show vc T Tryz.prog ⟨[0, 1, 4], []⟩ (Option.get! Tryz.f67.body) _ _
  simp only [Tryz.f67, Tryz.ntmps67, Option.get!, initSt, initM, envOf, Nat.reduceAdd]
  simp only [vx, T, seval]
  refine CallK.go hk ?_
  simp only [vx, T, seval]
  exact VLe.of_eq (by rw [← hr])

set_option maxRecDepth 10000 in
set_option maxHeartbeats 1000000 in
theorem iMerge {a b c : Tree} (fa : Fit a) (fb : Fit b) (fc : Fit c) (na : nodes a < 2 ^ 36) (nb : nodes b < 2 ^ 36) (nc : nodes c < 2 ^ 36) {x y z : Int} (hx : x = oneS (bset a &&& bset b)) (hy : y = oneS (bset b &&& bset c)) (hz : z = oneS (bset a &&& bset c)) :
    ∃ G, PureCalls Tryz.prog 61 [.agg (tA a), .agg (tA b), .agg (tA c)]
      (.tup [.agg [.int .i64 (if MgO x y z then z else 0), .int .i64 (if MgO x y z then x else 0), .int .i64 (if MgO x y z then y else 0), .rows 4 3 G], .one (.bool (decide (MgO x y z)))]) := by
  have ca := iPoints fa na
  have cb := iPoints fb nb
  have cc := iPoints fc nc
  have cm := iMergeC (bset_lt a fa) (bset_lt b fb) (bset_lt c fc) hx hy hz
  refine ⟨fun i j => [C.int .i64 a.a, .int .i64 a.b, .int .i64 a.c, .rows 4 a.m (fun i k => tc (a.f i) k), .int .i64 b.a, .int .i64 b.b, .int .i64 b.c, .rows 4 b.m (fun i k => tc (b.f i) k), .int .i64 c.a, .int .i64 c.b, .int .i64 c.c, .rows 4 c.m (fun i k => tc (c.f i) k)].getD (i * 4 + j) .any, ?_⟩
  refine pure_of_vc T_ok mixed Tryz.func61 rfl (by decide) _ (by simp [Tryz.ntmps61]) ⟨[0, 1, 2, 3, 4, 5, 6, 7, 8, 9, 10, 11], [(1, .nil)]⟩ (by kernel_rfl) _ ?_
  show vc T Tryz.prog ⟨[0, 1, 2, 3, 4, 5, 6, 7, 8, 9, 10, 11], [(1, .nil)]⟩ (Option.get! Tryz.f61.body) _ _
  simp only [Tryz.f61, Tryz.ntmps61, Option.get!, initSt, initM, envOf, Nat.reduceAdd]
  simp only [vx, T, seval, tA]
  refine CallK.go ca ?_
  simp only [vx, T, seval, tA]
  refine CallK.go cb ?_
  simp only [vx, T, seval, tA]
  refine CallK.go cc ?_
  simp only [vx, T, seval, tA]
  refine CallK.go cm ?_
  simp only [vx, T, seval, tA]
  exact VLe.of_eq rfl
end Go.Proofs.YthfekehoehdkoaaGreat
