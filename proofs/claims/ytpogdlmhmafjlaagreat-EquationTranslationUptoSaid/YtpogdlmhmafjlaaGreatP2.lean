/-
  EquationTranslation, where what it reads is of bulk at most 1048576: the law returns true, and each argument reads afterwards as it read before. No condition beyond the given row's own cells.
  (Text 2 of 9; made by a program out of smaller texts.)
-/
import Derived.Test.YtpogdlmhmafjlaaGreatP1
set_option linter.unusedSimpArgs false
set_option linter.unusedVariables false
set_option maxHeartbeats 16000000
set_option maxRecDepth 10000
open Nat renaming reduceAdd → J1, reduceMul → J2, reduceSub → J3, reduceEqDiff → J4, reduceLT → J5, reduceLeDiff → J6, reduceBEq → J7, reduceDiv → J8, reduceMod → J9, reducePow → J0
open Int renaming reduceToNat → K1, reduceLE → K2, reduceLT → K3, reduceEq → K4, reducePow → K5, reduceSub → K6, reduceNeg → K7, natCast_add → X2, natCast_one → X3, natCast_zero → X4
open List renaming getD_cons_zero → X0, getD_cons_succ → X1, length_take → X5, length_append → X6, getD_eq_getElem?_getD → X7, getElem?_eq_getElem → X8
/-
  THE ENGINE, PART O: append, put together.
-/
namespace Go.Eng
open Go
def rowsR (wd : Nat) : C → Option (Nat × (Nat → Nat → C))
  | .nil => some (0, fun _ _ => .any)
  | .rows w n f => if w = wd then some (n, f) else none
  | _ => none
def base0 (own : List (Nat × Blk)) (wd : Nat) : C → Option (List (Nat × Blk))
  | .nil => some own
  | .own b w _ _ => if w = wd then (match lo own b with
    | some B => if B.rw then some (del own b) else none
    | none => none) else none
  | _ => none
def wAppend (T : Tab) (s : St) (dst : Option Tmp) (t : TypeId) (x y : Operand) (K : St → Prop) : Prop :=
  match dst with
  | none => False
  | some d => match T t with
    | some S => match S.k with
      | .sl e => match T e with
        | some E => match s.ev x, s.ev y with
          | .one cx, .one cy => match base0 s.own E.size cx with
            | some own0 => match E.k with
              | .int k => match intsC k (vwC s.own s.nx cx), intsC k (vwC s.own s.nx cy) with
                | some xs, some ys => E.zero.length = E.size ∧ E.size = 1 ∧ ((xs.length + ys.length) * E.bytes ≤ 140737488355328 ∧ xs.length + ys.length ≤ 9223372036854775807) ∧
                    K { env := (d, .one (.own s.nx 1 0 (xs ++ ys).length)) :: s.env, own := upd own0 s.nx ⟨.ints e k (xs ++ ys), true⟩, nx := s.nx + 1, n := s.n }
                | _, _ => False
              | _ => match rowsR E.size (vwC s.own s.nx cx), rowsR E.size (vwC s.own s.nx cy) with
                | some (n, f), some (m, g) => E.zero.length = E.size ∧ 0 < E.size ∧ ((n + m) * E.bytes ≤ 140737488355328 ∧ n + m ≤ 9223372036854775807) ∧
                    K { env := (d, .one (.own s.nx E.size 0 (n + m))) :: s.env, own := upd own0 s.nx ⟨.rows e E.size (n + m) (fun i j => if i < n then f i j else g (i - n) j), true⟩, nx := s.nx + 1, n := s.n }
                | _, _ => False
            | none => False
          | _, _ => False
        | none => False
      | _ => False
    | none => False
section
variable {G : Ctx} {dom : Nat → Prop} {ρ : Nat → Loc} {s : St} {a : Act} {w : World}
theorem own_cells (hs : SimR G dom ρ s a w) {b wd off len : Nat} {B : Blk} {v : Value} (hl : lo s.own b = some B) (hw : bkW B.bk = wd) (hr : RepC ρ dom (okOf G s.own ρ w) w (.own b wd off len) v) :
    ∃ ad cap us, v = .slice ad len cap ∧ Cells (okOf G s.own ρ w) w wd len (fun i j => bkElt B.bk (off + i) j) ad us := by
  obtain ⟨_, hlen, hrep, _⟩ := hs.own b B hl
  obtain ⟨_, hle, cap, hc, hr⟩ := hr
  rcases hr with ⟨g, o, o', haddr, rfl, ho, _⟩ | ⟨_, rfl, rfl, _⟩
  · by_cases h0 : len = 0
    · subst h0
      exact ⟨_, cap, [], rfl, cells_nil⟩
    unfold RepBk at hrep
    rw [haddr] at hrep
    obtain ⟨cur, e, hg, hcell⟩ := hrep
    have ho' : o' = o + off * wd := by rcases ho with ho | ho <;> omega
    rw [hlen] at hle
    obtain ⟨us, hus⟩ := cells_of (ok := okOf G s.own ρ w) (w := w) (wd := wd) (n := len) (g := g) (o := o') (f := fun i j => bkElt B.bk (off + i) j) (fun i j hi hj => by
      rw [cell_of_row w g _ cur e (0, 0) hg, ho']
      cases hB : B.bk with
      | var cs => rw [hB] at hw; simp only [bkW] at hw; omega
      | ints e' k xs =>
        rw [hB] at hcell hw hle
        simp only [bkW] at hw
        subst hw
        simp only [Bk.len] at hle
        have hx : off + i < xs.length := by omega
        obtain ⟨u, hu', hr⟩ := hcell (off + i) (.int k (xs.getD (off + i) 0)) (by simp [Bk.cell, X8 hx])
        exact ⟨u, by rw [show o + off * 1 + (i * 1 + j) = o + (off + i) by omega]; exact hu', hr⟩
      | rows e' wd' n' f =>
        rw [hB] at hcell hw hle
        simp only [bkW] at hw
        subst hw
        simp only [Bk.len] at hle
        have hlt : (off + i) * wd' + j < n' * wd' := by
          have : (off + i + 1) * wd' ≤ n' * wd' := Nat.mul_le_mul_right _ (by omega)
          rw [Nat.add_mul (off + i)] at this; omega
        obtain ⟨u, hu', hr⟩ := hcell ((off + i) * wd' + j) (f (off + i) j) (by
          simp only [Bk.cell,if_pos hlt]
          rw [Nat.mul_comm (off + i) wd', Nat.mul_add_div (by omega), Nat.div_eq_of_lt hj, Nat.mul_add_mod, Nat.mod_eq_of_lt hj]; simp)
        exact ⟨u, by rw [show o + off * wd' + (i * wd' + j) = o + ((off + i) * wd' + j) by rw [Nat.add_mul]; omega]; exact hu', hr⟩)
    exact ⟨_, cap, us, rfl, hus⟩
  exact ⟨none, 0, [], rfl, cells_nil⟩
theorem Cells.congr {ok : Nat → Prop} {wd n : Nat} {f g : Nat → Nat → C} {ad : Option Addr} {us : List Value} (h : Cells ok w wd n f ad us) (he : ∀ i j, i < n → j < wd → f i j = g i j) : Cells ok w wd n g ad us :=
  ⟨h.len, h.at_, h.one, fun i j hi hj => by rw [← he i j hi hj]; exact h.rep i j hi hj⟩
theorem ptr_none (own : List (Nat × Blk)) (nx b off : Nat) (k : IntKind) (wd : Nat) : intsC k (vwC own nx (.ptr b off)) = none ∧ rowsR wd (vwC own nx (.ptr b off)) = none := by
  simp only [vwC]
  split
  · cases lo own b with
    | none => exact ⟨rfl, rfl⟩
    | some B => obtain ⟨B, r⟩ := B; cases B <;> exact ⟨rfl, rfl⟩
  exact ⟨rfl, rfl⟩
theorem src_ints (hs : SimR G dom ρ s a w) (hdom : ∀ b, dom b → b < s.nx) {c : C} {v : Value} (hr : RepC ρ dom (okOf G s.own ρ w) w c v) {k : IntKind} {xs : List Int} (hx : intsC k (vwC s.own s.nx c) = some xs) :
    ∃ ad cap us, v = .slice ad xs.length cap ∧ Cells (okOf G s.own ρ w) w 1 xs.length (fun i _ => .int k (xs.getD i 0)) ad us := by
  cases c with
  | own b wd off len =>
    have hb := hdom b hr.1
    simp only [vwC,if_pos hb] at hx
    cases hl : lo s.own b with
    | none => rw [hl] at hx; simp [intsC] at hx
    | some B =>
      rw [hl] at hx
      simp only at hx
      cases hB : B.bk with
      | var cs => rw [hB] at hx; simp [vwBk, intsC] at hx
      | rows e w' n f => rw [hB] at hx; simp only [vwBk] at hx; split at hx <;> simp [intsC] at hx
      | ints e k' ys =>
        rw [hB] at hx
        simp only [vwBk] at hx
        split at hx
        · rename_i hwd
          subst hwd
          simp only [intsC] at hx
          split at hx
          · rename_i hk
            subst hk
            simp only [Option.some.injEq] at hx
            obtain ⟨ad, cap, us, hv, hc⟩ := own_cells hs hl (by rw [hB]; rfl) hr
            obtain ⟨_, hlen, _, _⟩ := hs.own b B hl
            have hle := hr.2.1
            rw [hlen, hB] at hle
            simp only [Bk.len] at hle
            have hxl : xs.length = len := by rw [← hx]; simp; omega
            refine ⟨ad, cap, us, by rw [hxl]; exact hv, ?_⟩
            rw [hxl]
            refine hc.congr fun i j hi hj => ?_
            simp only [hB,bkElt,← hx,X7,List.getElem?_take,List.getElem?_drop]
            rw [if_pos hi]
          cases hx
        simp [intsC] at hx
  | nil => exact (cells_im (c := .nil) hr).1 k xs hx
  | ints k' ys => exact (cells_im (c := .ints k' ys) hr).1 k xs hx
  | fn f n caps => simp only [vwC] at hx; split at hx <;> simp [intsC] at hx
  | ptr b off => rw [(ptr_none s.own s.nx b off k 0).1] at hx; cases hx
  | _ => simp [vwC, intsC] at hx
theorem src_rows (hs : SimR G dom ρ s a w) (hdom : ∀ b, dom b → b < s.nx) {c : C} {v : Value} (hr : RepC ρ dom (okOf G s.own ρ w) w c v) {wd n : Nat} {f : Nat → Nat → C} (hx : rowsR wd (vwC s.own s.nx c) = some (n, f)) :
    ∃ ad cap us, v = .slice ad n cap ∧ Cells (okOf G s.own ρ w) w wd n f ad us := by
  cases c with
  | own b wd' off len =>
    have hb := hdom b hr.1
    simp only [vwC,if_pos hb] at hx
    cases hl : lo s.own b with
    | none => rw [hl] at hx; simp [rowsR] at hx
    | some B =>
      rw [hl] at hx
      simp only at hx
      cases hB : B.bk with
      | var cs => rw [hB] at hx; simp [vwBk, rowsR] at hx
      | ints e k' ys => rw [hB] at hx; simp only [vwBk] at hx; split at hx <;> simp [rowsR] at hx
      | rows e w' n' f' =>
        rw [hB] at hx
        simp only [vwBk] at hx
        split at hx
        · rename_i hwd
          subst hwd
          simp only [rowsR] at hx
          split at hx
          · rename_i hww
            subst hww
            simp only [Option.some.injEq,Prod.mk.injEq] at hx
            obtain ⟨rfl, rfl⟩ := hx
            obtain ⟨ad, cap, us, hv, hc⟩ := own_cells hs hl (by rw [hB]; rfl) hr
            refine ⟨ad, cap, us, hv, hc.congr fun i j hi hj => by rw [hB]; rfl⟩
          cases hx
        simp [rowsR] at hx
  | nil =>
    simp only [vwC,rowsR,Option.some.injEq,Prod.mk.injEq] at hx
    exact (cells_im (c := .nil) hr).2 wd n f hx.1.symm
  | rows w' n' f' =>
    simp only [vwC,rowsR] at hx
    split at hx
    · rename_i hw
      simp only [Option.some.injEq,Prod.mk.injEq] at hx
      exact (cells_im (c := .rows w' n' f') hr).2 wd n f ⟨hw, hx.1, hx.2⟩
    cases hx
  | fn f n caps => simp only [vwC] at hx; split at hx <;> simp [rowsR] at hx
  | ptr b off => rw [(ptr_none s.own s.nx b off .i64 wd).2] at hx; cases hx
  | _ => simp [vwC, rowsR] at hx
theorem SimR.del (h : SimR G dom ρ s a w) (b : Nat) : SimR G dom ρ { s with own := Eng.del s.own b } a w := by
  have hext : Ext (okOf G s.own ρ w) (okOf G (Eng.del s.own b) ρ w) w w := Ext.of_imp fun g hg => ⟨hg.1, hg.2.1, fun b2 B2 hl2 hrw => by
    rw [lo_del] at hl2
    split at hl2
    · cases hl2
    exact hg.2.2 b2 B2 hl2 hrw⟩
  have hs : Same dom dom ρ ρ := ⟨fun _ h => h, fun _ _ => rfl⟩
  refine h.turn hext hs (fun b2 B2 hl2 => ?_) (fun b2 B2 b3 B3 hl2 hl3 => ?_) rfl rfl rfl (Nat.le_refl _) (fun _ _ _ => rfl)
  · rw [lo_del] at hl2
    split at hl2
    · cases hl2
    obtain ⟨h1, h2, h3, h4⟩ := h.own b2 B2 hl2
    exact ⟨h1, h2, RepBk.ext hext hs _ _ (fun _ _ _ => rfl) h3, h4⟩
  rw [lo_del] at hl2 hl3
  split at hl2
  · cases hl2
  split at hl3
  · cases hl3
  exact h.inj b2 B2 b3 B3 hl2 hl3
theorem SimR.nowhere (h : SimR G dom ρ s a w) {id : Nat} (hid : ¬ dom id) (B : Bk) (hB : ∀ j, B.cell j = none) (hlen : B.len = 0) :
    SimR G (fun b => dom b ∨ b = id) (setLoc ρ id ⟨none, 0⟩) { s with own := upd s.own id ⟨B, true⟩ } a w := by
  have hs := Same.setLoc ρ ⟨none, 0⟩ hid
  have hext : Ext (okOf G s.own ρ w) (okOf G (upd s.own id ⟨B, true⟩) (Eng.setLoc ρ id ⟨none, 0⟩) w) w w := Ext.of_imp fun g hg => ⟨hg.1, hg.2.1, fun b2 B2 hl2 hrw o => by
    rw [lo_upd] at hl2
    by_cases hbi : b2 = id
    · subst hbi; rw [sLs]; simp
    rw [if_neg hbi] at hl2
    rw [setLoc_ne _ _ hbi]
    exact hg.2.2 b2 B2 hl2 hrw o⟩
  refine h.turn hext hs (fun b2 B2 hl2 => ?_) (fun b2 B2 b3 B3 hl2 hl3 hne hrw g o o' ha => ?_) rfl rfl rfl (Nat.le_refl _) (fun _ _ _ => rfl)
  · rw [lo_upd] at hl2
    by_cases hbi : b2 = id
    · subst hbi
      rw [if_pos rfl] at hl2
      obtain rfl := Option.some.inj hl2
      rw [sLs]
      exact ⟨.inr rfl, hlen.symm, hB, fun g o ha => by cases ha⟩
    rw [if_neg hbi] at hl2
    rw [setLoc_ne _ _ hbi]
    obtain ⟨h1, h2, h3, h4⟩ := h.own b2 B2 hl2
    exact ⟨.inl h1, h2, RepBk.ext hext hs _ _ (fun _ _ _ => rfl) h3, h4⟩
  rw [lo_upd] at hl2 hl3
  by_cases hbi : b2 = id
  · subst hbi; rw [sLs] at ha; cases ha
  rw [if_neg hbi] at hl2
  rw [setLoc_ne _ _ hbi] at ha
  by_cases hbi' : b3 = id
  · subst hbi'; rw [sLs]; simp
  rw [if_neg hbi'] at hl3
  rw [setLoc_ne _ _ hbi']
  exact h.inj b2 B2 b3 B3 hl2 hl3 hne hrw g o o' ha
theorem SimR.drew (h : SimR G dom ρ s a w) : SimR G dom ρ s a w.drew := h.grown ((Go.RowKit.Below.refl _ _).drew)
end
theorem append_zero_run {P : Program} {w : World} {t ty e : TypeId} {i : TypeInfo} (ht : P.underlying t = some (.slice e)) (hi : P.info? e = some i) (b : Option Addr) (n cap : Nat) (a : Option Addr) (c : Nat) (h : n ≤ cap) :
    (Builtin.append_ #[t, t] ty #[.slice b n cap, .slice a 0 c]).run P w = .ok (.slice b n cap) w := by
  have hf := firstCells_run (P := P) (w := w) i.size 0 a 0 c [] (by simp) (.inl rfl)
  cases b <;> simp [Builtin.append_, Go.run_underlying ht, sizeOf, typeInfo, hi, Builtin.lenOf, hf, h, storeCells]
section
variable {P : Program} {T : Tab} {o : Oper} {s : St} {K : St → Prop}
theorem append_types {P : Program} {t t' e e' : TypeId} (ht : P.underlying t = some (.slice e)) (ht' : P.underlying t' = some (.slice e')) (ty : TypeId) (u v : Value) (w : World) :
    (Builtin.append_ #[t, t'] ty #[u, v]).run P w = (Builtin.append_ #[t, t] ty #[u, v]).run P w := by
  simp only [Builtin.append_,List.getElem?_toArray,List.getElem?_cons_zero,List.getElem?_cons_succ,Sem.run_bind,run_underlying' ht,run_underlying' ht',Result.andThen_ok,Sem.run_pure]
  cases u <;> simp only [Sem.run_bind,run_underlying' ht,run_underlying' ht',Result.andThen_ok,Sem.run_pure]
theorem append_sound {d : Tmp} (hd : o.dst = some d) (hdn : d < s.n) {c : Call} (ho : o.op = .call c) (hcal : c.callee = .builtin .append) {x y : Operand} (hargs : c.args = #[x, y]) {t t' : TypeId} (htys : c.argTypes = #[t, t']) {e' : TypeId} (ht' : P.underlying t' = some (.slice e'))
    {e : TypeId} {ei : TypeInfo} {ez : Value} (ht : P.underlying t = some (.slice e)) (hei : P.info? e = some ei) (hez : ei.zero = some ez) (hzs : ez.cells.size = ei.size)
    {cx : C} (hx : s.ev x = .one cx) {wd : Nat} (hwd : wd = ei.size) (hpos : 0 < wd) {own0 : List (Nat × Blk)} (hbase : base0 s.own wd cx = some own0)
    {n m : Nat} {f0 f1 : Nat → Nat → C} (B' : Bk) (hBv : ∀ cs, B' ≠ .var cs) (hBl : B'.len = n + m)
    (hB' : ∀ j c, B'.cell j = some c → j < (n + m) * wd ∧ c = if j / wd < n then f0 (j / wd) (j % wd) else f1 (j / wd - n) (j % wd))
    (hb : (n + m) * ei.bytes ≤ 140737488355328) (h63 : n + m ≤ 9223372036854775807)
    (hcx : ∀ G ρ a w, SimR G (fun b => b < s.nx) ρ s a w → ∃ ad cap us, a.eval x = .slice ad n cap ∧ Cells (okOf G s.own ρ w) w wd n f0 ad us)
    (hcy : ∀ G ρ a w, SimR G (fun b => b < s.nx) ρ s a w → ∃ ad cap us, a.eval y = .slice ad m cap ∧ Cells (okOf G s.own ρ w) w wd m f1 ad us)
    (hK : K { env := (d, .one (.own s.nx wd 0 (n + m))) :: s.env, own := upd own0 s.nx ⟨B', true⟩, nx := s.nx + 1, n := s.n }) : WEff P o s K := by
  subst hwd
  intro G a w hsim Q next hk
  obtain ⟨ρ, hs⟩ := hsim
  obtain ⟨ad0, cap0, us0, hv0, hc0⟩ := hcx G ρ a w hs
  obtain ⟨ad1, cap1, us1, hv1, hc1⟩ := hcy G ρ a w hs
  have hid : ¬ (s.nx < s.nx) := Nat.lt_irrefl _
  have hexec : ∀ (v : Value) (w' : World), (Builtin.append_ #[t, t] o.type #[a.eval x, a.eval y]).run P w = .ok v w' → (execOp a.eval o).run P w = .ok (.value v) w' := by
    intro v w' hr
    unfold execOp
    rw [ho]
    simp only [resolve,hcal,Sem.run_bind,Sem.run_pure,Result.andThen_ok,invoke,Go.builtin,hargs,htys]
    rw [show Array.map a.eval #[x, y] = #[a.eval x, a.eval y] by simp, append_types ht ht', hr]
    rfl
  -- from the block's state to the whole
  have fin : ∀ (v : Value) (w' : World) (ρ' : Nat → Loc), (execOp a.eval o).run P w = .ok (.value v) w' →
      SimR G (fun b => b < s.nx ∨ b = s.nx) ρ' { s with own := upd own0 s.nx ⟨B', true⟩ } a w' → RepC ρ' (fun b => b < s.nx ∨ b = s.nx) (okOf G (upd own0 s.nx ⟨B', true⟩) ρ' w') w' (.own s.nx ei.size 0 (n + m)) v → o.wp P a w next Q := by
    intro v w' ρ' hr h1 h2
    refine Oper.wp_value hr (hk _ _ _ hK ⟨ρ', ?_⟩)
    rw [hd]
    have h3 := h1.put (dst := some d) (x := .one (.own s.nx ei.size 0 (n + m))) (v := v) (fun d' hh => by cases hh; exact hdn) h2
    have h4 := h3.mono_dom (dom' := fun b => b < s.nx + 1) (fun b hb => by rcases hb with hb | hb <;> omega)
    exact { hd := h4.hd, hn := h4.hn, env := h4.env, own := h4.own, inj := h4.inj, os := h4.os, tape := h4.tape, output := h4.output, size := h4.size, keep := h4.keep, wf := h4.wf, home := h4.home, room := h4.room }
  -- a new row
  have cellAt : ∀ (pre : List Value), pre = us0 ++ us1 → ∀ j c, B'.cell j = some c → ∃ u, pre[j]? = some u ∧ RepI (okOf G s.own ρ w) w c u := by
    intro pre hpre j c hj
    obtain ⟨hlt, rfl⟩ := hB' j c hj
    have hdm : j / ei.size * ei.size + j % ei.size = j := by rw [Nat.mul_comm]; exact Nat.div_add_mod j ei.size
    have hml : j % ei.size < ei.size := Nat.mod_lt _ hpos
    have hdl : j / ei.size < n + m := (Nat.div_lt_iff_lt_mul hpos).2 hlt
    have hl0 := hc0.len
    by_cases hn : j / ei.size < n
    · rw [if_pos hn]
      obtain ⟨u, hu, hr⟩ := hc0.rep _ _ hn hml
      rw [hdm] at hu
      refine ⟨u, ?_, hr⟩
      have hju := (List.getElem?_eq_some_iff.1 hu).1
      rw [hpre, List.getElem?_append_left hju]; exact hu
    rw [if_neg hn]
    obtain ⟨u, hu, hr⟩ := hc1.rep (j / ei.size - n) _ (by omega) hml
    refine ⟨u, ?_, hr⟩
    have hge : n * ei.size ≤ j := by
      have : n * ei.size ≤ j / ei.size * ei.size := Nat.mul_le_mul_right _ (by omega)
      omega
    rw [hpre, List.getElem?_append_right (by omega), hl0, ← hu]
    congr 1
    have hmul : n * ei.size ≤ j / ei.size * ei.size := Nat.mul_le_mul_right _ (by omega)
    rw [Nat.sub_mul, ← Nat.sub_add_comm hmul, hdm]
  have hzz : (us0.toArray ++ us1.toArray).toList = us0 ++ us1 := by simp
  have newRow : cap0 < n + m → (own0 = s.own ∨ ∃ b, own0 = Eng.del s.own b) → o.wp P a w next Q := by
    intro hcap hown
    have hr := append_new_run (ty := o.type) ht hei hez ad0 n cap0 us0 hc0.len hc0.at_ ad1 m cap1 us1 hc1.len hc1.at_ hcap hb h63
    rw [← hv0, ← hv1] at hr
    have hgc : n + m ≤ grownCap w (n + m) cap0 e := grownCap_ge w _ _ _
    have h1 : SimR G (fun b => b < s.nx) ρ { s with own := own0 } a w.drew := by
      rcases hown with rfl | ⟨b, rfl⟩
      · exact hs.drew
      exact hs.drew.del b
    have hokm : ∀ g, okOf G s.own ρ w g → okOf G own0 ρ w.drew g := fun g hg => by
      rcases hown with rfl | ⟨b, rfl⟩
      · exact hg
      exact ⟨hg.1, hg.2.1, fun b2 B2 hl2 hrw => by
        rw [lo_del] at hl2
        split at hl2
        · cases hl2
        exact hg.2.2 b2 B2 hl2 hrw⟩
    have hextd : Ext (okOf G s.own ρ w) (okOf G own0 ρ w.drew) w w.drew := ⟨fun g hg => ⟨hokm g hg, rfl⟩, fun _ => Nat.le_refl _⟩
    have h2 := h1.newBlk hid B' (us0.toArray ++ us1.toArray ++ Builtin.zeroCells ez.cells (grownCap w (n + m) cap0 e - (n + m))) e (fun j c hj => by
      obtain ⟨u, hu, hr⟩ := cellAt _ rfl j c hj
      refine ⟨u, ?_, ?_⟩
      · have hju := (List.getElem?_eq_some_iff.1 hu).1
        rw [Array.getElem?_append_left (by simpa using hju)]
        rw [← Array.getElem?_toList, hzz]; exact hu
      have hr' := RepI.ext hextd _ _ hr
      cases B' with
      | var cs => exact absurd rfl (hBv cs)
      | ints e k xs => exact hr'
      | rows e w n f => exact hr')
    refine fin _ _ _ (hexec _ _ hr) h2 ⟨.inr rfl, by rw [sLs]; simp [hBl], grownCap w (n + m) cap0 e, hgc, .inl ⟨w.heap.size, 0, 0, by rw [sLs]; rfl, rfl, .inr (by simp), ?_⟩⟩
    have hrs : rowSize (w.drew.alloc (.cells (us0.toArray ++ us1.toArray ++ Builtin.zeroCells ez.cells (grownCap w (n + m) cap0 e - (n + m))) e)) w.heap.size = (us0.toArray ++ us1.toArray ++ Builtin.zeroCells ez.cells (grownCap w (n + m) cap0 e - (n + m))).size := rowSize_of (heap_alloc_new w.drew _)
    rw [hrs]
    simp only [Array.size_append,List.size_toArray,size_zeroCells,hc0.len,hc1.len,hzs]
    have : grownCap w (n + m) cap0 e = n + m + (grownCap w (n + m) cap0 e - (n + m)) := by omega
    rw [Nat.zero_add, Nat.zero_add]
    conv => lhs; rw [this]
    rw [Nat.add_mul, Nat.add_mul]
    exact Nat.le_refl _
  unfold base0 at hbase
  split at hbase
  · -- the base is nil
    simp only [Option.some.injEq] at hbase
    have hxn := hs.ev x
    rw [hx] at hxn
    have hxn : a.eval x = .slice none 0 0 := hxn
    rw [hxn] at hv0
    simp only [Value.slice.injEq] at hv0
    obtain ⟨rfl, rfl, rfl⟩ := hv0
    by_cases hm : m = 0
    · subst hm
      have hr := append_none_run (P := P) (w := w) (ty := o.type) ht hei ad1 cap1
      rw [← hv1, ← hxn] at hr
      subst hbase
      have h2 := hs.nowhere hid B' (fun j => by
        cases hc : B'.cell j with
        | none => rfl
        | some c => have := (hB' j c hc).1; simp at this) (by rw [hBl])
      exact fin _ _ _ (hexec _ _ hr) h2 ⟨.inr rfl, by rw [sLs]; simp, 0, by simp, .inr ⟨by rw [sLs], hxn, by simp, rfl⟩⟩
    exact newRow (by omega) (.inl hbase.symm)
  · -- it is a slice of the frame's own
    rename_i b w' off len
    split at hbase
    · rename_i hww
      subst hww
      cases hlo : lo s.own b with
      | none => rw [hlo] at hbase; simp at hbase
      | some B =>
        rw [hlo] at hbase
        simp only at hbase
        split at hbase
        · rename_i hrw
          simp only [Option.some.injEq] at hbase
          by_cases hcap : cap0 < n + m
          · exact newRow hcap (.inr ⟨b, hbase.symm⟩)
          have hxo := hs.ev x
          rw [hx] at hxo
          obtain ⟨hdb, hle, cap, hc, hxo⟩ := hxo
          rcases hxo with ⟨g, o1, o2, haddr, hvx, ho, hroom⟩ | ⟨haddr, hvx, rfl, rfl⟩
          · rw [hvx] at hv0
            simp only [Value.slice.injEq] at hv0
            obtain ⟨rfl, rfl, rfl⟩ := hv0
            obtain ⟨_, hlenb, hrepb, hlocb⟩ := hs.own b B hlo
            unfold RepBk at hrepb
            rw [haddr] at hrepb
            obtain ⟨cur, e', hg, hcells⟩ := hrepb
            rw [rowSize_of hg] at hroom
            have hlo' : lo s.own b = some ⟨B.bk, true⟩ := by rw [hlo, ← hrw]
            -- the base's place
            have hfit : o2 + len * ei.size + us1.length ≤ cur.size ∨ len + m = 0 := by
              by_cases h0 : len + m = 0
              · exact .inr h0
              left
              have ho2 : o2 = o1 + off * ei.size := by rcases ho with ho | ho <;> omega
              have hl1 := hc1.len
              have h3 : (len + m) * ei.size ≤ cap * ei.size := Nat.mul_le_mul_right _ (by omega)
              rw [Nat.add_mul] at h3 hroom
              omega
            rcases hfit with hfit | h0
            · have hr := append_room_run (P := P) (w := w) (ty := o.type) ht hei g o2 len cap hg ad1 m cap1 us1 hc1.len hc1.at_ hc1.one (by omega) hfit
              rw [← hvx, ← hv1] at hr
              have hsz' : ((cur.toList.take (o2 + len * ei.size) ++ us1 ++ cur.toList.drop (o2 + len * ei.size + us1.length)).toArray).size = cur.size := by simp; omega
              have h2 := hs.rewrite hlo' haddr hg hsz' hid B' o2 (fun j c hj => by
                obtain ⟨hlt, rfl⟩ := hB' j c hj
                have hdm : j / ei.size * ei.size + j % ei.size = j := by rw [Nat.mul_comm]; exact Nat.div_add_mod j ei.size
                have hml : j % ei.size < ei.size := Nat.mod_lt _ hpos
                have hdl : j / ei.size < len + m := (Nat.div_lt_iff_lt_mul hpos).2 hlt
                have hlg := laid_get cur.toList (o2 + len * ei.size) us1 (by simpa using hfit) (o2 + j)
                have hl1 := hc1.len
                by_cases hn : j / ei.size < len
                · rw [if_pos hn]
                  obtain ⟨u, hu, hr⟩ := hc0.rep _ _ hn hml
                  rw [hdm] at hu
                  have hjl : j < len * ei.size := by
                    have : (j / ei.size + 1) * ei.size ≤ len * ei.size := Nat.mul_le_mul_right _ hn
                    rw [Nat.add_mul] at this; omega
                  rw [if_neg (by omega)] at hlg
                  refine ⟨u, ?_, ?_⟩
                  · rw [List.getElem?_toArray, hlg, Array.getElem?_toList]
                    rcases hc0.at_ with h0 | ⟨ad, had, hat⟩
                    · rw [h0] at hu; simp at hu
                    simp only [Option.some.injEq] at had
                    subst had
                    have := hat j u hu
                    rw [add_lit', cell_of_row w g _ cur e' (0, 0) hg] at this
                    exact this
                  cases B' with
                  | var cs => exact absurd rfl (hBv cs)
                  | ints e k xs => exact hr
                  | rows e w n f => exact hr
                rw [if_neg hn]
                obtain ⟨u, hu, hr⟩ := hc1.rep (j / ei.size - len) _ (by omega) hml
                have hmul : len * ei.size ≤ j / ei.size * ei.size := Nat.mul_le_mul_right _ (by omega)
                have hge : len * ei.size ≤ j := by omega
                rw [Nat.sub_mul, ← Nat.sub_add_comm hmul, hdm] at hu
                have hju := (List.getElem?_eq_some_iff.1 hu).1
                rw [if_pos (by omega), show o2 + j - (o2 + len * ei.size) = j - len * ei.size by omega] at hlg
                refine ⟨u, ?_, ?_⟩
                · rw [List.getElem?_toArray, hlg, ← hu]
                cases B' with
                | var cs => exact absurd rfl (hBv cs)
                | ints e k xs => exact hr
                | rows e w n f => exact hr)
              subst hbase
              refine fin _ _ _ (hexec _ _ hr) h2 ⟨.inr rfl, by rw [sLs]; simp [hBl], cap, by omega, .inl ⟨g, o2, o2, by rw [sLs], rfl, .inr (by simp), ?_⟩⟩
              rw [rowSize_of (setRow_heap w g cur _ e' (0, 0) hg), hsz']
              by_cases hc0' : cap = 0
              · subst hc0'; simp; omega
              have ho2 : o2 = o1 + off * ei.size := by rcases ho with ho | ho <;> omega
              rw [Nat.add_mul] at hroom
              rw [ho2, Nat.zero_add]; omega
            -- nothing at all is laid
            have hl0 : len = 0 := by omega
            have hm0 : m = 0 := by omega
            subst hl0; subst hm0
            have hr := append_zero_run (P := P) (w := w) (ty := o.type) ht hei (some ⟨g, o2, none⟩) 0 cap ad1 cap1 hc
            rw [← hvx, ← hv1] at hr
            have h2 := hs.rewrite (cur' := cur) hlo' haddr hg rfl hid B' (o1 + off * ei.size) (fun j c hj => by have := (hB' j c hj).1; simp at this)
            rw [setRow_self w g cur e' (0, 0) hg] at h2
            subst hbase
            refine fin _ _ _ (hexec _ _ hr) h2 ⟨.inr rfl, by rw [sLs]; simp, cap, hc, .inl ⟨g, o1 + off * ei.size, o2, by rw [sLs], hvx, ?_, ?_⟩⟩
            · rcases ho with ho | ho
              · exact .inl ho
              exact .inr (by rw [ho]; omega)
            rw [rowSize_of hg]
            rw [Nat.add_mul] at hroom
            rw [Nat.zero_add]; omega
          rw [hvx] at hv0
          simp only [Value.slice.injEq] at hv0
          obtain ⟨rfl, rfl, rfl⟩ := hv0
          have hm : m = 0 := by omega
          subst hm
          have hr := append_none_run (P := P) (w := w) (ty := o.type) ht hei ad1 cap1
          rw [← hv1, ← hvx] at hr
          subst hbase
          have h2 := (hs.del b).nowhere hid B' (fun j => by
            cases hc : B'.cell j with
            | none => rfl
            | some c => have := (hB' j c hc).1; simp at this) (by rw [hBl])
          exact fin _ _ _ (hexec _ _ hr) h2 ⟨.inr rfl, by rw [sLs]; simp, 0, by simp, .inr ⟨by rw [sLs], hvx, by simp, rfl⟩⟩
        cases hbase
    cases hbase
  cases hbase
theorem sAppend (hT : TabOk P T) {c : Call} (ho : o.op = .call c) (hcal : c.callee = .builtin .append) {x y : Operand} (hargs : c.args = #[x, y]) {t t' : TypeId} (htys : c.argTypes = #[t, t']) {e' : TypeId} (ht' : P.underlying t' = some (.slice e'))
    (hdn : dstLt o s.n) (h : wAppend T s o.dst t x y K) : WEff P o s K := by
  unfold wAppend at h
  cases hd : o.dst with
  | none => rw [hd] at h; exact h.elim
  | some d =>
    rw [hd] at h
    simp only at h
    cases hTt : T t with
    | none => rw [hTt] at h; exact h.elim
    | some S =>
      rw [hTt] at h
      simp only at h
      split at h
      · rename_i e hSk
        have hu := T_slice hT hTt hSk
        cases hTe : T e with
        | none => rw [hTe] at h; exact h.elim
        | some E =>
          rw [hTe] at h
          simp only at h
          obtain ⟨ei, ed, ez, hei, heu, hez, hek, hes, heb, hzc, hall⟩ := T_parts hT hTe
          split at h
          · rename_i cx cy hx hy
            cases hb : base0 s.own E.size cx with
            | none => rw [hb] at h; exact h.elim
            | some own0 =>
              rw [hb] at h
              simp only at h
              have hcx : ∀ G ρ a w, SimR G (fun b => b < s.nx) ρ s a w → RepC ρ (fun b => b < s.nx) (okOf G s.own ρ w) w cx (a.eval x) := fun G ρ a w hs => by
                have := hs.ev x; rw [hx] at this; exact this
              have hcy : ∀ G ρ a w, SimR G (fun b => b < s.nx) ρ s a w → RepC ρ (fun b => b < s.nx) (okOf G s.own ρ w) w cy (a.eval y) := fun G ρ a w hs => by
                have := hs.ev y; rw [hy] at this; exact this
              split at h
              · rename_i k hk
                split at h
                · rename_i xs ys hxs hys
                  obtain ⟨hzl, hE1, ⟨hbd, h63⟩, hK⟩ := h
                  have hzs : ez.cells.size = ei.size := by rw [← hes, ← hzl, hzc]; simp
                  refine append_sound (wd := E.size) (n := xs.length) (m := ys.length) (f0 := fun i _ => .int k (xs.getD i 0)) (f1 := fun i _ => .int k (ys.getD i 0)) hd (hdn d hd) ho hcal hargs htys ht' hu hei hez hzs hx hes (by omega) hb (.ints e k (xs ++ ys)) (fun cs => by simp) (by simp [Bk.len]) (fun j c hj => ?_) (by rw [← heb]; exact hbd) h63 (fun G ρ a w hs => ?_) (fun G ρ a w hs => ?_) (by rw [hE1, ← X6]; exact hK)
                  · simp only [Bk.cell] at hj
                    obtain ⟨v, hv, rfl⟩ := Option.map_eq_some_iff.1 hj
                    obtain ⟨hjl, hjv⟩ := List.getElem?_eq_some_iff.1 hv
                    rw [X6] at hjl
                    rw [hE1, Nat.mul_one, Nat.div_one]
                    refine ⟨hjl, ?_⟩
                    subst hjv
                    by_cases hjx : j < xs.length
                    · rw [if_pos hjx]
                      congr 1
                      rw [List.getElem_append_left hjx]
                      simp [X8 hjx]
                    rw [if_neg hjx]
                    congr 1
                    rw [List.getElem_append_right (by omega)]
                    have : j - xs.length < ys.length := by omega
                    simp [X8 this]
                  · rw [hE1]; exact src_ints hs (fun _ h => h) (hcx G ρ a w hs) hxs
                  rw [hE1]; exact src_ints hs (fun _ h => h) (hcy G ρ a w hs) hys
                exact h.elim
              split at h
              · rename_i n f m g hxs hys
                obtain ⟨hzl, hpos, ⟨hbd, h63⟩, hK⟩ := h
                have hzs : ez.cells.size = ei.size := by rw [← hes, ← hzl, hzc]; simp
                refine append_sound (wd := E.size) (n := n) (m := m) (f0 := f) (f1 := g) hd (hdn d hd) ho hcal hargs htys ht' hu hei hez hzs hx hes hpos hb (.rows e E.size (n + m) (fun i j => if i < n then f i j else g (i - n) j)) (fun cs => by simp) rfl (fun j c hj => ?_) (by rw [← heb]; exact hbd) h63 (fun G ρ a w hs => ?_) (fun G ρ a w hs => ?_) hK
                · simp only [Bk.cell] at hj
                  split at hj
                  · rename_i hlt
                    simp only [Option.some.injEq] at hj
                    exact ⟨hlt, hj.symm⟩
                  cases hj
                · exact src_rows hs (fun _ h => h) (hcx G ρ a w hs) hxs
                exact src_rows hs (fun _ h => h) (hcy G ρ a w hs) hys
              exact h.elim
          exact h.elim
      exact h.elim
end
end Go.Eng
/-
  THE ENGINE, PART P: calls of functions that turn one block of the caller's.
-/
namespace Go.Eng
open Go
def Bk.plain : Bk → Prop
  | .var cs => cs.all scalarC = true
  | _ => True
structure MBelow (l : Loc) (w w' : World) : Prop where
  os : w'.os = w.os
  tape : w'.tape = w.tape
  output : w'.output = w.output
  size : w.heap.size ≤ w'.heap.size
  block : ∀ k, k < w.heap.size → (∀ o, l.addr ≠ some (k, o)) → w'.heap[k]? = w.heap[k]?
  room : ∀ g, rowSize w g ≤ rowSize w' g
def okM (ok : Nat → Prop) (w w' : World) (g : Nat) : Prop := ok g ∨ (w.heap.size ≤ g ∧ g < w'.heap.size)
def Mc (P : Program) (f : FuncId) (args : List V) (B : Bk) (R : V → Bk → Prop) : Prop :=
  Callable P f ∧ ∀ (ok : Nat → Prop) (w : World) (vs : Array Value) (l : Loc), (∀ g, ok g → g < w.heap.size) → l.len = B.len → (∀ g o, l.addr = some (g, o) → g < w.heap.size ∧ ¬ ok g) →
    RepBk loc0 dom0 ok w l B → RepVL (fun _ => l) (fun b => b = 0) ok w args vs.toList →
    Calls P f vs w fun e w' => ∃ v r B', e = .returned v ∧ R r B' ∧ B'.plain ∧ B'.len = B.len ∧ MBelow l w w' ∧
      RepBk loc0 dom0 (okM ok w w') w' l B' ∧ RepV (fun _ => l) (fun b => b = 0) (okM ok w w') w' r v
def muC (b : Nat) (own : List (Nat × Blk)) (nx : Nat) (c : C) : C :=
  match c with
  | .own b' wd off len => if b' = b then .own 0 wd off len else vwC own nx (.own b' wd off len)
  | .ptr b' off => if b' = b then .ptr 0 off else .any
  | c => vwC own nx c
def muV (b : Nat) (own : List (Nat × Blk)) (nx : Nat) : V → V
  | .one c => .one (muC b own nx c)
  | _ => .unk
def backC (b : Nat) (c : C) : C :=
  match c with
  | .own _ wd off len => .own b wd off len
  | .ptr _ off => .ptr b off
  | .eptr _ _ _ _ => .any
  | .fn _ _ _ => .any
  | c => c
def back1 (b : Nat) : V → V
  | .one c => .one (backC b c)
  | _ => .unk
def backV (b : Nat) : V → V
  | .one c => .one (backC b c)
  | .tup xs => .tup (xs.map (back1 b))
  | _ => .unk
theorem RepBk.plain_ext {ρ ρ' : Nat → Loc} {dom dom' ok ok' : Nat → Prop} {w : World} {l : Loc} {B : Bk} (hp : B.plain) (h : ∀ g, ok g → ok' g) (hr : RepBk ρ dom ok w l B) : RepBk ρ' dom' ok' w l B := by
  unfold RepBk at *
  cases ha : l.addr with
  | none => rw [ha] at hr; exact hr
  | some p =>
    obtain ⟨g, o⟩ := p
    rw [ha] at hr
    obtain ⟨cur, e, hg, hc⟩ := hr
    refine ⟨cur, e, hg, fun j c hj => ?_⟩
    obtain ⟨u, hu, hr⟩ := hc j c hj
    refine ⟨u, hu, ?_⟩
    cases B with
    | var cs =>
      have hm : c ∈ cs := List.mem_of_getElem? hj
      exact scalarC_any (List.all_eq_true.1 hp c hm) hr
    | ints e k xs => exact RepI.ext (Ext.of_imp h) _ _ hr
    | rows e wd n f => exact RepI.ext (Ext.of_imp h) _ _ hr
section
variable {G : Ctx} {dom : Nat → Prop} {ρ : Nat → Loc} {s : St} {a : Act} {w : World}
theorem muV_sound (hs : SimR G dom ρ s a w) (b : Nat) (ids : List Nat) (x : V) (v : Value) (hi : ∀ b' ∈ idsV x, b' ≠ b → b' ∈ ids) (hr : RepV ρ dom (okOf G s.own ρ w) w x v) :
    RepV1 (fun _ => ρ b) (fun i => i = 0) (okIds G s.own ρ w ids) w (muV b s.own s.nx x) v := by
  have o : Oper := default
  have hsame : Same dom0 (fun i : Nat => i = 0) loc0 (fun _ => ρ b) := ⟨fun _ h => h.elim, fun _ h => h.elim⟩
  have hx : Ext (okIds G s.own ρ w ids) (okIds G s.own ρ w ids) w w := Ext.refl _ _
  cases x with
  | one c =>
    have view : (∀ b' ∈ idsC c, b' < s.nx → b' ∈ ids) → RepC (fun _ => ρ b) (fun i => i = 0) (okIds G s.own ρ w ids) w (vwC s.own s.nx c) v := fun hi' =>
      RepC.ext hx hsame _ _ (vwC_sound hs (Agr.refl s s.nx o) c v ids hi' hr)
    cases c with
    | own b' wd off len =>
      show RepC _ _ _ w (muC b s.own s.nx (.own b' wd off len)) v
      simp only [muC]
      by_cases hb : b' = b
      · rw [if_pos hb]
        subst hb
        obtain ⟨_, h2, h3⟩ := hr
        exact ⟨rfl, h2, h3⟩
      rw [if_neg hb]
      refine view fun b2 hb2 _ => hi b2 hb2 ?_
      simp only [idsC,List.mem_singleton] at hb2
      subst hb2; exact hb
    | ptr b' off =>
      show RepC _ _ _ w (muC b s.own s.nx (.ptr b' off)) v
      simp only [muC]
      by_cases hb : b' = b
      · rw [if_pos hb]
        subst hb
        obtain ⟨_, h2⟩ := hr
        exact ⟨rfl, h2⟩
      rw [if_neg hb]
      have hr : RepC ρ dom (okOf G s.own ρ w) w (.ptr b' off) v := hr
      exact (RepC.plain hr).1
    | any => exact view (fun _ h => by simp [idsC] at h)
    | bool t => exact view (fun _ h => by simp [idsC] at h)
    | int k n => exact view (fun _ h => by simp [idsC] at h)
    | str t => exact view (fun _ h => by simp [idsC] at h)
    | nil => exact view (fun _ h => by simp [idsC] at h)
    | ints k xs => exact view (fun _ h => by simp [idsC] at h)
    | rows wd n f => exact view (fun _ h => by simp [idsC] at h)
    | elt c wd i off => exact view (fun _ h => by simp [idsC] at h)
    | eptr b wd i off => exact view (fun _ h => by simp [idsC] at h)
    | fn f n caps => exact view (fun _ h => by simp [idsC] at h)
  | agg cs => trivial
  | tup xs => trivial
  | unk => trivial
theorem backC_sound {dom : Nat → Prop} {ρ : Nat → Loc} {ok ok' : Nat → Prop} {w : World} {b : Nat} (hb : dom b) (h : ∀ g, ok g → ok' g) {c : C} {v : Value} (hr : RepC (fun _ => ρ b) (fun i => i = 0) ok w c v) : RepC ρ dom ok' w (backC b c) v := by
  have hx : Ext ok ok' w w := Ext.of_imp h
  cases c with
  | own b' wd off len =>
    obtain ⟨_, h2, h3⟩ := hr
    exact ⟨hb, h2, h3⟩
  | ptr b' off =>
    obtain ⟨_, h2⟩ := hr
    exact ⟨hb, h2⟩
  | eptr b' wd i off => exact (RepC.plain (c := .eptr b' wd i off) hr).1
  | fn f n caps => exact (RepC.plain (c := .fn f n caps) hr).1
  | any => exact RepI.ext hx .any v hr
  | bool t => exact RepI.ext hx (.bool t) v hr
  | int k n => exact RepI.ext hx (.int k n) v hr
  | str t => exact RepI.ext hx (.str t) v hr
  | nil => exact RepI.ext hx .nil v hr
  | ints k xs => exact RepI.ext hx (.ints k xs) v hr
  | rows wd n f => exact RepI.ext hx (.rows wd n f) v hr
  | elt c wd i off => exact RepI.ext hx (.elt c wd i off) v hr
theorem back1_sound {dom : Nat → Prop} {ρ : Nat → Loc} {ok ok' : Nat → Prop} {w : World} {b : Nat} (hb : dom b) (h : ∀ g, ok g → ok' g) : ∀ {xs : List V} {vs : List Value}, RepVL (fun _ => ρ b) (fun i => i = 0) ok w xs vs → RepVL ρ dom ok' w (xs.map (back1 b)) vs
  | [], [], _ => trivial
  | x :: xs, v :: vs, hr => by
    refine ⟨?_, back1_sound hb h hr.2⟩
    cases x with
    | one c => exact backC_sound (c := c) hb h hr.1
    | unk => trivial
    | agg cs => trivial
    | tup ys => trivial
  | [], _ :: _, hr => hr.elim
  | _ :: _, [], hr => hr.elim
theorem backV_sound {dom : Nat → Prop} {ρ : Nat → Loc} {ok ok' : Nat → Prop} {w : World} {b : Nat} (hb : dom b) (h : ∀ g, ok g → ok' g) {x : V} {v : Value} (hr : RepV (fun _ => ρ b) (fun i => i = 0) ok w x v) : RepV ρ dom ok' w (backV b x) v := by
  cases x with
  | one c => exact backC_sound (c := c) hb h hr
  | unk => trivial
  | agg cs => trivial
  | tup xs =>
    obtain ⟨vs, h1, h2⟩ := hr
    exact ⟨vs, h1, back1_sound hb h h2⟩
theorem SimR.turned (h : SimR G dom ρ s a w) {b : Nat} {B : Bk} (hl : lo s.own b = some ⟨B, true⟩) {ids : List Nat} (hids : b ∉ ids) {w' : World} (hm : MBelow (ρ b) w w') {B' : Bk} (hp : B'.plain) (hlen : B'.len = B.len)
    (hrep : RepBk loc0 dom0 (okM (okIds G s.own ρ w ids) w w') w' (ρ b) B') :
    SimR G dom ρ { s with own := upd (Eng.frz s.own ids) b ⟨B', true⟩ } a w' ∧ ∀ g, okM (okIds G s.own ρ w ids) w w' g → okOf G (upd (Eng.frz s.own ids) b ⟨B', true⟩) ρ w' g := by
  obtain ⟨hd, hlB, hrB, hgB⟩ := h.own b _ hl
  have hlo : ∀ b2 B2, b2 ≠ b → lo (Eng.frz s.own ids) b2 = some B2 → ∃ B3, lo s.own b2 = some B3 ∧ B2.bk = B3.bk ∧ (B2.rw = true → B3.rw = true ∧ b2 ∉ ids) := by
    intro b2 B2 _ h2
    rw [lo_frz] at h2
    cases h3 : lo s.own b2 with
    | none => rw [h3] at h2; simp at h2
    | some B3 =>
      rw [h3] at h2
      simp only [Option.map_some,Option.some.injEq] at h2
      by_cases hm : ids.contains b2 = true
      · rw [if_pos hm] at h2; subst h2; exact ⟨B3, rfl, rfl, fun h => by simp at h⟩
      rw [if_neg hm] at h2; subst h2; exact ⟨B3, rfl, rfl, fun h => ⟨h, by simpa using hm⟩⟩
  have hok : ∀ g, okM (okIds G s.own ρ w ids) w w' g → okOf G (upd (Eng.frz s.own ids) b ⟨B', true⟩) ρ w' g := by
    have step : ∀ g, g < w'.heap.size → ¬ G.forb g → (∀ o, (ρ b).addr ≠ some (g, o)) → (∀ b2 B2, b2 ≠ b → lo (Eng.frz s.own ids) b2 = some B2 → B2.rw = true → ∀ o2, (ρ b2).addr ≠ some (g, o2)) → okOf G (upd (Eng.frz s.own ids) b ⟨B', true⟩) ρ w' g := by
      intro g h1 h2 h3 h4
      refine ⟨h1, h2, fun b2 B2 hl2 hrw o2 => ?_⟩
      rw [lo_upd] at hl2
      by_cases hbi : b2 = b
      · subst hbi; exact h3 o2
      rw [if_neg hbi] at hl2; exact h4 b2 B2 hbi hl2 hrw o2
    rintro g ((h3 | ⟨b1, hbi, B2, o', hl1, ha'⟩) | ⟨h3, h4⟩)
    · refine step g (Nat.lt_of_lt_of_le h3.1 hm.size) h3.2.1 (h3.2.2 b _ hl rfl) fun b2 B2 hne h2 hrw o2 => ?_
      obtain ⟨B3, h5, _, h6⟩ := hlo b2 B2 hne h2
      exact h3.2.2 b2 B3 h5 (h6 hrw).1 o2
    · obtain ⟨_, _, _, h4⟩ := h.own b1 B2 hl1
      obtain ⟨h5, h6, _⟩ := h4 g o' ha'
      have hne1 : b ≠ b1 := fun e => hids (e ▸ hbi)
      refine step g (Nat.lt_of_lt_of_le h5 hm.size) h6 (fun o he => h.inj b _ b1 B2 hl hl1 hne1 rfl g o o' he ha') fun b2 B3 hne h2 hrw o2 he => ?_
      obtain ⟨B4, h7, _, h8⟩ := hlo b2 B3 hne h2
      obtain ⟨h9, h10⟩ := h8 hrw
      exact h.inj b2 B4 b1 B2 h7 hl1 (fun e => h10 (e ▸ hbi)) h9 g o2 o' he ha'
    refine step g h4 (fun hf => absurd (h.wf _ hf) (by have := h.size; omega)) (fun o he => absurd (hgB g o he).1 (by omega)) fun b2 B2 hne h2 hrw o2 he => ?_
    obtain ⟨B3, h5, _, _⟩ := hlo b2 B2 hne h2
    exact absurd ((h.own b2 B3 h5).2.2.2 g o2 he).1 (by omega)
  have hext : Ext (okOf G s.own ρ w) (okOf G (upd (Eng.frz s.own ids) b ⟨B', true⟩) ρ w') w w' :=
    ⟨fun g hg => ⟨hok g (.inl (.inl hg)), hm.block g hg.1 (hg.2.2 b _ hl rfl)⟩, hm.room⟩
  have hs : Same dom dom ρ ρ := ⟨fun _ h => h, fun _ _ => rfl⟩
  refine ⟨h.turn hext hs ?_ ?_ hm.os hm.tape hm.output hm.size ?_, hok⟩
  · intro b2 B2 hl2
    rw [lo_upd] at hl2
    by_cases hbi : b2 = b
    · subst hbi
      rw [if_pos rfl] at hl2
      obtain rfl := Option.some.inj hl2
      exact ⟨hd, by rw [hlB]; exact hlen.symm, hrep.plain_ext hp hok, fun g o ha => ⟨Nat.lt_of_lt_of_le (hgB g o ha).1 hm.size, (hgB g o ha).2⟩⟩
    rw [if_neg hbi] at hl2
    obtain ⟨B3, h5, h6, _⟩ := hlo b2 B2 hbi hl2
    obtain ⟨h7, h8, h9, h10⟩ := h.own b2 B3 h5
    rw [h6]
    exact ⟨h7, h8, RepBk.ext hext hs _ _ (fun g o ha => hm.block g (h10 g o ha).1 fun o2 he => h.inj b _ b2 B3 hl h5 (fun e => hbi e.symm) rfl g o2 o he ha) h9, fun g o ha => ⟨Nat.lt_of_lt_of_le (h10 g o ha).1 hm.size, (h10 g o ha).2⟩⟩
  · have hget : ∀ b2 B2, lo (upd (Eng.frz s.own ids) b ⟨B', true⟩) b2 = some B2 → ∃ B3, lo s.own b2 = some B3 ∧ (B2.rw = true → B3.rw = true) := by
      intro b2 B2 hl2
      rw [lo_upd] at hl2
      by_cases hbi : b2 = b
      · subst hbi
        exact ⟨_, hl, fun _ => rfl⟩
      rw [if_neg hbi] at hl2
      obtain ⟨B3, h5, _, h7⟩ := hlo b2 B2 hbi hl2
      exact ⟨B3, h5, fun h => (h7 h).1⟩
    intro b1 B1 b2 B2 hl1 hl2 hne hrw
    obtain ⟨B3, h5, h6⟩ := hget b1 B1 hl1
    obtain ⟨B4, h7, _⟩ := hget b2 B2 hl2
    exact h.inj b1 B3 b2 B4 h5 h7 hne (h6 hrw)
  intro k hk hmine
  refine hm.block k (Nat.lt_of_lt_of_le hk h.size) fun o he => ?_
  rcases (hgB k o he).2.2 with h1 | h1
  · omega
  exact hmine h1
end
def mIds (b : Nat) (raw : List V) : List Nat := (raw.map idsV).flatten.filter (fun b' => b' != b)
def mSt (s : St) (dst : Option Tmp) (b : Nat) (raw : List V) (r : V) (B' : Bk) : St := { s.put dst (backV b r) with own := upd (frz s.own (mIds b raw)) b ⟨B', true⟩ }
def MCallK (P : Program) (f : FuncId) (raw : List V) (s : St) (dst : Option Tmp) (K : St → Prop) : Prop :=
  ∃ b B R, lo s.own b = some ⟨B, true⟩ ∧ B.plain ∧ Mc P f (raw.map (muV b s.own s.nx)) B R ∧ ∀ r B', R r B' → B'.len = B.len → Later K (mSt s dst b raw r B')
def mCall (P : Program) (op : Op) (dst : Option Tmp) (s : St) (K : St → Prop) : Prop :=
  match op with
  | .call c => match c.callee with
    | .value g => match s.ev g with
      | .one (.fn f n _) => n = 0 ∧ MCallK P f (c.args.toList.map s.ev) s dst K
      | _ => False
    | _ => False
  | _ => False
theorem sMCall {P : Program} {o : Oper} {s : St} {K : St → Prop} (hd : dstLt o s.n) (h : mCall P o.op o.dst s K) : WEff P o s K := by
  unfold mCall at h
  split at h
  · rename_i c ho
    split at h
    · rename_i g hc
      split at h
      · rename_i f n caps hg
        obtain ⟨rfl, b, B, R, hl, hpl, ⟨hcall, hmut⟩, hK⟩ := h
        intro G a w hsim Q next hk
        obtain ⟨ρ, hs⟩ := hsim
        have hgv := hs.ev g
        rw [hg] at hgv
        obtain ⟨cs, hgv, hcs, _⟩ := hgv
        obtain rfl : cs = #[] := Array.eq_empty_of_size_eq_zero hcs
        have hrun : (execOp a.eval o).run P w = .ok (.enter f (c.args.map a.eval)) w := by
          unfold execOp
          rw [ho]
          simp only [resolve,hc,Sem.run_bind,hgv,Deferred.ofValue,Sem.run_pure,Result.andThen_ok,invoke]
          have := callFunc_run (w := w) hcall (c.args.map a.eval)
          simpa using this
        unfold Oper.wp
        rw [hrun, Oper.upon_enter]
        let raw := c.args.toList.map s.ev
        let ids := mIds b raw
        have hids : b ∉ ids := by simp [ids, mIds]
        obtain ⟨hdb, hlB, hrB, hgB⟩ := hs.own b _ hl
        have hlt : ∀ g, okIds G s.own ρ w ids g → g < w.heap.size := by
          rintro g (h1 | ⟨b, _, B, o', hl, ha'⟩)
          · exact h1.1
          exact ((hs.own b B hl).2.2.2 g o' ha').1
        have hnot : ∀ g o1, (ρ b).addr = some (g, o1) → g < w.heap.size ∧ ¬ okIds G s.own ρ w ids g := by
          intro g o1 ha
          refine ⟨(hgB g o1 ha).1, ?_⟩
          rintro (h1 | ⟨b1, hb1, B1, o', hl1, ha'⟩)
          · exact h1.2.2 b _ hl rfl o1 ha
          exact hs.inj b _ b1 B1 hl hl1 (fun e => hids (e ▸ hb1)) rfl g o1 o' ha ha'
        have hargs : RepVL (fun _ => ρ b) (fun i => i = 0) (okIds G s.own ρ w ids) w (raw.map (muV b s.own s.nx)) (c.args.map a.eval).toList := by
          rw [Array.toList_map]
          have := RepVL.map_eval (ρ := fun _ => ρ b) (dom := fun i => i = 0) (ok := okIds G s.own ρ w ids) (w := w) (fun x => muV b s.own s.nx (s.ev x)) a.eval c.args.toList fun x hx => by
            refine muV_sound hs b ids _ _ (fun b' hb' hne => ?_) (hs.ev x)
            refine List.mem_filter.2 ⟨List.mem_flatten.2 ⟨_, List.mem_map.2 ⟨s.ev x, List.mem_map.2 ⟨x, hx, rfl⟩, rfl⟩, hb'⟩, by simpa using hne⟩
          simpa [raw, List.map_map, Function.comp_def] using this
        have hrB' : RepBk loc0 dom0 (okIds G s.own ρ w ids) w (ρ b) B := hrB.plain_ext hpl fun g hg => .inl hg
        refine Calls.mono (hmut _ w _ (ρ b) hlt hlB hnot hrB' hargs) fun e w' he => ?_
        obtain ⟨v, r, B', rfl, hR, hp', hlen', hm, hrep, hval⟩ := he
        obtain ⟨hsim', hok⟩ := hs.turned hl hids hm hp' hlen' hrep
        refine hk _ _ _ (hK r B' hR hlen') ⟨ρ, ?_⟩
        have hv2 : RepV ρ (fun i => i < s.nx) (okOf G (upd (frz s.own ids) b ⟨B', true⟩) ρ w') w' (backV b r) v := backV_sound (dom := fun i => i < s.nx) hdb hok hval
        have h4 := hsim'.put (dst := o.dst) (x := backV b r) (v := v) hd hv2
        have e2 : mSt s o.dst b raw r B' = St.put { s with own := upd (frz s.own ids) b ⟨B', true⟩ } o.dst (backV b r) := by
          unfold mSt St.put
          cases o.dst <;> rfl
        show SimR G _ _ (mSt s o.dst b raw r B') _ w'
        rw [e2]
        have hnx : (St.put { s with own := upd (frz s.own ids) b ⟨B', true⟩ } o.dst (backV b r)).nx = s.nx := by cases o.dst <;> rfl
        rw [hnx]
        exact h4
      exact h.elim
    exact h.elim
  exact h.elim
end Go.Eng
/-
  THE ENGINE, PART Q: a statement whose order is open: whatever order the machine takes, it comes to what the text's order comes to.
-/
namespace Go.Eng
open Go
structure Alk (s s' : St) : Prop where
  env : ∀ t, lk s.env t = lk s'.env t
  own : ∀ b, lo s.own b = lo s'.own b
  n : s.n = s'.n
theorem Alk.refl (s : St) : Alk s s := ⟨fun _ => rfl, fun _ => rfl, rfl⟩
theorem Alk.trans {a b c : St} (h : Alk a b) (k : Alk b c) : Alk a c := ⟨fun t => (h.env t).trans (k.env t), fun t => (h.own t).trans (k.own t), h.n.trans k.n⟩
theorem Alk.symm {a b : St} (h : Alk a b) : Alk b a := ⟨fun t => (h.env t).symm, fun t => (h.own t).symm, h.n.symm⟩
theorem SimR.alk {G : Ctx} {dom : Nat → Prop} {ρ : Nat → Loc} {s s' : St} {a : Act} {w : World} (h : SimR G dom ρ s a w) (hs : Alk s s') : SimR G dom ρ s' a w := by
  have hok : okOf G s'.own ρ w = okOf G s.own ρ w := by
    funext g
    unfold okOf
    simp only [hs.own]
  exact { hd := h.hd, hn := h.hn.trans hs.n, env := fun t => by rw [hok, ← hs.env t]; exact h.env t, own := fun b B hl => by rw [hok]; exact h.own b B (by rw [hs.own]; exact hl),
          inj := fun b B b' B' hl hl' => h.inj b B b' B' (by rw [hs.own]; exact hl) (by rw [hs.own]; exact hl'), os := h.os, tape := h.tape, output := h.output, size := h.size, keep := h.keep, wf := h.wf, home := h.home, room := h.room }
theorem put_env (s : St) (dst : Option Tmp) (v : V) (t : Nat) : lk (s.put dst v).env t = if dst = some t then v else lk s.env t := by
  cases dst with
  | none => simp [St.put]
  | some d =>
    simp only [St.put,lk_cons,Option.some.injEq]
    by_cases h : t = d
    · subst h; simp
    rw [if_neg h, if_neg (fun e => h e.symm)]
theorem add_env (s : St) (dst : Option Tmp) (id : Nat) (e : Eff) (t : Nat) : lk (s.add dst id e).env t = if dst = some t then e.val else lk s.env t := by
  have : (s.add dst id e).env = (s.put dst e.val).env := by unfold St.add; split <;> rfl
  rw [this, put_env]
def frzIf (fz : List Nat) (b : Nat) (v : Blk) : Blk := if fz.contains b then ⟨v.bk, false⟩ else v
theorem add_own (s : St) (dst : Option Tmp) (id : Nat) (e : Eff) (b : Nat) : lo (s.add dst id e).own b = (match e.blk with
    | some B => if b = id then some ⟨B, true⟩ else (lo s.own b).map (frzIf e.fz b)
    | none => (lo s.own b).map (frzIf e.fz b)) := by
  unfold St.add
  cases e.blk with
  | none => simp only [frzs_eq]; rw [lo_frz]; rfl
  | some B => simp only [frzs_eq,lo_upd]; split <;> first | rfl | (rw [lo_frz]; rfl)
theorem add_n (s : St) (dst : Option Tmp) (id : Nat) (e : Eff) : (s.add dst id e).n = s.n := by
  unfold St.add; split <;> (cases dst <;> rfl)
theorem Alk.add {s s' : St} (h : Alk s s') (dst : Option Tmp) (id : Nat) (e : Eff) : Alk (s.add dst id e) (s'.add dst id e) :=
  ⟨fun t => by rw [add_env, add_env, h.env], fun b => by rw [add_own, add_own, h.own], by rw [add_n, add_n, h.n]⟩
theorem add_comm' (s : St) {d1 d2 : Option Tmp} {i1 i2 : Nat} {e1 e2 : Eff} (hd : ∀ t, d1 = some t → d2 ≠ some t) (hi : i1 ≠ i2) (h1 : ∀ b ∈ e1.fz, b ≠ i2) (h2 : ∀ b ∈ e2.fz, b ≠ i1) :
    Alk ((s.add d1 i1 e1).add d2 i2 e2) ((s.add d2 i2 e2).add d1 i1 e1) := by
  refine ⟨fun t => ?_, fun b => ?_, by simp only [add_n]⟩
  · simp only [add_env]
    by_cases h : d1 = some t
    · rw [if_pos h, if_neg (hd t h), if_pos h]
    rw [if_neg h, if_neg h]
  simp only [add_own]
  have hc : ∀ (v : Blk), frzIf e2.fz b (frzIf e1.fz b v) = frzIf e1.fz b (frzIf e2.fz b v) := fun v => by
    unfold frzIf; split <;> split <;> rfl
  have hcc : (lo s.own b).map (frzIf e2.fz b ∘ frzIf e1.fz b) = (lo s.own b).map (frzIf e1.fz b ∘ frzIf e2.fz b) := by
    congr 1; funext v; exact hc v
  have n1 : b = i2 → ∀ B : Bk, (some (⟨B, true⟩ : Blk)).map (frzIf e1.fz b) = some ⟨B, true⟩ := fun hb B => by
    subst hb
    simp only [Option.map_some,frzIf]
    rw [if_neg (fun hc => h1 b (by simpa using hc) rfl)]
  have n2 : b = i1 → ∀ B : Bk, (some (⟨B, true⟩ : Blk)).map (frzIf e2.fz b) = some ⟨B, true⟩ := fun hb B => by
    subst hb
    simp only [Option.map_some,frzIf]
    rw [if_neg (fun hc => h2 b (by simpa using hc) rfl)]
  cases e1.blk with
  | none =>
    cases e2.blk with
    | none => simp only [Option.map_map]; exact hcc
    | some B2 =>
      simp only
      by_cases hb : b = i2
      · rw [if_pos hb, if_pos hb, n1 hb]
      rw [if_neg hb, if_neg hb]; simp only [Option.map_map]; exact hcc
  | some B1 =>
    cases e2.blk with
    | none =>
      simp only
      by_cases hb : b = i1
      · rw [if_pos hb, if_pos hb, n2 hb]
      rw [if_neg hb, if_neg hb]; simp only [Option.map_map]; exact hcc
    | some B2 =>
      simp only
      by_cases hb : b = i1
      · rw [if_pos hb, if_neg (fun e => hi (hb.symm.trans e)), if_pos hb, n2 hb]
      by_cases hb2 : b = i2
      · rw [if_pos hb2, if_neg hb, if_pos hb2, n1 hb2]
      rw [if_neg hb2, if_neg hb, if_neg hb, if_neg hb2]; simp only [Option.map_map]; exact hcc
def Eff.skip : Eff := ⟨.tup [], none, []⟩
def gv : V → Option (Option Bool)
  | .one (.bool b) => some (some b)
  | .tup [] => some none
  | _ => none
def stepOk (P : Program) (ops : Array Oper) (nx0 i : Nat) (o : Oper) (s : St) (e : Eff) : Prop :=
  dstLt o s.n ∧ match o.guard with
  | none => REff P o s nx0 (nx0 + i) e
  | some (g, want) => ∃ t b, (ops[g]?).bind (·.dst) = some t ∧ gv (lk s.env t) = some b ∧ (if b = some want then REff P o s nx0 (nx0 + i) e else e = Eff.skip)
def dstOf (ops : Array Oper) (k : Nat) : Option Tmp := (ops[k]?).bind (·.dst)
def accum (σ : St) (nx0 : Nat) (ops : Array Oper) (e : Nat → Eff) (L : Nat → Bool) : Nat → St
  | 0 => σ
  | k + 1 => if L k then (accum σ nx0 ops e L k).add (dstOf ops k) (nx0 + k) (e k) else accum σ nx0 ops e L k
section
variable {σ : St} {nx0 : Nat} {ops : Array Oper} {e : Nat → Eff}
theorem accum_n (L : Nat → Bool) (k : Nat) : (accum σ nx0 ops e L k).n = σ.n := by
  induction k with
  | zero => rfl
  | succ k ih => simp only [accum]; split <;> simp only [add_n,ih]
theorem accum_congr {L L' : Nat → Bool} (k : Nat) (h : ∀ j, j < k → L j = L' j) : accum σ nx0 ops e L k = accum σ nx0 ops e L' k := by
  induction k with
  | zero => rfl
  | succ k ih => simp only [accum,h k (Nat.lt_succ_self k),ih (fun j hj => h j (Nat.lt_succ_of_lt hj))]
theorem accum_one {N : Nat} {L : Nat → Bool} {i : Nat} (hi : L i = false) (hdst : ∀ j k t, j < N → k < N → j ≠ k → dstOf ops j = some t → dstOf ops k = some t → False) (hfz : ∀ j, ∀ b ∈ (e j).fz, b < nx0) :
    ∀ k, k ≤ N → i < k → Alk (accum σ nx0 ops e (fun j => L j || j == i) k) ((accum σ nx0 ops e L k).add (dstOf ops i) (nx0 + i) (e i)) := by
  intro k
  induction k with
  | zero => intro _ h; omega
  | succ k ih =>
    intro hkN hik
    by_cases hk : i = k
    · subst hk
      simp only [accum,beq_self_eq_true,Bool.or_true,if_true,hi,Bool.false_eq_true,if_false]
      rw [accum_congr (L := fun j => L j || j == i) (L' := L) i (fun j hj => by simp; omega)]
      exact Alk.refl _
    have ih' := ih (by omega) (by omega)
    have hne : (k == i) = false := by simp; omega
    simp only [accum,hne,Bool.or_false]
    by_cases hL : L k = true
    · simp only [hL,if_true]
      exact (ih'.add _ _ _).trans (add_comm' _ (fun t h1 h2 => hdst i k t (by omega) (by omega) hk h1 h2) (by omega) (fun b hb h => by have := hfz i b hb; omega) (fun b hb h => by have := hfz k b hb; omega))
    simp only [hL,Bool.false_eq_true,if_false]
    exact ih'
theorem accum_env_out (L : Nat → Bool) (t : Nat) : ∀ k, (∀ j, j < k → dstOf ops j ≠ some t) → lk (accum σ nx0 ops e L k).env t = lk σ.env t := by
  intro k
  induction k with
  | zero => intro _; rfl
  | succ k ih =>
    intro h
    simp only [accum]
    split
    · rw [add_env, if_neg (h k (Nat.lt_succ_self k))]; exact ih (fun j hj => h j (Nat.lt_succ_of_lt hj))
    exact ih (fun j hj => h j (Nat.lt_succ_of_lt hj))
theorem accum_env_in {N : Nat} (L : Nat → Bool) {t j : Nat} (hj : dstOf ops j = some t) (hL : L j = true) (hdst : ∀ j k t, j < N → k < N → j ≠ k → dstOf ops j = some t → dstOf ops k = some t → False) :
    ∀ k, k ≤ N → j < k → lk (accum σ nx0 ops e L k).env t = (e j).val := by
  intro k
  induction k with
  | zero => intro _ h; omega
  | succ k ih =>
    intro hkN h
    simp only [accum]
    by_cases hjk : j = k
    · subst hjk
      rw [if_pos hL, add_env]
      exact if_pos hj
    have ih' := ih (by omega) (by omega)
    split
    · rw [add_env, if_neg (fun h2 => hdst j k t (by omega) (by omega) hjk hj h2)]; exact ih'
    exact ih'
theorem accum_own (L : Nat → Bool) : ∀ k b, b < nx0 → (lo (accum σ nx0 ops e L k).own b).map (·.bk) = (lo σ.own b).map (·.bk) := by
  intro k
  induction k with
  | zero => intro b _; rfl
  | succ k ih =>
    intro b hb
    simp only [accum]
    split
    · rw [add_own]
      have hm : ((lo (accum σ nx0 ops e L k).own b).map (frzIf (e k).fz b)).map (·.bk) = (lo σ.own b).map (·.bk) := by
        rw [← ih b hb, Option.map_map]
        congr 1
        funext v
        simp only [Function.comp,frzIf]
        split <;> rfl
      cases (e k).blk with
      | none => exact hm
      | some B => simp only; rw [if_neg (by omega)]; exact hm
    exact ih b hb
end
def OpW (P : Program) (ops : Array Oper) (o : Oper) (s : St) (K : St → Prop) : Prop :=
  match o.guard with
  | none => WEff P o s K
  | some (g, want) => ∃ t b, dstOf ops g = some t ∧ gv (lk s.env t) = some b ∧ (b = some want → WEff P o s K) ∧ (b ≠ some want → K (s.put o.dst (.tup [])))
def OpsW (P : Program) (ops : Array Oper) : List Oper → St → (St → Prop) → Prop
  | [], s, K => K s
  | o :: os, s, K => dstLt o s.n ∧ OpW P ops o s (fun s' => OpsW P ops os s' K)
theorem getD_bool {a : Array Value} {t : Nat} {b : Bool} (h : a.getD t undef = .bool b) : a[t]? = some (.bool b) := by
  rw [Array.getD_eq_getD_getElem?] at h
  cases ha : a[t]? with
  | none => rw [ha] at h; cases h
  | some v => rw [ha] at h; simpa using h
theorem wanted_of {G : Ctx} {dom : Nat → Prop} {ρ : Nat → Loc} {s : St} {a : Act} {w : World} (hs : SimR G dom ρ s a w) {ops : Array Oper} {o : Oper} {g : Nat} {want : Bool} {b : Option Bool} {t : Nat} (hg : o.guard = some (g, want)) (ht : dstOf ops g = some t)
    (hb : gv (lk s.env t) = some b) : Region.wanted o (yielded ops a.tmps) = (b == some want) := by
  have hev := hs.env t
  have hd : (ops[g]?).bind (·.dst) = some t := ht
  have hy : yielded ops a.tmps g = b := by
    unfold gv at hb
    split at hb
    · rename_i b' he
      obtain rfl := Option.some.inj hb
      rw [he] at hev
      have hev : a.tmps.getD t undef = .bool b' := hev
      unfold yielded
      simp only [hd,Option.bind_some,getD_bool hev]
    · rename_i he
      obtain rfl := Option.some.inj hb
      rw [he] at hev
      obtain ⟨vs, hv, _⟩ := hev
      unfold yielded
      simp only [hd,Option.bind_some]
      cases ha : a.tmps[t]? with
      | none => rfl
      | some v =>
        rw [Array.getD_eq_getD_getElem?, ha] at hv
        simp only [Option.getD_some] at hv
        rw [hv]
    cases hb
  unfold Region.wanted
  simp only [hg,hy]
theorem wanted_none {o : Oper} {y : Nat → Option Bool} (hg : o.guard = none) : Region.wanted o y = true := by unfold Region.wanted; rw [hg]
theorem OpW.step {P : Program} {ops : Array Oper} {i : Nat} {o : Oper} (ho : ops[i]? = some o) {s : St} {K : St → Prop} (h : OpW P ops o s K) (hd : dstLt o s.n) {G : Ctx} {a : Act} {w : World} (hs : Sim G s a w) {Q : Exit → Act → World → Prop} {next : Act → World → Prop}
    (hk : ∀ s' a' w', K s' → Sim G s' a' w' → next a' w') : wpOp P ops Q i next a w := by
  unfold wpOp
  simp only [ho]
  unfold OpW at h
  split at h
  · rename_i hg
    rw [wanted_none hg, if_pos rfl]
    exact .inl (h G a w hs Q next hk)
  rename_i g want hg
  obtain ⟨t, b, ht, hb, h1, h2⟩ := h
  obtain ⟨ρ, hr⟩ := hs
  rw [wanted_of hr hg ht hb]
  by_cases hbw : b = some want
  · rw [if_pos (by simp [hbw])]
    exact .inl (h1 hbw G a w ⟨ρ, hr⟩ Q next hk)
  rw [if_neg (by simpa using hbw)]
  have := hr.put (dst := o.dst) (x := .tup []) (v := undef) hd ⟨#[], rfl, trivial⟩
  refine hk _ _ _ (h2 hbw) ⟨ρ, ?_⟩
  cases hdst : o.dst with
  | none => rw [hdst] at this; exact this
  | some d => rw [hdst] at this; exact this
theorem REff.toW {P : Program} {o : Oper} {s : St} {e : Eff} {K : St → Prop} (h : REff P o s s.nx s.nx e) (hK : K { s.add o.dst s.nx e with nx := s.nx + 1 }) : WEff P o s K := by
  intro G a w hsim Q next hk
  obtain ⟨ρ, hs⟩ := hsim
  refine h.1 G (fun b => b < s.nx) ρ s a w hs (Nat.lt_irrefl _) (Agr.refl _ _ _) Q next fun v w' hs' => ?_
  refine hk _ _ _ hK ?_
  obtain ⟨ρ', h1⟩ := hs'
  have h2 := h1.mono_dom (dom' := fun b => b < s.nx + 1) (fun b hb => by rcases hb with hb | hb <;> omega)
  exact ⟨ρ', h2.alk ⟨fun _ => rfl, fun _ => rfl, rfl⟩⟩
def preds (ops : Array Oper) (i : Nat) : List Nat :=
  match ops[i]? with
  | some o => (o.after.toList.filter (Region.binds .any)).map (·.on)
  | none => []
def closes (ops : Array Oper) : Nat → Nat → Nat → Bool
  | 0, _, _ => false
  | n + 1, i, j => (preds ops i).contains j || (preds ops i).any (fun p => closes ops n p j)
def tmpsOf (o : Oper) : List Tmp := o.op.operands.toList.filterMap fun | .tmp t => some t | _ => none
def drawOkR (ops : Array Oper) (nR i : Nat) (o : Oper) : Bool :=
  ((tmpsOf o).all fun t => (List.range nR).all fun j => dstOf ops j != some t || (decide (j < i) && (preds ops i).contains j)) &&
  (match o.guard with
   | none => true
   | some (g, _) => decide (g < i) && (preds ops i).contains g) &&
  ((List.range nR).all fun j => j == i || (dstOf ops j).isNone || dstOf ops j != dstOf ops i)
def drawOk (ops : Array Oper) (nR : Nat) : Bool :=
  decide (nR ≤ ops.size) &&
  (List.range ops.size).all fun i => match ops[i]? with
    | none => false
    | some o => ((preds ops i).all fun p => decide (p < i)) &&
      (if i < nR then drawOkR ops nR i o else (List.range i).all fun j => closes ops ops.size i j)
structure DrawOk (ops : Array Oper) (nR : Nat) : Prop where
  le : nR ≤ ops.size
  pred : ∀ i o, ops[i]? = some o → ∀ p ∈ preds ops i, p < i
  data : ∀ i o, ops[i]? = some o → i < nR → ∀ t, t ∈ tmpsOf o → ∀ j, j < nR → dstOf ops j = some t → j < i ∧ j ∈ preds ops i
  guard : ∀ i o g want, ops[i]? = some o → i < nR → o.guard = some (g, want) → g < i ∧ g ∈ preds ops i
  dst : ∀ j k t, j < nR → k < nR → j ≠ k → dstOf ops j = some t → dstOf ops k = some t → False
  clos : ∀ i, i < ops.size → nR ≤ i → ∀ j, j < i → closes ops ops.size i j = true
theorem drawOk_spec {ops : Array Oper} {nR : Nat} (h : drawOk ops nR = true) : DrawOk ops nR := by
  unfold drawOk at h
  simp only [Bool.and_eq_true,decide_eq_true_eq,List.all_eq_true,List.mem_range] at h
  obtain ⟨hle, h⟩ := h
  have hi : ∀ i o, ops[i]? = some o → ((preds ops i).all fun p => decide (p < i)) = true ∧ (if i < nR then drawOkR ops nR i o else (List.range i).all fun j => closes ops ops.size i j) = true := by
    intro i o ho
    have := h i (Array.getElem?_eq_some_iff.1 ho).1
    rw [ho] at this
    simpa using this
  have hR : ∀ i o, ops[i]? = some o → i < nR → drawOkR ops nR i o = true := fun i o ho hlt => by
    have := (hi i o ho).2
    rw [if_pos hlt] at this; exact this
  refine ⟨hle, fun i o ho p hp => ?_, fun i o ho hlt t ht j hj hd => ?_, fun i o g want ho hlt hg => ?_, fun j k t hj hk hjk h1 h2 => ?_, fun i hi' hge j hj => ?_⟩
  · have := List.all_eq_true.1 (hi i o ho).1 p hp
    simpa using this
  · have := hR i o ho hlt
    unfold drawOkR at this
    simp only [Bool.and_eq_true,List.all_eq_true,List.mem_range] at this
    have := this.1.1 t ht j hj
    rw [hd] at this
    simp at this
    exact this
  · have := hR i o ho hlt
    unfold drawOkR at this
    simp only [Bool.and_eq_true] at this
    have := this.1.2
    rw [hg] at this
    simpa using this
  · have hkk : k < ops.size := by omega
    have := hR k ops[k] (Array.getElem?_eq_getElem hkk) hk
    unfold drawOkR at this
    simp only [Bool.and_eq_true,List.all_eq_true,List.mem_range] at this
    have := this.2 j hj
    rw [h1, h2] at this
    simp at this
    exact hjk this
  have := (hi i ops[i] (Array.getElem?_eq_getElem hi')).2
  rw [if_neg (by omega)] at this
  exact List.all_eq_true.1 this j (by simpa using hj)
end Go.Eng
/-
  THE ENGINE, PART R: a statement whose order is open, put together.
-/
namespace Go.Eng
open Go
section
variable {P : Program} {ops : Array Oper} {nR : Nat}
theorem listed_set {listed : Array Bool} {i j : Nat} (hi : i < listed.size) : (listed.setIfInBounds i true).getD j false = (listed.getD j false || j == i) := by
  by_cases h : i = j
  · subst h
    simp [Array.getD, hi]
  rw [getD_set_ne false h]
  simp; intro e; exact absurd e.symm h
theorem closes_listed {listed : Array Bool} (hdown : ∀ i, listed.getD i false = true → ∀ p ∈ preds ops i, listed.getD p false = true) : ∀ n i j, (∀ p ∈ preds ops i, listed.getD p false = true) → closes ops n i j = true → listed.getD j false = true := by
  intro n
  induction n with
  | zero => intro i j _ h; simp [closes] at h
  | succ n ih =>
    intro i j hp h
    simp only [closes,Bool.or_eq_true,List.any_eq_true] at h
    rcases h with h | ⟨p, hpm, h⟩
    · exact hp j (by simpa using h)
    exact ih p j (hdown p (hp p hpm)) h
theorem ready_preds {listed : Array Bool} {i : Nat} (h : i ∈ Region.ready .any ops listed) : (∀ p ∈ preds ops i, listed.getD p false = true) ∧ i < ops.size ∧ listed.getD i true = false := by
  obtain ⟨h0, o, ho, hall⟩ := mem_ready.1 h
  refine ⟨fun p hp => ?_, (Array.getElem?_eq_some_iff.1 ho).1, h0⟩
  unfold preds at hp
  rw [ho] at hp
  obtain ⟨e, he, rfl⟩ := List.mem_map.1 hp
  obtain ⟨he1, he2⟩ := List.mem_filter.1 he
  exact hall e (by simpa using he1) he2
theorem ready_of_preds {listed : Array Bool} {i : Nat} {o : Oper} (ho : ops[i]? = some o) (hu : listed.getD i true = false) (h : ∀ p ∈ preds ops i, listed.getD p false = true) : i ∈ Region.ready .any ops listed := by
  refine mem_ready.2 ⟨hu, o, ho, fun e he hb => h e.on ?_⟩
  unfold preds
  rw [ho]
  exact List.mem_map.2 ⟨e, List.mem_filter.2 ⟨by simpa using he, hb⟩, rfl⟩
def toCome (ops : Array Oper) (listed : Array Bool) : Nat := (List.range ops.size).countP (fun i => !listed.getD i false)
theorem toCome_set {listed : Array Bool} {i : Nat} (hsz : listed.size = ops.size) (hi : i < ops.size) (hu : listed.getD i true = false) : toCome ops (listed.setIfInBounds i true) + 1 = toCome ops listed := by
  unfold toCome
  have hf : listed.getD i false = false := by
    have hlt : i < listed.size := by omega
    simp [Array.getD, hlt] at hu ⊢
    exact hu
  have key : ∀ l : List Nat, l.Nodup → (l.countP (fun j => !(listed.setIfInBounds i true).getD j false)) + (if i ∈ l then 1 else 0) = l.countP (fun j => !listed.getD j false) := by
    intro l
    induction l with
    | nil => intro _; simp
    | cons x l ih =>
      intro hnd
      obtain ⟨hx, hnd⟩ := List.nodup_cons.1 hnd
      have ih' := ih hnd
      simp only [List.countP_cons,listed_set (by omega : i < listed.size)]
      by_cases hxi : x = i
      · subst hxi
        rw [if_neg hx] at ih'
        simp only [hf,beq_self_eq_true,Bool.or_true,Bool.not_true,Bool.false_eq_true,if_false,Bool.not_false,if_true,List.mem_cons,true_or]
        simp only [listed_set (by omega : x < listed.size)] at ih'
        omega
      have hne : (x == i) = false := by simpa using hxi
      have hmem : (i ∈ x :: l) ↔ i ∈ l := by simp [List.mem_cons]; intro e; exact absurd e.symm hxi
      simp only [hne,Bool.or_false]
      simp only [hmem]
      simp only [listed_set (by omega : i < listed.size)] at ih'
      omega
  have := key (List.range ops.size) List.nodup_range
  rw [if_pos (by simpa using hi)] at this
  exact this
theorem toCome_zero {listed : Array Bool} (h : toCome ops listed = 0) : ∀ i, i < ops.size → listed.getD i false = true := by
  intro i hi
  unfold toCome at h
  rw [List.countP_eq_zero] at h
  have := h i (by simpa using hi)
  simpa using this
variable {σ : St} {es : Nat → Eff} {K : St → Prop}
structure Stand (P : Program) (G : Ctx) (ops : Array Oper) (nR : Nat) (σ : St) (es : Nat → Eff) (K : St → Prop) (listed : Array Bool) (a : Act) (w : World) : Prop where
  size : listed.size = ops.size
  down : ∀ i, listed.getD i false = true → ∀ p ∈ preds ops i, listed.getD p false = true
  where_ : ((∀ i, listed.getD i false = true → i < nR) ∧ SimD G (fun b => b < σ.nx ∨ ∃ j, j < nR ∧ listed.getD j false = true ∧ b = σ.nx + j) (accum σ σ.nx ops es (fun j => listed.getD j false) nR) a w) ∨
    (∃ k, nR ≤ k ∧ k ≤ ops.size ∧ (∀ i, i < ops.size → (listed.getD i false = true ↔ i < k)) ∧ ∃ s, OpsW P ops (ops.toList.drop k) s K ∧ Sim G s a w)
theorem Stand.later (hck : DrawOk ops nR) (hW : OpsW P ops (ops.toList.drop nR) { accum σ σ.nx ops es (fun _ => true) nR with nx := σ.nx + ops.size } K)
    {G : Ctx} {listed : Array Bool} {a : Act} {w : World} (h : Stand P G ops nR σ es K listed a w) (hall : ∀ j, j < nR → listed.getD j false = true) :
    ∃ k, nR ≤ k ∧ k ≤ ops.size ∧ (∀ i, i < ops.size → (listed.getD i false = true ↔ i < k)) ∧ ∃ s, OpsW P ops (ops.toList.drop k) s K ∧ Sim G s a w := by
  rcases h.where_ with ⟨hlt, ρ, hsim⟩ | hk
  · refine ⟨nR, Nat.le_refl _, hck.le, fun i _ => ⟨hlt i, hall i⟩, _, hW, ρ, ?_⟩
    rw [accum_congr (L := fun j => listed.getD j false) (L' := fun _ => true) nR (fun j hj => hall j hj)] at hsim
    have h2 := hsim.mono_dom (dom' := fun b => b < σ.nx + ops.size) (fun b hb => by
      have := hck.le
      rcases hb with hb | ⟨j, hj, _, rfl⟩ <;> omega)
    exact h2.alk ⟨fun _ => rfl, fun _ => rfl, rfl⟩
  exact hk
theorem agr_of (hck : DrawOk ops nR) {i : Nat} {o : Oper} (ho : ops[i]? = some o) (hi : i < nR) {listed : Array Bool} (hp : ∀ p ∈ preds ops i, listed.getD p false = true) :
    Agr (accum σ σ.nx ops es (fun _ => true) i) (accum σ σ.nx ops es (fun j => listed.getD j false) nR) σ.nx o := by
  refine ⟨by rw [accum_n, accum_n], fun x hx => ?_, fun b hb => by rw [accum_own _ nR b hb, accum_own _ i b hb]⟩
  cases x with
  | tmp t =>
    have htm : t ∈ tmpsOf o := List.mem_filterMap.2 ⟨.tmp t, by simpa using hx, rfl⟩
    show lk _ t = lk _ t
    by_cases hex : ∃ j, j < nR ∧ dstOf ops j = some t
    · obtain ⟨j, hj, hd⟩ := hex
      obtain ⟨hji, hjp⟩ := hck.data i o ho hi t htm j hj hd
      rw [accum_env_in (N := nR) (fun j => listed.getD j false) hd (hp j hjp) hck.dst nR (Nat.le_refl _) hj, accum_env_in (N := nR) (fun _ => true) hd rfl hck.dst i (by omega) hji]
    rw [accum_env_out _ t nR (fun j hj h => hex ⟨j, hj, h⟩), accum_env_out _ t i (fun j hj h => hex ⟨j, by omega, h⟩)]
  | const v => rfl
  | global g => rfl
  | func f => rfl
theorem wpAny_stand (hck : DrawOk ops nR) (hfz : ∀ j, ∀ b ∈ (es j).fz, b < σ.nx)
    (hstep : ∀ (i : Nat) o, i < nR → ops[i]? = some o → stepOk P ops σ.nx i o (accum σ σ.nx ops es (fun _ => true) i) (es i))
    (hW : OpsW P ops (ops.toList.drop nR) { accum σ σ.nx ops es (fun _ => true) nR with nx := σ.nx + ops.size } K)
    {G : Ctx} {Q : Exit → Act → World → Prop} (hQ : ∀ s a w, K s → Sim G s a w → Q .normal a w) :
    ∀ (fuel : Nat) (listed : Array Bool) (a : Act) (w : World), Stand P G ops nR σ es K listed a w → toCome ops listed ≤ fuel → wpAny P .any ops Q fuel listed a w := by
  intro fuel
  induction fuel with
  | zero =>
    intro listed a w h hf
    have hall := toCome_zero (Nat.le_zero.1 hf)
    refine ⟨?_, ?_⟩
    · cases hr : Region.ready .any ops listed with
      | nil => rfl
      | cons i l =>
        obtain ⟨_, hi, hu⟩ := ready_preds (i := i) (listed := listed) (ops := ops) (by rw [hr]; simp)
        have h1 := hall i hi
        have hlt : i < listed.size := by rw [h.size]; exact hi
        simp [Array.getD, hlt] at h1 hu
        rw [h1] at hu; cases hu
    obtain ⟨k, hk1, hk2, hk3, s, hs, hsim⟩ := h.later hck hW (fun j hj => hall j (by have := hck.le; omega))
    have hke : k = ops.size := by
      rcases Nat.lt_or_ge k ops.size with hlt | hge
      · have := (hk3 k hlt).1 (hall k hlt); omega
      omega
    subst hke
    rw [List.drop_eq_nil_of_le (by simp)] at hs
    exact hQ s a w hs hsim
  | succ fuel ih =>
    intro listed a w h hf
    refine ⟨fun hr => ?_, fun i hi => ?_⟩
    · -- none is ready: all have been
      have hall : ∀ n i, i < n → i < ops.size → listed.getD i false = true := by
        intro n
        induction n with
        | zero => intro i hi; omega
        | succ n ihn =>
          intro i hin his
          by_cases hu : listed.getD i false = true
          · exact hu
          have hlt : i < listed.size := by rw [h.size]; exact his
          have hu' : listed.getD i true = false := by
            simp [Array.getD, hlt] at hu ⊢
            exact hu
          have hm := ready_of_preds (ops := ops) (Array.getElem?_eq_getElem his) hu' (fun p hp => ihn p (by have := hck.pred i _ (Array.getElem?_eq_getElem his) p hp; omega) (by have := hck.pred i _ (Array.getElem?_eq_getElem his) p hp; omega))
          rw [hr] at hm; cases hm
      obtain ⟨k, hk1, hk2, hk3, s, hs, hsim⟩ := h.later hck hW (fun j hj => hall _ j (Nat.lt_succ_self _) (by have := hck.le; omega))
      have hke : k = ops.size := by
        rcases Nat.lt_or_ge k ops.size with hlt | hge
        · have := (hk3 k hlt).1 (hall _ k (Nat.lt_succ_self _) hlt); omega
        omega
      subst hke
      rw [List.drop_eq_nil_of_le (by simp)] at hs
      exact hQ s a w hs hsim
    obtain ⟨hp, his, hu⟩ := ready_preds hi
    have ho := Array.getElem?_eq_getElem his
    have hcount := toCome_set h.size his hu
    have hlt : i < listed.size := by rw [h.size]; exact his
    have hu' : listed.getD i false = false := by
      simp [Array.getD, hlt] at hu ⊢
      exact hu
    have hdown' : ∀ j, (listed.setIfInBounds i true).getD j false = true → ∀ p ∈ preds ops j, (listed.setIfInBounds i true).getD p false = true := by
      intro j hj p hpj
      rw [listed_set hlt] at hj ⊢
      rcases Bool.or_eq_true_iff.1 hj with hj | hj
      · rw [h.down j hj p hpj]; rfl
      have : j = i := by simpa using hj
      subst this
      rw [hp p hpj]; rfl
    by_cases hiR : i < nR
    · -- one that only looks
      rcases h.where_ with ⟨hlR, ρ, hsim⟩ | ⟨k, hk1, hk2, hk3, _⟩
      · have hst := hstep i ops[i] hiR ho
        have hagr := agr_of (σ := σ) (es := es) hck ho hiR hp
        have hstand : ∀ a' w', SimD G (fun b => (b < σ.nx ∨ ∃ j, j < nR ∧ listed.getD j false = true ∧ b = σ.nx + j) ∨ b = σ.nx + i) ((accum σ σ.nx ops es (fun j => listed.getD j false) nR).add (dstOf ops i) (σ.nx + i) (es i)) a' w' →
            Stand P G ops nR σ es K (listed.setIfInBounds i true) a' w' := by
          rintro a' w' ⟨ρ', h1⟩
          refine ⟨by simpa using h.size, hdown', .inl ⟨fun j hj => ?_, ρ', ?_⟩⟩
          · rw [listed_set hlt] at hj
            rcases Bool.or_eq_true_iff.1 hj with hj | hj
            · exact hlR j hj
            have : j = i := by simpa using hj
            omega
          have h2 := h1.mono_dom (dom' := fun b => b < σ.nx ∨ ∃ j, j < nR ∧ (listed.setIfInBounds i true).getD j false = true ∧ b = σ.nx + j) (fun b hb => by
            rcases hb with (hb | ⟨j, hj, hlj, rfl⟩) | rfl
            · exact .inl hb
            · exact .inr ⟨j, hj, by rw [listed_set hlt, hlj]; rfl, rfl⟩
            exact .inr ⟨i, hiR, by rw [listed_set hlt]; simp, rfl⟩)
          have h3 := accum_one (σ := σ) (nx0 := σ.nx) (e := es) (N := nR) (L := fun j => listed.getD j false) (i := i) hu' hck.dst hfz nR (Nat.le_refl _) hiR
          have h4 := h2.alk h3.symm
          rw [accum_congr (L := fun j => listed.getD j false || j == i) (L' := fun j => (listed.setIfInBounds i true).getD j false) nR (fun j _ => (listed_set hlt).symm)] at h4
          exact h4
        have hdst : dstOf ops i = ops[i].dst := by unfold dstOf; rw [ho]; rfl
        have hid : ¬ (σ.nx + i < σ.nx ∨ ∃ j, j < nR ∧ listed.getD j false = true ∧ σ.nx + i = σ.nx + j) := by
          rintro (h1 | ⟨j, _, hj, he⟩)
          · omega
          have : i = j := by omega
          subst this; rw [hu'] at hj; cases hj
        unfold wpOp
        simp only [ho]
        obtain ⟨hdl, hst⟩ := hst
        have doit : REff P ops[i] (accum σ σ.nx ops es (fun _ => true) i) σ.nx (σ.nx + i) (es i) → ops[i].wp P a w (wpAny P .any ops Q fuel (listed.setIfInBounds i true)) Q := by
          intro hre
          refine hre.1 G _ ρ _ a w hsim hid hagr Q _ fun v w' h5 => ?_
          refine ih _ _ _ (hstand _ _ ?_) (by omega)
          rw [hdst]; exact h5
        split at hst
        · rename_i hg
          rw [wanted_none hg, if_pos rfl]
          exact .inl (doit hst)
        rename_i g want hg
        obtain ⟨t, b, ht, hb, hst⟩ := hst
        obtain ⟨hgi, hgp⟩ := hck.guard i _ g want ho hiR hg
        have hgR : g < nR := by omega
        have hb' : gv (lk (accum σ σ.nx ops es (fun j => listed.getD j false) nR).env t) = some b := by
          rw [accum_env_in (N := nR) (fun j => listed.getD j false) (t := t) (j := g) ht (hp g hgp) hck.dst nR (Nat.le_refl _) hgR]
          rw [accum_env_in (N := nR) (fun _ => true) (t := t) (j := g) ht rfl hck.dst i (by omega) hgi] at hb
          exact hb
        rw [wanted_of hsim hg ht hb']
        by_cases hbw : b = some want
        · rw [if_pos hbw] at hst
          rw [if_pos (by simp [hbw])]
          exact .inl (doit hst)
        rw [if_neg hbw] at hst
        rw [if_neg (by simpa using hbw)]
        refine ih _ _ _ (hstand _ _ ⟨ρ, ?_⟩) (by omega)
        rw [hst, hdst]
        have h5 := hsim.put (dst := ops[i].dst) (x := .tup []) (v := undef) (fun d hd => by have := hdl d hd; rw [accum_n] at this ⊢; exact this) ⟨#[], rfl, trivial⟩
        have h6 := h5.mono_dom (dom' := fun b => (b < σ.nx ∨ ∃ j, j < nR ∧ listed.getD j false = true ∧ b = σ.nx + j) ∨ b = σ.nx + i) (fun b hb => Or.inl hb)
        unfold Eff.skip
        rw [St.add_plain]
        exact h6
      have := (hk3 i his).2 (by omega)
      rw [hu'] at this; cases this
    -- one that writes: all that stand ahead of it have been
    have hahead : ∀ j, j < i → listed.getD j false = true := fun j hj => closes_listed h.down _ i j hp (hck.clos i his (by omega) j hj)
    obtain ⟨k, hk1, hk2, hk3, s, hs, hsim⟩ := h.later hck hW (fun j hj => hahead j (by omega))
    have hki : k = i := by
      rcases Nat.lt_trichotomy k i with hlt' | rfl | hgt
      · have := (hk3 k (by omega)).1 (hahead k hlt'); omega
      · rfl
      have := (hk3 i his).2 hgt; rw [hu'] at this; cases this
    subst hki
    have hdrop : ops.toList.drop k = ops[k] :: ops.toList.drop (k + 1) := by
      rw [List.drop_eq_getElem_cons (by simpa using his)]; rfl
    rw [hdrop] at hs
    refine OpW.step ho hs.2 hs.1 hsim fun s' a' w' hs'' hsim' => ih _ _ _ ?_ (by omega)
    refine ⟨by simpa using h.size, hdown', .inr ⟨k + 1, by omega, by omega, fun j hj => ?_, s', hs'', hsim'⟩⟩
    rw [listed_set hlt]
    by_cases hjk : j = k
    · subst hjk; simp
    have hne : (j == k) = false := by simpa using hjk
    rw [hne, Bool.or_false, hk3 j hj]; omega
end
def clrF (f : Nat → Nat → C) (off len : Nat) : Nat → Nat → C := fun i j => if off ≤ i then (if i < off + len then .any else f i j) else f i j
def clrL (xs : List Int) (off len : Nat) : List Int := xs.take off ++ (List.replicate len 0 ++ xs.drop (off + len))
def wClear (T : Tab) (s : St) (dst : Option Tmp) (t : TypeId) (x : Operand) (K : St → Prop) : Prop :=
  match T t with
  | some S => match S.k with
    | .sl e => match T e with
      | some E => match s.ev x with
        | .one (.own b wd off len) => match lo s.own b with
          | some ⟨.rows e' w n f, rw⟩ => rw = true ∧ wd = w ∧ E.size = w ∧ E.zero.length = w ∧ 0 < w ∧ K { s.put dst .unk with own := upd s.own b ⟨.rows e' w n (clrF f off len), true⟩ }
          | some ⟨.ints e' k xs, rw⟩ => rw = true ∧ wd = 1 ∧ E.size = 1 ∧ E.zero = [.int k 0] ∧ K { s.put dst .unk with own := upd s.own b ⟨.ints e' k (clrL xs off len), true⟩ }
          | _ => False
        | _ => False
      | none => False
    | _ => False
  | none => False
theorem clrL_get (xs : List Int) (off len : Nat) (h : off + len ≤ xs.length) (j : Nat) : (clrL xs off len)[j]? = if off ≤ j ∧ j < off + len then some 0 else xs[j]? := by
  unfold clrL
  rw [List.getElem?_append, List.getElem?_append, X5, List.length_replicate]
  by_cases h1 : j < off
  · rw [if_pos (by omega), if_neg (by omega), List.getElem?_take, if_pos h1]
  rw [if_neg (by omega)]
  by_cases h2 : j < off + len
  · rw [if_pos (by omega), if_pos (by omega), List.getElem?_replicate, if_pos (by omega)]
  rw [if_neg (by omega), if_neg (by omega), List.getElem?_drop]; congr 1; omega
theorem clrL_length (xs : List Int) (off len : Nat) (h : off + len ≤ xs.length) : (clrL xs off len).length = xs.length := by
  unfold clrL; simp; omega
theorem clear_run {P : Program} {w : World} {t ty e : TypeId} {i : TypeInfo} {z : Value} (ht : P.underlying t = some (.slice e)) (hi : P.info? e = some i) (hz : i.zero = some z) (g o len cap : Nat) {cur : Array Value} {e' : TypeId} (hg : w.heap[g]? = some (.cells cur e' (0, 0)))
    (hfit : o + len * z.cells.size ≤ cur.size) (h1 : z.cells.toList.all Value.oneCell' = true) (hsz : 0 < z.cells.size) (hlen : 0 < len) :
    (Builtin.clear_ #[t] ty #[.slice (some ⟨g, o, none⟩) len cap]).run P w = .ok (.tuple #[]) (w.setRow g (cur.toList.take o ++ (Builtin.zeroCells z.cells len).toList ++ cur.toList.drop (o + len * z.cells.size)).toArray) := by
  have hzl : (Builtin.zeroCells z.cells len).toList.length = len * z.cells.size := by simp [Builtin.zeroCells]
  have hone : ∀ u ∈ (Builtin.zeroCells z.cells len).toList, u.oneCell' = true := by
    intro u hu
    simp only [Builtin.zeroCells,Array.toList_map,List.mem_map] at hu
    obtain ⟨k, _, rfl⟩ := hu
    have hk : k % z.cells.size < z.cells.size := Nat.mod_lt _ hsz
    rw [getElem!_pos z.cells _ hk]
    exact List.all_eq_true.1 h1 _ (by simp)
  have hst := run_storeCells_at P g o e' (Builtin.zeroCells z.cells len).toList 0 cur w hg (by rw [hzl]; simpa using hfit) hone
  simp only [Nat.add_zero,hzl] at hst
  cases len with
  | zero => omega
  | succ len =>
    simp only [Builtin.clear_,List.getElem?_toArray,List.getElem?_cons_zero,Sem.run_bind,run_underlying' ht,Result.andThen_ok,run_zeroValue hi hz,hst,Sem.run_pure]
section
variable {P : Program} {T : Tab} (hT : TabOk P T)
include hT
theorem sClear {o : Oper} {s : St} {K : St → Prop} {c : Call} (ho : o.op = .call c) (hcal : c.callee = .builtin .clear) {x : Operand} (hargs : c.args = #[x]) {t : TypeId} (htys : c.argTypes = #[t]) (hdn : dstLt o s.n) (h : wClear T s o.dst t x K) : WEff P o s K := by
  unfold wClear at h
  cases hTt : T t with
  | none => rw [hTt] at h; exact h.elim
  | some S =>
    rw [hTt] at h
    simp only at h
    split at h
    · rename_i e hSk
      have hu := T_slice hT hTt hSk
      cases hTe : T e with
      | none => rw [hTe] at h; exact h.elim
      | some E =>
        rw [hTe] at h
        simp only at h
        obtain ⟨ei, ed, ez, hei, heu, hez, hek, hes, _, hzc, hall⟩ := T_parts hT hTe
        have hzl : E.zero.length = ez.cells.size := by rw [hzc]; simp
        split at h
        · rename_i b wd off len hx
          intro G a w hsim Q next hk
          obtain ⟨ρ, hs⟩ := hsim
          have hev := hs.ev x
          rw [hx] at hev
          have hrun : ∀ (v : Value) (w' : World), a.eval x = v → (∀ ty, (Builtin.clear_ #[t] ty #[v]).run P w = .ok (.tuple #[]) w') → (execOp a.eval o).run P w = .ok (.value (.tuple #[])) w' := by
            intro v w' hv hr
            unfold execOp
            rw [ho]
            simp only [resolve,hcal,Sem.run_bind,Sem.run_pure,Result.andThen_ok,invoke,Go.builtin,hargs,htys,List.map_toArray,List.map_cons,List.map_nil,hv,hr]
          obtain ⟨_, hle, cap, hcap, hval⟩ := hev
          have hput : ∀ (w' : World) (own' : List (Nat × Blk)), SimR G (fun b => b < s.nx) ρ { s with own := own' } a w' → Sim G { s.put o.dst .unk with own := own' } (a.put o.dst (.tuple #[])) w' := by
            intro w' own' h1
            have h2 := h1.put (dst := o.dst) (x := .unk) (v := .tuple #[]) hdn trivial
            cases hd : o.dst with
            | none => rw [hd] at h2; exact ⟨ρ, h2⟩
            | some d => rw [hd] at h2; exact ⟨ρ, h2⟩
          by_cases hl0 : len = 0
          · subst hl0
            have hclr : ∀ v, v = a.eval x → (∃ ad, v = .slice ad 0 cap) → ∀ ty, (Builtin.clear_ #[t] ty #[v]).run P w = .ok (.tuple #[]) w := by
              rintro v _ ⟨ad, rfl⟩ ty
              cases ad <;> simp only [Builtin.clear_,List.getElem?_toArray,List.getElem?_cons_zero,Sem.run_bind,run_underlying' hu,Result.andThen_ok,Sem.run_pure]
            have hsl : ∃ ad, a.eval x = .slice ad 0 cap := by
              rcases hval with ⟨g, o1, o2, _, hv, _⟩ | ⟨_, hv, _, hc0⟩
              · exact ⟨_, hv⟩
              exact ⟨none, by rw [hv, hc0]⟩
            have hr := hrun _ w rfl (hclr _ rfl hsl)
            have hsame : ∀ own', (∀ b', lo own' b' = lo s.own b') → SimR G (fun b => b < s.nx) ρ { s with own := own' } a w := fun own' he => hs.alk ⟨fun _ => rfl, fun b' => (he b').symm, rfl⟩
            split at h
            · rename_i e' w0 n f rw_ hlo
              obtain ⟨rfl, rfl, _, _, _, hK⟩ := h
              refine Oper.wp_value hr (hk _ _ _ hK (hput _ _ (hsame _ fun b' => ?_)))
              rw [lo_upd]
              split
              · rename_i hb; subst hb; rw [hlo]
                have : clrF f off 0 = f := by funext i j; unfold clrF; by_cases h1 : off ≤ i <;> simp [h1]; omega
                rw [this]
              rfl
            · rename_i e' k xs rw_ hlo
              obtain ⟨rfl, rfl, _, _, hK⟩ := h
              refine Oper.wp_value hr (hk _ _ _ hK (hput _ _ (hsame _ fun b' => ?_)))
              rw [lo_upd]
              split
              · rename_i hb; subst hb; rw [hlo]
                have : clrL xs off 0 = xs := by unfold clrL; simp
                rw [this]
              rfl
            exact h.elim
          rcases hval with ⟨g, o1, o2, haddr, hv, ho2, _⟩ | ⟨_, _, h0, _⟩
          · have ho3 : o2 = o1 + off * wd := by rcases ho2 with h1 | h1 <;> omega
            subst ho3
            split at h
            · rename_i e' w0 n f rw_ hlo
              obtain ⟨rfl, rfl, hE, hEz, hpos, hK⟩ := h
              have hzs : ez.cells.size = wd := by omega
              obtain ⟨_, hlenρ, hrep, _⟩ := hs.own b _ hlo
              unfold RepBk at hrep
              rw [haddr] at hrep
              obtain ⟨cur, ee, hg, hc⟩ := hrep
              simp only at hc
              rw [hlenρ] at hle
              simp only [Bk.len] at hle
              have hmul : (off + len) * wd ≤ n * wd := Nat.mul_le_mul_right _ hle
              have hmul2 : (off + len) * wd = off * wd + len * wd := Nat.add_mul _ _ _
              have hlw : 0 < len * wd := Nat.mul_pos (by omega) hpos
              have hfit : o1 + off * wd + len * ez.cells.size ≤ cur.size := by
                rw [hzs]
                obtain ⟨u, hu', _⟩ := hc (n * wd - 1) (f ((n * wd - 1) / wd) ((n * wd - 1) % wd)) (by simp only [Bk.cell]; rw [if_pos (by omega)])
                have := (Array.getElem?_eq_some_iff.1 hu').1
                omega
              have hr := hrun _ _ hv (fun ty => clear_run (ty := ty) hu hei hez g (o1 + off * wd) len cap hg hfit hall (by omega) (by omega))
              refine Oper.wp_value hr (hk _ _ _ hK (hput _ _ ?_))
              have hzl2 : (Builtin.zeroCells ez.cells len).toList.length = len * wd := by simp [Builtin.zeroCells, hzs]
              have hsz : ((cur.toList.take (o1 + off * wd) ++ (Builtin.zeroCells ez.cells len).toList ++ cur.toList.drop (o1 + off * wd + len * ez.cells.size)).toArray).size = cur.size := by
                simp only [List.size_toArray,X6,X5,List.length_drop,hzl2,Array.length_toList]
                rw [hzs] at hfit ⊢
                omega
              refine hs.write hlo haddr hg hsz (.rows e' wd n (clrF f off len)) rfl fun j c' hj => ?_
              simp only [Bk.cell] at hj
              split at hj
              · rename_i hjn
                simp only [Option.some.injEq] at hj
                have hlg := laid_get cur.toList (o1 + off * wd) (Builtin.zeroCells ez.cells len).toList (by rw [hzl2]; simp only [Array.length_toList]; rw [hzs] at hfit; omega) (o1 + j)
                rw [hzl2] at hlg
                have hd1 := Nat.div_add_mod j wd
                have hd2 := Nat.mod_lt j hpos
                simp only [List.getElem?_toArray,hzs,hlg]
                by_cases hm : off * wd ≤ j ∧ j < off * wd + len * wd
                · rw [if_pos (by omega)]
                  have hi1 : off ≤ j / wd := (Nat.le_div_iff_mul_le hpos).2 hm.1
                  have hi2 : j / wd < off + len := (Nat.div_lt_iff_lt_mul hpos).2 (by omega)
                  have hcany : c' = .any := by rw [← hj]; unfold clrF; rw [if_pos hi1, if_pos hi2]
                  subst hcany
                  have hlt : o1 + j - (o1 + off * wd) < (Builtin.zeroCells ez.cells len).toList.length := by rw [hzl2]; omega
                  refine ⟨_, X8 hlt, ?_⟩
                  show Value.oneCell' _ = true
                  simp only [Builtin.zeroCells,Array.getElem_toList,Array.getElem_map,Array.getElem_range]
                  have hkk : (o1 + j - (o1 + off * wd)) % ez.cells.size < ez.cells.size := Nat.mod_lt _ (by omega)
                  rw [getElem!_pos ez.cells _ hkk]
                  exact List.all_eq_true.1 hall _ (by simp)
                rw [if_neg (by omega), Array.getElem?_toList]
                have hcf : c' = f (j / wd) (j % wd) := by
                  rw [← hj]; unfold clrF
                  by_cases hi1 : off ≤ j / wd
                  · rw [if_pos hi1, if_neg]
                    intro hi2
                    have a1 := (Nat.le_div_iff_mul_le hpos).1 hi1
                    have a2 := (Nat.div_lt_iff_lt_mul hpos).1 hi2
                    omega
                  rw [if_neg hi1]
                exact hc j c' (by simp only [Bk.cell]; rw [if_pos hjn, hcf])
              cases hj
            · rename_i e' k xs rw_ hlo
              obtain ⟨rfl, rfl, hE, hEz, hK⟩ := h
              have hzs : ez.cells.size = 1 := by rw [← hzl, hEz]; rfl
              have hmm : len * ez.cells.size = len := by rw [hzs, Nat.mul_one]
              obtain ⟨_, hlenρ, hrep, _⟩ := hs.own b _ hlo
              unfold RepBk at hrep
              rw [haddr] at hrep
              obtain ⟨cur, ee, hg, hc⟩ := hrep
              simp only at hc
              rw [hlenρ] at hle
              simp only [Bk.len] at hle
              have hfit : o1 + off * 1 + len * ez.cells.size ≤ cur.size := by
                obtain ⟨u, hu', _⟩ := hc (xs.length - 1) (.int k xs[xs.length - 1]) (by simp only [Bk.cell]; rw [X8 (by omega)]; rfl)
                have := (Array.getElem?_eq_some_iff.1 hu').1
                omega
              have hr := hrun _ _ hv (fun ty => clear_run (ty := ty) hu hei hez g (o1 + off * 1) len cap hg hfit hall (by omega) (by omega))
              refine Oper.wp_value hr (hk _ _ _ hK (hput _ _ ?_))
              have hzl2 : (Builtin.zeroCells ez.cells len).toList.length = len := by simp [Builtin.zeroCells, hzs]
              have hsz : ((cur.toList.take (o1 + off * 1) ++ (Builtin.zeroCells ez.cells len).toList ++ cur.toList.drop (o1 + off * 1 + len * ez.cells.size)).toArray).size = cur.size := by
                simp only [List.size_toArray,X6,X5,List.length_drop,hzl2,Array.length_toList]
                omega
              refine hs.write hlo haddr hg hsz (.ints e' k (clrL xs off len)) (clrL_length xs off len hle) fun j c' hj => ?_
              simp only [Bk.cell,clrL_get xs off len hle] at hj
              have hlg := laid_get cur.toList (o1 + off * 1) (Builtin.zeroCells ez.cells len).toList (by rw [hzl2]; simp only [Array.length_toList]; omega) (o1 + j)
              rw [hzl2] at hlg
              simp only [List.getElem?_toArray,hmm,hlg]
              by_cases hm : off ≤ j ∧ j < off + len
              · rw [if_pos hm] at hj
                simp only [Option.map_some,Option.some.injEq] at hj
                subst hj
                rw [if_pos (by omega)]
                have hlt : o1 + j - (o1 + off * 1) < (Builtin.zeroCells ez.cells len).toList.length := by rw [hzl2]; omega
                refine ⟨_, X8 hlt, ?_⟩
                simp only [Builtin.zeroCells,Array.getElem_toList,Array.getElem_map,Array.getElem_range]
                have hz0 : ez.cells.toList.map cvC = [.int k 0] := by rw [← hzc]; exact hEz
                obtain ⟨v0, hv0⟩ : ∃ v0, ez.cells.toList = [v0] := List.length_eq_one_iff.1 (by simpa using hzs)
                rw [hv0] at hz0
                have hcv : cvC v0 = .int k 0 := by simpa using hz0
                have hone : v0.oneCell' = true := List.all_eq_true.1 hall _ (by rw [hv0]; simp)
                have hrr := cvC_repI (ok := okOf G s.own ρ w) (w := w) v0 hone
                rw [hcv] at hrr
                have hkk : (o1 + j - (o1 + off * 1)) % ez.cells.size < ez.cells.size := Nat.mod_lt _ (by omega)
                rw [getElem!_pos ez.cells _ hkk]
                have hv1 : ez.cells[(o1 + j - (o1 + off * 1)) % ez.cells.size] = v0 := by
                  have : ez.cells.toList[(o1 + j - (o1 + off * 1)) % ez.cells.size]? = some v0 := by
                    rw [hv0, hzs, Nat.mod_one]; rfl
                  rw [Array.getElem?_toList, Array.getElem?_eq_getElem hkk] at this
                  exact Option.some.inj this
                rw [hv1]
                exact hrr
              rw [if_neg hm] at hj
              rw [if_neg (by omega), Array.getElem?_toList]
              exact hc j c' hj
            exact h.elim
          omega
        exact h.elim
    exact h.elim
end
end Go.Eng
/-
  THE ENGINE, PART T: a statement whose order is open, where some operations that make nothing may come later than those that write.
-/
namespace Go.Eng
open Go
inductive WL where
  | nil
  | cons (i : Nat) (pd : List Nat) (sub alt : WL)
def wHas : WL → Nat → Bool
  | .nil, _ => false
  | .cons i _ sub _, j => if j = i then true else wHas sub j
def isR (ws : WL) (i : Nat) : Bool := !wHas ws i
def wNext : WL → Nat → Bool
  | .nil, _ => false
  | .cons i _ _ alt, j => if j = i then true else wNext alt j
def notSel : Op → Bool
  | .select _ _ => false
  | _ => true
def gOkR (ops : Array Oper) (ws : WL) (i : Nat) (o : Oper) : Bool :=
  ((tmpsOf o).all fun t => (List.range ops.size).all fun j => dstOf ops j != some t || (if isR ws j then decide (j < i) && (preds ops i).contains j else closes ops ops.size j i)) &&
  (match o.guard with
   | none => true
   | some (g, _) => decide (g < i) && (preds ops i).contains g && isR ws g)
def closesAny (ops : Array Oper) (l : List Nat) (j : Nat) : Bool := l.any fun i => closes ops ops.size i j
def covers (ops : Array Oper) (ws : WL) (pre : List Nat) (t : WL) : Bool :=
  (List.range ops.size).all fun i => !wHas ws i || pre.contains i || wNext t i || (List.range ops.size).any fun j => wHas ws j && !pre.contains j && closes ops ops.size i j
def gOkW (ops : Array Oper) (ws : WL) : List Nat → WL → Bool
  | _, .nil => true
  | pre, .cons i pd sub alt => (match ops[i]? with
      | none => false
      | some o => o.guard.isNone && notSel o.op && !pre.contains i && wHas ws i &&
          ((List.range ops.size).all fun j => !isR ws j || pd.contains j || closesAny ops (i :: pre) j) &&
          (pd.all fun j => isR ws j && (match ops[j]? with
            | none => false
            | some oj => isLate oj.op && (match oj.dst with
              | none => false
              | some d => !(tmpsOf o).contains d)))) &&
    covers ops ws (i :: pre) sub && gOkW ops ws (i :: pre) sub && gOkW ops ws pre alt
def gOk (ops : Array Oper) (ws : WL) : Bool :=
  ((List.range ops.size).all fun i => match ops[i]? with
    | none => false
    | some o => ((preds ops i).all fun p => decide (p < i)) && ((List.range ops.size).all fun j => j == i || (dstOf ops j).isNone || dstOf ops j != dstOf ops i) && (!isR ws i || gOkR ops ws i o)) &&
  covers ops ws [] ws && gOkW ops ws [] ws
structure WOk (ops : Array Oper) (ws : WL) (pre : List Nat) (i : Nat) (pd : List Nat) (sub : WL) : Prop where
  op : ∃ o, ops[i]? = some o ∧ o.guard = none ∧ notSel o.op = true ∧ ∀ j ∈ pd, ∃ oj d, isR ws j = true ∧ ops[j]? = some oj ∧ isLate oj.op = true ∧ oj.dst = some d ∧ d ∉ tmpsOf o
  all : ∀ j, j < ops.size → isR ws j = true → j ∈ pd ∨ ∃ k ∈ i :: pre, closes ops ops.size k j = true
  cov : covers ops ws (i :: pre) sub = true
  sub : gOkW ops ws (i :: pre) sub = true
structure GOk (ops : Array Oper) (ws : WL) : Prop where
  pred : ∀ i o, ops[i]? = some o → ∀ p ∈ preds ops i, p < i
  dst : ∀ j k t, j < ops.size → k < ops.size → j ≠ k → dstOf ops j = some t → dstOf ops k = some t → False
  data : ∀ i o, ops[i]? = some o → isR ws i = true → ∀ t, t ∈ tmpsOf o → ∀ j, j < ops.size → dstOf ops j = some t → (isR ws j = true → j < i ∧ j ∈ preds ops i) ∧ (isR ws j = false → closes ops ops.size j i = true)
  guard : ∀ i o g want, ops[i]? = some o → isR ws i = true → o.guard = some (g, want) → g < i ∧ g ∈ preds ops i ∧ isR ws g = true
  cov : covers ops ws [] ws = true
  w : gOkW ops ws [] ws = true
theorem gOkW_cons {ops : Array Oper} {ws : WL} {pre : List Nat} {i : Nat} {pd : List Nat} {sub alt : WL} (h : gOkW ops ws pre (.cons i pd sub alt) = true) : WOk ops ws pre i pd sub ∧ gOkW ops ws pre alt = true := by
  simp only [gOkW,Bool.and_eq_true] at h
  obtain ⟨⟨⟨h1, hc⟩, hs⟩, h2⟩ := h
  refine ⟨?_, h2⟩
  cases ho : ops[i]? with
  | none => rw [ho] at h1; cases h1
  | some o =>
    rw [ho] at h1
    simp only [Bool.and_eq_true,List.all_eq_true,Option.isNone_iff_eq_none,Bool.not_eq_true'] at h1
    obtain ⟨⟨⟨⟨⟨g1, g2⟩, _⟩, _⟩, g5⟩, g6⟩ := h1
    refine ⟨⟨o, ho, g1, g2, fun j hj => ?_⟩, fun j hj hr => ?_, hc, hs⟩
    · have h3 := g6 j hj
      obtain ⟨k1, k2⟩ := h3
      cases hoj : ops[j]? with
      | none => rw [hoj] at k2; cases k2
      | some oj =>
        rw [hoj] at k2
        simp only [Bool.and_eq_true] at k2
        obtain ⟨k3, k5⟩ := k2
        cases hd : oj.dst with
        | none => rw [hd] at k5; cases k5
        | some d =>
          rw [hd] at k5
          exact ⟨oj, d, k1, rfl, k3, hd, by simpa using k5⟩
    have h3 := g5 j (by simpa using hj)
    rw [hr] at h3
    have h4 : pd.contains j = true ∨ closesAny ops (i :: pre) j = true := by simpa using h3
    rcases h4 with h4 | h4
    · exact .inl (by simpa using h4)
    right
    unfold closesAny at h4
    obtain ⟨k, hk, hc⟩ := List.any_eq_true.1 h4
    exact ⟨k, hk, hc⟩
theorem covers_spec {ops : Array Oper} {ws : WL} {pre : List Nat} {t : WL} (h : covers ops ws pre t = true) {i : Nat} (hi : i < ops.size) (hw : wHas ws i = true) : i ∈ pre ∨ wNext t i = true ∨ ∃ j, j < ops.size ∧ wHas ws j = true ∧ j ∉ pre ∧ closes ops ops.size i j = true := by
  unfold covers at h
  have h1 := List.all_eq_true.1 h i (by simpa using hi)
  rw [hw] at h1
  simp only [Bool.not_true,Bool.false_or,Bool.or_eq_true] at h1
  rcases h1 with (h1 | h1) | h1
  · exact .inl (by simpa using h1)
  · exact .inr (.inl h1)
  obtain ⟨j, hj, h2⟩ := List.any_eq_true.1 h1
  simp only [Bool.and_eq_true,Bool.not_eq_true'] at h2
  exact .inr (.inr ⟨j, by simpa using hj, h2.1.1, by simpa using h2.1.2, h2.2⟩)
theorem gOk_spec {ops : Array Oper} {ws : WL} (h : gOk ops ws = true) : GOk ops ws := by
  unfold gOk at h
  rw [Bool.and_eq_true, Bool.and_eq_true] at h
  obtain ⟨⟨h1, h2c⟩, h2⟩ := h
  have hi : ∀ i o, ops[i]? = some o → ((∀ p ∈ preds ops i, p < i) ∧ (∀ j, j < ops.size → j ≠ i → ∀ t, dstOf ops j = some t → dstOf ops i ≠ some t)) ∧ (isR ws i = true → gOkR ops ws i o = true) := by
    intro i o ho
    have hlt := (Array.getElem?_eq_some_iff.1 ho).1
    have h3 := List.all_eq_true.1 h1 i (by simpa using hlt)
    rw [ho] at h3
    simp only [Bool.and_eq_true,List.all_eq_true,decide_eq_true_eq] at h3
    obtain ⟨⟨a1, a2⟩, a3⟩ := h3
    refine ⟨⟨a1, fun j hj hne t ht hti => ?_⟩, fun hr => by rw [hr] at a3; simpa using a3⟩
    have h4 := a2 j (by simpa using hj)
    rw [ht, hti] at h4
    simp [hne] at h4
  refine ⟨fun i o ho => (hi i o ho).1.1, fun j k t hj hk hne h3 h4 => ?_, fun i o ho hr t ht j hj hd => ?_, fun i o g want ho hr hg => ?_, h2c, h2⟩
  · exact (hi k ops[k] (Array.getElem?_eq_getElem hk)).1.2 j hj hne t h3 h4
  · have h3 := (hi i o ho).2 hr
    unfold gOkR at h3
    rw [Bool.and_eq_true] at h3
    have h4 := List.all_eq_true.1 (List.all_eq_true.1 h3.1 t ht) j (by simpa using hj)
    rw [hd] at h4
    refine ⟨fun hrj => ?_, fun hrj => ?_⟩
    · rw [hrj] at h4; simpa using h4
    rw [hrj] at h4; simpa using h4
  have h3 := (hi i o ho).2 hr
  unfold gOkR at h3
  rw [Bool.and_eq_true, hg] at h3
  simpa [and_assoc] using h3.2
open Classical in
noncomputable def hide (s : St) (H : Tmp → Prop) : St := { s with env := s.env.filter fun p => decide (¬ H p.1) }
open Classical in
theorem lk_filter (H : Tmp → Prop) (t : Tmp) : ∀ l : List (Nat × V), lk (l.filter fun p => decide (¬ H p.1)) t = if H t then .unk else lk l t
  | [] => by simp [lk]
  | (t', v) :: r => by
    have ih := lk_filter H t r
    by_cases hH : H t'
    · rw [List.filter_cons_of_neg (by simpa using hH), ih]
      by_cases ht : t = t'
      · subst ht; simp [hH]
      simp [lk, ht]
    rw [List.filter_cons_of_pos (by simpa using hH)]
    simp only [lk]
    by_cases ht : t = t'
    · subst ht; simp [hH]
    simp only [ht,if_false]; exact ih
theorem hide_ev (s : St) (H : Tmp → Prop) (t : Tmp) (h : ¬ H t) : lk (hide s H).env t = lk s.env t := by
  unfold hide; simp only [lk_filter,if_neg h]
theorem hide_unk (s : St) (H : Tmp → Prop) (t : Tmp) (h : H t) : lk (hide s H).env t = .unk := by
  unfold hide; simp only [lk_filter,if_pos h]
structure RU (H : Tmp → Prop) (a a' : Act) : Prop where
  defers : a.defers = a'.defers
  size : a.tmps.size = a'.tmps.size
  tmps : ∀ t, ¬ H t → a.tmps[t]? = a'.tmps[t]?
theorem RU.refl (H : Tmp → Prop) (a : Act) : RU H a a := ⟨rfl, rfl, fun _ _ => rfl⟩
theorem RU.eq {H : Tmp → Prop} {a a' : Act} (h : RU H a a') (hH : ∀ t, ¬ H t) : a = a' := by
  obtain ⟨h1, h2, h3⟩ := h
  cases a; cases a'
  simp only [Act.mk.injEq]
  exact ⟨Array.ext_getElem? fun i => h3 i (hH i), h1⟩
theorem RU.getD {H : Tmp → Prop} {a a' : Act} (h : RU H a a') {t : Tmp} (ht : ¬ H t) : a.tmps.getD t undef = a'.tmps.getD t undef := by
  rw [Array.getD_eq_getD_getElem?, Array.getD_eq_getD_getElem?, h.tmps t ht]
theorem RU.put {H : Tmp → Prop} {a a' : Act} (h : RU H a a') (dst : Option Tmp) (v : Value) : RU H (a.put dst v) (a'.put dst v) := by
  cases dst with
  | none => exact h
  | some d =>
    refine ⟨h.defers, by simp [Act.put, h.size], fun t ht => ?_⟩
    simp only [Act.put,Array.getElem?_setIfInBounds,h.size]
    split
    · rfl
    exact h.tmps t ht
theorem put_getElem {a : Act} {d t : Tmp} {v : Value} : (a.put (some d) v).tmps[t]? = if t = d ∧ d < a.tmps.size then some v else a.tmps[t]? := by
  simp only [Act.put,Array.getElem?_setIfInBounds]
  by_cases h1 : d = t
  · subst h1
    by_cases h2 : d < a.tmps.size
    · simp [h2]
    simp [h2]
  rw [if_neg h1, if_neg (fun h => h1 h.1.symm)]
theorem SimR.hide {G : Ctx} {dom : Nat → Prop} {ρ : Nat → Loc} {s : St} {a a' : Act} {w : World} {H : Tmp → Prop} (h : SimR G dom ρ s a' w) (hu : RU H a a') : SimR G dom ρ (hide s H) a w :=
  { h with
    hd := by rw [hu.defers]; exact h.hd
    hn := by rw [hu.size]; exact h.hn
    env := fun t => by
      by_cases ht : H t
      · rw [hide_unk _ _ _ ht]; trivial
      rw [hide_ev _ _ _ ht, hu.getD ht]; exact h.env t }
theorem RU.exec {H : Tmp → Prop} {a a' : Act} (h : RU H a a') {o : Oper} (hns : notSel o.op = true) (ht : ∀ t ∈ tmpsOf o, ¬ H t) : execOp a.eval o = execOp a'.eval o := by
  refine execOp_congr o (fun cs b he => by rw [he] at hns; cases hns) fun x hx => ?_
  cases x with
  | tmp t => exact h.getD (ht t (List.mem_filterMap.2 ⟨.tmp t, by simpa using hx, rfl⟩))
  | const v => rfl
  | global g => rfl
  | func f => rfl
theorem RU.wp {P : Program} {H : Tmp → Prop} {a a' : Act} (h : RU H a a') {o : Oper} (hns : notSel o.op = true) (ht : ∀ t ∈ tmpsOf o, ¬ H t) {w : World} {next next' : Act → World → Prop} {Q : Exit → Act → World → Prop}
    (hQ : ∀ ch a a' w, Q (.panic ch) a w → Q (.panic ch) a' w) (hn : ∀ b b' w, RU H b b' → next' b' w → next b w) (hw : o.wp P a' w next' Q) : o.wp P a w next Q := by
  unfold Oper.wp at hw ⊢
  rw [h.exec hns ht]
  cases hr : (execOp a'.eval o).run P w with
  | halt x w' =>
    rw [hr] at hw
    cases x <;> first | exact hQ _ _ _ _ hw | exact hw.elim
  | ok x w' =>
    rw [hr] at hw
    cases x with
    | value v => exact hn _ _ _ (h.put _ v) hw
    | skip => exact hn _ _ _ (h.put _ undef) hw
    | defer d =>
      refine hn _ _ _ (RU.put (⟨?_, h.size, h.tmps⟩ : RU H { a with defers := d :: a.defers } { a' with defers := d :: a'.defers }) _ undef) hw
      simp only [h.defers]
    | enter f args =>
      refine Calls.mono hw fun e w'' he => ?_
      cases e with
      | returned v => exact hn _ _ _ (h.put _ v) he
      | panicked ch => exact hQ _ _ _ _ he
      | outgrown => exact he
    | row r args => exact Rows.mono hw fun v w'' he => hn _ _ _ (h.put _ v) he
    | _ => exact hw.elim
section
variable {P : Program} {ops : Array Oper} {ws : WL} {σ : St} {es : Nat → Eff} {K : St → Prop}
def PromG (P : Program) (ops : Array Oper) (s : St) (o : Oper) (d : Nat) : Prop := match o.guard with
  | none => PEff P o s s.nx (lk s.env d)
  | some (g, want) => ∃ t b, dstOf ops g = some t ∧ gv (lk s.env t) = some b ∧ (if b = some want then PEff P o s s.nx (lk s.env d) else lk s.env d = .tup [])
def Promise (P : Program) (ops : Array Oper) (s : St) (pd : List Nat) : Prop := ∀ j ∈ pd, ∃ o d, ops[j]? = some o ∧ o.dst = some d ∧ PromG P ops s o d ∧ d < s.n
def OpS (P : Program) (ops : Array Oper) (i : Nat) (pd : List Nat) (s : St) (K : St → Prop) : Prop := ∃ o, ops[i]? = some o ∧ dstLt o s.n ∧ WEff P o s (fun s' => Promise P ops s' pd ∧ K s')
def OpsG (P : Program) (ops : Array Oper) : WL → St → (St → Prop) → Prop
  | .nil, s, K => K s
  | .cons i pd sub .nil, s, K => OpS P ops i pd s (fun s' => OpsG P ops sub s' K)
  | .cons i pd sub (.cons i' pd' sub' alt'), s, K => OpS P ops i pd s (fun s' => OpsG P ops sub s' K) ∧ OpsG P ops (.cons i' pd' sub' alt') s K
theorem OpsG_next {P : Program} {ops : Array Oper} {ws : WL} {pre : List Nat} {i : Nat} {s : St} {K : St → Prop} : ∀ {t : WL}, OpsG P ops t s K → gOkW ops ws pre t = true → wNext t i = true → ∃ pd sub, OpS P ops i pd s (fun s' => OpsG P ops sub s' K) ∧ WOk ops ws pre i pd sub
  | .nil, _, _, hn => by cases hn
  | .cons i0 pd sub .nil, h, hg, hn => by
    simp only [wNext] at hn
    by_cases he : i = i0
    · subst he; rw [OpsG] at h; exact ⟨pd, sub, h, (gOkW_cons hg).1⟩
    rw [if_neg he] at hn; cases hn
  | .cons i0 pd sub (.cons i' pd' sub' alt'), h, hg, hn => by
    rw [OpsG] at h
    by_cases he : i = i0
    · subst he; exact ⟨pd, sub, h.1, (gOkW_cons hg).1⟩
    refine OpsG_next h.2 (gOkW_cons hg).2 ?_
    rw [wNext, if_neg he] at hn
    exact hn
def hid (ops : Array Oper) (ws : WL) (listed : Array Bool) (t : Tmp) : Prop := ∃ j, j < ops.size ∧ isR ws j = true ∧ listed.getD j false = false ∧ dstOf ops j = some t
def allR (σ : St) (ops : Array Oper) (es : Nat → Eff) (ws : WL) : St := { accum σ σ.nx ops es (isR ws) ops.size with nx := σ.nx + ops.size }
structure StandG (P : Program) (G : Ctx) (ops : Array Oper) (ws : WL) (σ : St) (es : Nat → Eff) (K : St → Prop) (listed : Array Bool) (a : Act) (w : World) : Prop where
  size : listed.size = ops.size
  down : ∀ i, listed.getD i false = true → ∀ p ∈ preds ops i, listed.getD p false = true
  where_ : ((∀ i, listed.getD i false = true → isR ws i = true) ∧ SimD G (fun b => b < σ.nx ∨ ∃ j, j < ops.size ∧ listed.getD j false = true ∧ b = σ.nx + j) (accum σ σ.nx ops es (fun j => isR ws j && listed.getD j false) ops.size) a w) ∨
    (∃ (pre : List Nat) (rest : WL) (pd : List Nat) (s : St) (a' : Act), (∀ j, j < ops.size → isR ws j = false → (listed.getD j false = true ↔ j ∈ pre)) ∧ (∀ k ∈ pre, listed.getD k false = true) ∧ gOkW ops ws pre rest = true ∧ covers ops ws pre rest = true ∧
      (∀ j, j < ops.size → isR ws j = true → listed.getD j false = false → j ∈ pd) ∧ OpsG P ops rest s K ∧ Promise P ops s pd ∧ Sim G s a' w ∧ RU (hid ops ws listed) a a')
theorem accum_env_out' (L : Nat → Bool) (t : Nat) : ∀ k, (∀ j, j < k → L j = true → dstOf ops j ≠ some t) → lk (accum σ σ.nx ops es L k).env t = lk σ.env t := by
  intro k
  induction k with
  | zero => intro _; rfl
  | succ k ih =>
    intro h
    simp only [accum]
    split
    · rename_i hL
      rw [add_env, if_neg (h k (Nat.lt_succ_self k) hL)]; exact ih (fun j hj => h j (Nat.lt_succ_of_lt hj))
    exact ih (fun j hj => h j (Nat.lt_succ_of_lt hj))
theorem agrG (hck : GOk ops ws) {i : Nat} {o : Oper} (ho : ops[i]? = some o) (hi : isR ws i = true) {L : Nat → Bool} (hL : ∀ j, L j = true → isR ws j = true) (hp : ∀ p ∈ preds ops i, isR ws p = true → L p = true) :
    Agr (accum σ σ.nx ops es (isR ws) i) (accum σ σ.nx ops es L ops.size) σ.nx o := by
  have his := (Array.getElem?_eq_some_iff.1 ho).1
  refine ⟨by rw [accum_n, accum_n], fun x hx => ?_, fun b hb => by rw [accum_own _ ops.size b hb, accum_own _ i b hb]⟩
  cases x with
  | tmp t =>
    have htm : t ∈ tmpsOf o := List.mem_filterMap.2 ⟨.tmp t, by simpa using hx, rfl⟩
    show lk _ t = lk _ t
    by_cases hex : ∃ j, j < ops.size ∧ isR ws j = true ∧ dstOf ops j = some t
    · obtain ⟨j, hj, hjR, hd⟩ := hex
      obtain ⟨hji, hjp⟩ := (hck.data i o ho hi t htm j hj hd).1 hjR
      rw [accum_env_in (N := ops.size) L hd (hp j hjp hjR) hck.dst ops.size (Nat.le_refl _) hj, accum_env_in (N := ops.size) (isR ws) hd hjR hck.dst i (by omega) hji]
    rw [accum_env_out' L t ops.size (fun j hj hLj h => hex ⟨j, hj, hL j hLj, h⟩), accum_env_out' (isR ws) t i (fun j hj hLj h => hex ⟨j, by omega, hLj, h⟩)]
  | const v => rfl
  | global g => rfl
  | func f => rfl
theorem ghost (hck : GOk ops ws) (hfz : ∀ j, ∀ b ∈ (es j).fz, b < σ.nx)
    (hstep : ∀ (i : Nat) o, isR ws i = true → ops[i]? = some o → stepOk P ops σ.nx i o (accum σ σ.nx ops es (isR ws) i) (es i))
    {G : Ctx} {listed : Array Bool} {a : Act} {w : World} {dom : Nat → Prop} (hW : ∀ i, listed.getD i false = true → isR ws i = true)
    (hlate : ∀ j, j < ops.size → isR ws j = true → listed.getD j false = false → ∃ o, ops[j]? = some o ∧ isLate o.op = true)
    (hs : SimD G dom (accum σ σ.nx ops es (fun j => isR ws j && listed.getD j false) ops.size) a w) (hdown : ∀ i, listed.getD i false = true → ∀ p ∈ preds ops i, listed.getD p false = true) :
    ∀ n, n ≤ ops.size → ∃ a', SimD G dom (accum σ σ.nx ops es (fun j => isR ws j && (listed.getD j false || decide (j < n))) ops.size) a' w ∧ RU (hid ops ws listed) a a' := by
  intro n
  induction n with
  | zero =>
    intro _
    refine ⟨a, ?_, RU.refl _ _⟩
    rw [accum_congr (L' := fun j => isR ws j && listed.getD j false) ops.size (fun j _ => by simp)]
    exact hs
  | succ n ih =>
    intro hn
    obtain ⟨a', ⟨ρ, h1⟩, hu⟩ := ih (by omega)
    by_cases hc : isR ws n = true ∧ listed.getD n false = false
    · obtain ⟨hR, hl⟩ := hc
      obtain ⟨o, ho, hlt⟩ := hlate n (by omega) hR hl
      obtain ⟨hdl, hst⟩ := hstep n o hR ho
      have hagr := agrG (σ := σ) (es := es) hck ho hR (L := fun j => isR ws j && (listed.getD j false || decide (j < n))) (fun j hj => by simp at hj; exact hj.1) (fun p hp hpR => by
        have := hck.pred n o ho p hp
        simp [hpR, this])
      have hval : (es n).blk = none ∧ (es n).fz = [] ∧ ∃ v, RepV ρ dom (okOf G (accum σ σ.nx ops es (fun j => isR ws j && (listed.getD j false || decide (j < n))) ops.size).own ρ w) w (es n).val v := by
        have doit : REff P o (accum σ σ.nx ops es (isR ws) n) σ.nx (σ.nx + n) (es n) → (es n).blk = none ∧ (es n).fz = [] ∧ ∃ v, RepV ρ dom (okOf G (accum σ σ.nx ops es (fun j => isR ws j && (listed.getD j false || decide (j < n))) ops.size).own ρ w) w (es n).val v := fun hre => by
          obtain ⟨hblk, hfzn, hpe⟩ := hre.2 hlt
          obtain ⟨v, _, hv⟩ := hpe G dom ρ _ a' w h1 hagr
          exact ⟨hblk, hfzn, v, hv⟩
        split at hst
        · exact doit hst
        obtain ⟨t, b, _, _, hst⟩ := hst
        split at hst
        · exact doit hst
        rw [hst]; exact ⟨rfl, rfl, undef, ⟨#[], rfl, trivial⟩⟩
      obtain ⟨hblk, hfzn, v, hv⟩ := hval
      have hdst : dstOf ops n = o.dst := by unfold dstOf; rw [ho]; rfl
      have h2 := h1.put (dst := o.dst) (x := (es n).val) (v := v) (fun d hd => by have := hdl d hd; rw [accum_n] at this ⊢; exact this) hv
      refine ⟨a'.put o.dst v, ⟨ρ, ?_⟩, ?_⟩
      · have he : es n = ⟨(es n).val, none, []⟩ := by
          cases hen : es n with
          | mk v b f => rw [hen] at hblk hfzn; simp only at hblk hfzn; rw [hblk, hfzn]
        have h3 := accum_one (σ := σ) (nx0 := σ.nx) (e := es) (N := ops.size) (L := fun j => isR ws j && (listed.getD j false || decide (j < n))) (i := n) (by simp [hl]) hck.dst hfz ops.size (Nat.le_refl _) (by omega)
        rw [he, St.add_plain, hdst] at h3
        have h4 := h2.alk h3.symm
        rw [accum_congr (L' := fun j => (isR ws j && (listed.getD j false || decide (j < n))) || j == n) ops.size (fun j _ => ?_)]
        · exact h4
        by_cases hjn : j = n
        · subst hjn; simp [hR]
        have e1 : decide (j < n + 1) = decide (j < n) := by simp; omega
        have e2 : (j == n) = false := by simpa using hjn
        rw [e1, e2, Bool.or_false]
      cases hd : o.dst with
      | none => exact hu
      | some d =>
        refine ⟨hu.defers, by rw [hu.size]; simp [Act.put], fun t ht => ?_⟩
        rw [put_getElem, if_neg, hu.tmps t ht]
        rintro ⟨rfl, _⟩
        exact ht ⟨n, by omega, hR, hl, by rw [hdst, hd]⟩
    refine ⟨a', ⟨ρ, ?_⟩, hu⟩
    rw [accum_congr (L' := fun j => isR ws j && (listed.getD j false || decide (j < n))) ops.size (fun j _ => ?_)]
    · exact h1
    by_cases hjn : j = n
    · subst hjn
      cases hR : isR ws j with
      | false => rfl
      | true =>
        have : listed.getD j false = true := by
          cases hl : listed.getD j false with
          | true => rfl
          | false => exact absurd ⟨hR, hl⟩ hc
        rw [this]; rfl
    have e1 : decide (j < n + 1) = decide (j < n) := by simp; omega
    rw [e1]
theorem accum_listed {L : Nat → Bool} (h : ∀ j, j < ops.size → isR ws j = true → L j = true) : accum σ σ.nx ops es (fun j => isR ws j && L j) ops.size = accum σ σ.nx ops es (isR ws) ops.size :=
  accum_congr ops.size fun j hj => by
    cases hR : isR ws j with
    | false => rfl
    | true => rw [h j hj hR]; rfl
theorem wpAny_standG (hck : GOk ops ws) (hfz : ∀ j, ∀ b ∈ (es j).fz, b < σ.nx)
    (hstep : ∀ (i : Nat) o, isR ws i = true → ops[i]? = some o → stepOk P ops σ.nx i o (accum σ σ.nx ops es (isR ws) i) (es i))
    (hW : OpsG P ops ws (allR σ ops es ws) K)
    {G : Ctx} {Q : Exit → Act → World → Prop} (hQ : ∀ s a w, K s → Sim G s a w → Q .normal a w) (hP : ∀ ch a a' w, Q (.panic ch) a w → Q (.panic ch) a' w) :
    ∀ (fuel : Nat) (listed : Array Bool) (a : Act) (w : World), StandG P G ops ws σ es K listed a w → toCome ops listed ≤ fuel → wpAny P .any ops Q fuel listed a w := by
  have hend : ∀ (listed : Array Bool) (a : Act) (w : World), StandG P G ops ws σ es K listed a w → (∀ j, j < ops.size → listed.getD j false = true) → Q .normal a w := by
    intro listed a w h hall
    rcases h.where_ with ⟨hR, ρ, hsim⟩ | ⟨pre, rest, pd, s, a', h1, h2, h3, h4, h5, h6, h7, h8, h9⟩
    · have hno : ∀ i, i < ops.size → wHas ws i = false := fun i hi => by
        have := hR i (hall i hi)
        simpa [isR] using this
      cases hws : ws with
      | nil =>
        rw [hws] at hW hsim
        refine hQ _ a w hW ⟨ρ, ?_⟩
        rw [accum_listed (fun j hj _ => hall j hj)] at hsim
        have h10 := hsim.mono_dom (dom' := fun b => b < σ.nx + ops.size) (fun b hb => by rcases hb with hb | ⟨j, hj, _, rfl⟩ <;> omega)
        exact h10.alk ⟨fun _ => rfl, fun _ => rfl, rfl⟩
      | cons i pd sub alt =>
        exfalso
        have hw := hck.w
        rw [hws] at hw
        obtain ⟨o, ho, _⟩ := (gOkW_cons hw).1.op
        have := hno i (Array.getElem?_eq_some_iff.1 ho).1
        rw [hws] at this
        simp [wHas] at this
    cases hrest : rest with
    | nil =>
      rw [hrest] at h6
      have ha : a = a' := h9.eq fun t ht => by
        obtain ⟨j, hj, _, hl, _⟩ := ht
        rw [hall j hj] at hl; cases hl
      subst ha
      exact hQ s a w h6 h8
    | cons i pd' sub alt =>
      exfalso
      rw [hrest] at h3
      have h11 := h3
      simp only [gOkW,Bool.and_eq_true] at h11
      obtain ⟨⟨⟨h12, _⟩, _⟩, _⟩ := h11
      cases ho : ops[i]? with
      | none => rw [ho] at h12; cases h12
      | some o =>
        rw [ho] at h12
        simp only [Bool.and_eq_true,Bool.not_eq_true'] at h12
        obtain ⟨⟨⟨⟨⟨_, _⟩, hnp⟩, hwi⟩, _⟩, _⟩ := h12
        have his := (Array.getElem?_eq_some_iff.1 ho).1
        have := (h1 i his (by simp [isR, hwi])).1 (hall i his)
        simp [this] at hnp
  intro fuel
  induction fuel with
  | zero =>
    intro listed a w h hf
    have hall := toCome_zero (Nat.le_zero.1 hf)
    refine ⟨?_, hend listed a w h hall⟩
    cases hr : Region.ready .any ops listed with
    | nil => rfl
    | cons i l =>
      obtain ⟨_, hi, hu⟩ := ready_preds (i := i) (listed := listed) (ops := ops) (by rw [hr]; simp)
      have h1 := hall i hi
      have hlt : i < listed.size := by rw [h.size]; exact hi
      simp [Array.getD, hlt] at h1 hu
      rw [h1] at hu; cases hu
  | succ fuel ih =>
    intro listed a w h hf
    refine ⟨fun hr => ?_, fun i hi => ?_⟩
    · have hall : ∀ n i, i < n → i < ops.size → listed.getD i false = true := by
        intro n
        induction n with
        | zero => intro i hi; omega
        | succ n ihn =>
          intro i hin his
          by_cases hu : listed.getD i false = true
          · exact hu
          have hlt : i < listed.size := by rw [h.size]; exact his
          have hu' : listed.getD i true = false := by
            simp [Array.getD, hlt] at hu ⊢
            exact hu
          have hm := ready_of_preds (ops := ops) (Array.getElem?_eq_getElem his) hu' (fun p hp => ihn p (by have := hck.pred i _ (Array.getElem?_eq_getElem his) p hp; omega) (by have := hck.pred i _ (Array.getElem?_eq_getElem his) p hp; omega))
          rw [hr] at hm; cases hm
      exact hend listed a w h (fun j hj => hall _ j (Nat.lt_succ_self _) hj)
    obtain ⟨hp, his, hu⟩ := ready_preds hi
    have ho := Array.getElem?_eq_getElem his
    have hcount := toCome_set h.size his hu
    have hlt : i < listed.size := by rw [h.size]; exact his
    have hu' : listed.getD i false = false := by
      simp [Array.getD, hlt] at hu ⊢
      exact hu
    have hdown' : ∀ j, (listed.setIfInBounds i true).getD j false = true → ∀ p ∈ preds ops j, (listed.setIfInBounds i true).getD p false = true := by
      intro j hj p hpj
      rw [listed_set hlt] at hj ⊢
      rcases Bool.or_eq_true_iff.1 hj with hj | hj
      · rw [h.down j hj p hpj]; rfl
      have : j = i := by simpa using hj
      subst this
      rw [hp p hpj]; rfl
    have hclos : ∀ j, closes ops ops.size i j = true → listed.getD j false = true := fun j hj => closes_listed h.down _ i j hp hj
    by_cases hiR : isR ws i = true
    · rcases h.where_ with ⟨hlR, ρ, hsim⟩ | ⟨pre, rest, pd, s, a', h1, h2, h3, h4, h5, h6, h7, h8, h9⟩
      · have hst := hstep i ops[i] hiR ho
        have hagr := agrG (σ := σ) (es := es) hck ho hiR (L := fun j => isR ws j && listed.getD j false) (fun j hj => by simp at hj; exact hj.1) (fun p hpp hpR => by rw [hpR, hp p hpp]; rfl)
        have hstand : ∀ a' w', SimD G (fun b => (b < σ.nx ∨ ∃ j, j < ops.size ∧ listed.getD j false = true ∧ b = σ.nx + j) ∨ b = σ.nx + i) ((accum σ σ.nx ops es (fun j => isR ws j && listed.getD j false) ops.size).add (dstOf ops i) (σ.nx + i) (es i)) a' w' →
            StandG P G ops ws σ es K (listed.setIfInBounds i true) a' w' := by
          rintro a' w' ⟨ρ', k1⟩
          refine ⟨by simpa using h.size, hdown', .inl ⟨fun j hj => ?_, ρ', ?_⟩⟩
          · rw [listed_set hlt] at hj
            rcases Bool.or_eq_true_iff.1 hj with hj | hj
            · exact hlR j hj
            have : j = i := by simpa using hj
            rw [this]; exact hiR
          have k2 := k1.mono_dom (dom' := fun b => b < σ.nx ∨ ∃ j, j < ops.size ∧ (listed.setIfInBounds i true).getD j false = true ∧ b = σ.nx + j) (fun b hb => by
            rcases hb with (hb | ⟨j, hj, hlj, rfl⟩) | rfl
            · exact .inl hb
            · exact .inr ⟨j, hj, by rw [listed_set hlt, hlj]; rfl, rfl⟩
            exact .inr ⟨i, his, by rw [listed_set hlt]; simp, rfl⟩)
          have k3 := accum_one (σ := σ) (nx0 := σ.nx) (e := es) (N := ops.size) (L := fun j => isR ws j && listed.getD j false) (i := i) (by simp [hu']) hck.dst hfz ops.size (Nat.le_refl _) his
          have k4 := k2.alk k3.symm
          rw [accum_congr (L := fun j => (isR ws j && listed.getD j false) || j == i) (L' := fun j => isR ws j && (listed.setIfInBounds i true).getD j false) ops.size (fun j _ => by
            rw [listed_set hlt]
            by_cases hji : j = i
            · subst hji; simp [hiR]
            have : (j == i) = false := by simpa using hji
            rw [this, Bool.or_false, Bool.or_false])] at k4
          exact k4
        have hdst : dstOf ops i = ops[i].dst := by unfold dstOf; rw [ho]; rfl
        have hid' : ¬ (σ.nx + i < σ.nx ∨ ∃ j, j < ops.size ∧ listed.getD j false = true ∧ σ.nx + i = σ.nx + j) := by
          rintro (k1 | ⟨j, _, hj, he⟩)
          · omega
          have : i = j := by omega
          subst this; rw [hu'] at hj; cases hj
        unfold wpOp
        simp only [ho]
        obtain ⟨hdl, hst⟩ := hst
        have doit : REff P ops[i] (accum σ σ.nx ops es (isR ws) i) σ.nx (σ.nx + i) (es i) → ops[i].wp P a w (wpAny P .any ops Q fuel (listed.setIfInBounds i true)) Q := by
          intro hre
          refine hre.1 G _ ρ _ a w hsim hid' hagr Q _ fun v w' k5 => ?_
          refine ih _ _ _ (hstand _ _ ?_) (by omega)
          rw [hdst]; exact k5
        split at hst
        · rename_i hg
          rw [wanted_none hg, if_pos rfl]
          exact .inl (doit hst)
        rename_i g want hg
        obtain ⟨t, b, ht, hb, hst⟩ := hst
        obtain ⟨hgi, hgp, hgR⟩ := hck.guard i _ g want ho hiR hg
        have hb' : gv (lk (accum σ σ.nx ops es (fun j => isR ws j && listed.getD j false) ops.size).env t) = some b := by
          rw [accum_env_in (N := ops.size) (fun j => isR ws j && listed.getD j false) (t := t) (j := g) ht (by rw [hgR, hp g hgp]; rfl) hck.dst ops.size (Nat.le_refl _) (by omega)]
          rw [accum_env_in (N := ops.size) (isR ws) (t := t) (j := g) ht hgR hck.dst i (by omega) hgi] at hb
          exact hb
        rw [wanted_of hsim hg ht hb']
        by_cases hbw : b = some want
        · rw [if_pos hbw] at hst
          rw [if_pos (by simp [hbw])]
          exact .inl (doit hst)
        rw [if_neg hbw] at hst
        rw [if_neg (by simpa using hbw)]
        refine ih _ _ _ (hstand _ _ ⟨ρ, ?_⟩) (by omega)
        rw [hst, hdst]
        have k5 := hsim.put (dst := ops[i].dst) (x := .tup []) (v := undef) (fun d hd => by have := hdl d hd; rw [accum_n] at this ⊢; exact this) ⟨#[], rfl, trivial⟩
        have k6 := k5.mono_dom (dom' := fun b => (b < σ.nx ∨ ∃ j, j < ops.size ∧ listed.getD j false = true ∧ b = σ.nx + j) ∨ b = σ.nx + i) (fun b hb => Or.inl hb)
        unfold Eff.skip
        rw [St.add_plain]
        exact k6
      -- one that is late
      have hipd := h5 i his hiR hu'
      obtain ⟨o, d, ho', hd, hpe, hdn⟩ := h7 i hipd
      rw [ho] at ho'
      obtain rfl := Option.some.inj ho'
      obtain ⟨ρ, hsim⟩ := h8
      have hdst : dstOf ops i = some d := by unfold dstOf; rw [ho]; exact hd
      have hsimH := hsim.hide h9
      have hagr : Agr s (hide s (hid ops ws listed)) s.nx ops[i] := by
        refine ⟨rfl, fun x hx => ?_, fun b _ => rfl⟩
        cases x with
        | tmp t =>
          have htm : t ∈ tmpsOf ops[i] := List.mem_filterMap.2 ⟨.tmp t, by simpa using hx, rfl⟩
          refine hide_ev _ _ _ fun hh => ?_
          obtain ⟨j, hj, hjR, hjl, hjd⟩ := hh
          rw [hp j ((hck.data i _ ho hiR t htm j hj hjd).1 hjR).2] at hjl; cases hjl
        | const v => rfl
        | global g => rfl
        | func f => rfl
      have fin : ∀ v, RepV ρ (fun b => b < s.nx) (okOf G s.own ρ w) w (lk s.env d) v → wpAny P .any ops Q fuel (listed.setIfInBounds i true) (a.put (some d) v) w := by
        intro v hv
        refine ih _ _ _ ?_ (by omega)
        have hnew : SimR G (fun b => b < s.nx) ρ s (a'.put (some d) v) w := by
          have k1 := hsim.put (dst := some d) (x := lk s.env d) (v := v) (fun d' hd' => by obtain rfl := Option.some.inj hd'; exact hdn) hv
          refine k1.alk ⟨fun t => ?_, fun _ => rfl, rfl⟩
          rw [put_env]
          by_cases ht : some d = some t
          · obtain rfl := Option.some.inj ht
            rw [if_pos rfl]
          rw [if_neg ht]
        refine ⟨by simpa using h.size, hdown', .inr ⟨pre, rest, pd, s, a'.put (some d) v, fun j hj hjR => ?_, fun k hk => by rw [listed_set hlt, h2 k hk]; rfl, h3, h4, fun j hj hjR hjl => ?_, h6, h7, ⟨ρ, hnew⟩, ?_⟩⟩
        · rw [← h1 j hj hjR, listed_set hlt]
          have : (j == i) = false := by
            rw [beq_eq_false_iff_ne]
            intro e; rw [e, hiR] at hjR; cases hjR
          rw [this, Bool.or_false]
        · rw [listed_set hlt] at hjl
          simp only [Bool.or_eq_false_iff] at hjl
          exact h5 j hj hjR hjl.1
        refine ⟨h9.defers, by simp [Act.put, h9.size], fun t ht => ?_⟩
        rw [put_getElem, put_getElem, h9.size]
        split
        · rfl
        rename_i hne
        by_cases htd : t = d
        · subst htd
          have h10 : a'.tmps.size ≤ t := Nat.le_of_not_lt fun h11 => hne ⟨rfl, h11⟩
          rw [Array.getElem?_eq_none (by rw [h9.size]; exact h10), Array.getElem?_eq_none h10]
        refine h9.tmps t fun hh => ht ?_
        obtain ⟨j, hj, hjR, hjl, hjd⟩ := hh
        refine ⟨j, hj, hjR, ?_, hjd⟩
        rw [listed_set hlt, hjl, Bool.false_or, beq_eq_false_iff_ne]
        intro e
        subst e
        rw [hdst] at hjd
        exact htd (Option.some.inj hjd).symm
      unfold wpOp
      simp only [ho]
      unfold PromG at hpe
      split at hpe
      · rename_i hg
        obtain ⟨v, hrun, hv⟩ := hpe G _ ρ _ a w hsimH hagr
        rw [wanted_none hg, if_pos rfl]
        refine .inl (Oper.wp_value hrun ?_)
        rw [hd]; exact fin v hv
      rename_i g want hg
      obtain ⟨t, b, ht, hb, hpe⟩ := hpe
      obtain ⟨hgi, hgp, hgR⟩ := hck.guard i _ g want ho hiR hg
      have hb' : gv (lk (hide s (hid ops ws listed)).env t) = some b := by
        rw [hide_ev _ _ _ ?_]
        · exact hb
        rintro ⟨j, hj, hjR, hjl, hjd⟩
        by_cases hjg : j = g
        · subst hjg; rw [hp j hgp] at hjl; cases hjl
        exact hck.dst j g t hj (by omega) hjg hjd ht
      rw [wanted_of hsimH hg ht hb']
      by_cases hbw : b = some want
      · rw [if_pos hbw] at hpe
        rw [if_pos (by simp [hbw])]
        obtain ⟨v, hrun, hv⟩ := hpe G _ ρ _ a w hsimH hagr
        refine .inl (Oper.wp_value hrun ?_)
        rw [hd]; exact fin v hv
      rw [if_neg hbw] at hpe
      rw [if_neg (by simpa using hbw)]
      rw [hd]
      refine fin undef ?_
      rw [hpe]; exact ⟨#[], rfl, trivial⟩
    have hiW : isR ws i = false := by simpa using hiR
    have hiH : wHas ws i = true := by simpa [isR] using hiW
    -- where it stands among those that write
    have data : ∃ (pre : List Nat) (sub : WL) (pdi : List Nat) (s : St) (a' : Act), (∀ j, j < ops.size → isR ws j = false → (listed.getD j false = true ↔ j ∈ pre)) ∧ (∀ k ∈ pre, listed.getD k false = true) ∧ WOk ops ws pre i pdi sub ∧
        OpS P ops i pdi s (fun s' => OpsG P ops sub s' K) ∧ Sim G s a' w ∧ RU (hid ops ws listed) a a' := by
      rcases h.where_ with ⟨hlR, hsim⟩ | ⟨pre, rest, pd, s, a', h1, h2, h3, h4, h5, h6, h7, h8, h9⟩
      · rcases covers_spec hck.cov his hiH with k | k | ⟨j, hj, hjw, _, hcl⟩
        · cases k
        · obtain ⟨pdi, sub, hop, hwok⟩ := OpsG_next hW hck.w k
          obtain ⟨ρ, hsim⟩ := hsim
          obtain ⟨a', hs', hu2⟩ := ghost (P := P) hck hfz hstep hlR (fun j hj hjR hjl => by
            rcases hwok.all j hj hjR with kd | ⟨k0, hk0, kc⟩
            · obtain ⟨o, _, _, _, hop⟩ := hwok.op
              obtain ⟨oj, d, _, k1, k2, _⟩ := hop j kd
              exact ⟨oj, k1, k2⟩
            have hk0 : k0 = i := by simpa using hk0
            rw [hk0] at kc
            rw [hclos j kc] at hjl; cases hjl) ⟨ρ, hsim⟩ h.down ops.size (Nat.le_refl _)
          refine ⟨[], sub, pdi, allR σ ops es ws, a', fun j hj hjR => ?_, fun k hk => by (cases hk), hwok, hop, ?_, hu2⟩
          · constructor
            · intro k; rw [hlR j k] at hjR; cases hjR
            intro k; cases k
          obtain ⟨ρ', k1⟩ := hs'
          rw [accum_listed (fun j hj _ => by simp [hj])] at k1
          have k2 := k1.mono_dom (dom' := fun b => b < σ.nx + ops.size) (fun b hb => by rcases hb with hb | ⟨j, hj, _, rfl⟩ <;> omega)
          exact ⟨ρ', k2.alk ⟨fun _ => rfl, fun _ => rfl, rfl⟩⟩
        exfalso
        have k2 := hlR j (hclos j hcl)
        simp [isR, hjw] at k2
      rcases covers_spec h4 his hiH with k | k | ⟨j, hj, hjw, hjp, hcl⟩
      · exfalso; rw [h2 i k] at hu'; cases hu'
      · obtain ⟨pdi, sub, hop, hwok⟩ := OpsG_next h6 h3 k
        exact ⟨pre, sub, pdi, s, a', h1, h2, hwok, hop, h8, h9⟩
      exfalso
      exact hjp ((h1 j hj (by simp [isR, hjw])).1 (hclos j hcl))
    obtain ⟨pre, sub, pdi, s, a', h1, hpl, hwok, h6, h8, h9⟩ := data
    obtain ⟨o, ho', hg, hns, hop⟩ := hwok.op
    rw [ho] at ho'
    obtain rfl := Option.some.inj ho'
    obtain ⟨o2, ho2, hdl, hwe⟩ := h6
    rw [ho] at ho2
    obtain rfl := Option.some.inj ho2
    have hpend : ∀ j, j < ops.size → isR ws j = true → listed.getD j false = false → j ∈ pdi := fun j hj hjR hjl => by
      rcases hwok.all j hj hjR with k | ⟨k0, hk0, k⟩
      · exact k
      rcases List.mem_cons.1 hk0 with rfl | hk0
      · rw [hclos j k] at hjl; cases hjl
      rw [closes_listed h.down _ k0 j (h.down k0 (hpl k0 hk0)) k] at hjl; cases hjl
    unfold wpOp
    simp only [ho]
    rw [wanted_none hg, if_pos rfl]
    refine .inl (h9.wp hns (fun t ht hh => ?_) hP ?_ (hwe G a' w h8 Q (fun b' w' => ∃ s', (Promise P ops s' pdi ∧ OpsG P ops sub s' K) ∧ Sim G s' b' w') fun s' b' w' k1 k2 => ⟨s', k1, k2⟩))
    · obtain ⟨j, hj, hjR, hjl, hjd⟩ := hh
      obtain ⟨oj, d, _, k1, _, k2, k3⟩ := hop j (hpend j hj hjR hjl)
      have : dstOf ops j = some d := by unfold dstOf; rw [k1]; exact k2
      rw [this] at hjd
      obtain rfl := Option.some.inj hjd
      exact k3 ht
    rintro b b' w' hru ⟨s', ⟨k1, k2⟩, k3⟩
    refine ih _ _ _ ⟨by simpa using h.size, hdown', .inr ⟨i :: pre, sub, pdi, s', b', fun j hj hjR => ?_, fun k hk => ?_, hwok.sub, hwok.cov, fun j hj hjR hjl => ?_, k2, k1, k3, ⟨hru.defers, hru.size, fun t ht => hru.tmps t fun hh => ht ?_⟩⟩⟩ (by omega)
    · rw [listed_set hlt, Bool.or_eq_true, h1 j hj hjR, List.mem_cons, beq_iff_eq]
      constructor
      · rintro (k | k)
        · exact .inr k
        exact .inl k
      rintro (k | k)
      · exact .inr k
      exact .inl k
    · rw [listed_set hlt, Bool.or_eq_true, beq_iff_eq]
      rcases List.mem_cons.1 hk with hk | hk
      · exact .inr hk
      exact .inl (hpl k hk)
    · rw [listed_set hlt] at hjl
      simp only [Bool.or_eq_false_iff] at hjl
      exact hpend j hj hjR hjl.1
    obtain ⟨j, hj, hjR, hjl, hjd⟩ := hh
    refine ⟨j, hj, hjR, ?_, hjd⟩
    rw [listed_set hlt, hjl, Bool.false_or, beq_eq_false_iff_ne]
    intro e
    rw [e, hiW] at hjR; cases hjR
end
end Go.Eng
/-
  THE ENGINE, PART S: a function's text as a proposition that can be reckoned; and that it says enough.
-/
namespace Go.Eng
open Go
def isNilC : Value → Bool
  | .slice a _ _ => match a with
    | none => true
    | some _ => false
  | _ => false
def isNilO : Operand → Bool
  | .const v => isNilC v
  | _ => false
def isEql : BinOp → Bool
  | .eql => true
  | _ => false
def isWr : Op → Bool
  | .store _ _ _ => true
  | .binOp op _ _ y _ => isEql op && isNilO y
  | .call c => match c.callee with
    | .builtin b => match b with
      | .append => true
      | .cap => true
      | .clear => true
      | _ => false
    | _ => false
  | _ => false
def isCallV : Op → Bool
  | .call c => match c.callee with
    | .value _ => true
    | _ => false
  | _ => false
def orM (A B : Prop) : Prop := A ∨ B
def isLast : Op → Bool
  | .assign _ => true
  | op => isWr op
def isTmp (d : Tmp) : Operand → Bool
  | .tmp t => t == d
  | _ => false
def cvUse (d : Tmp) (o : Op) : Bool :=
  match o with
  | .convert _ _ x => isTmp d x
  | _ => false
def frozenUse (d : Option Tmp) (os : List Oper) : Bool :=
  match d with
  | none => false
  | some d => os.any fun o => cvUse d o.op || match o.op with
    | .call c => match c.callee with
      | .value _ => c.args.toList.any (isTmp d)
      | _ => false
    | .build _ ps => ps.toList.any fun p => isTmp d p.2
    | .buildSlice _ _ ps => ps.toList.any fun p => isTmp d p.2
    | _ => false
def uG (i : Nat) (os : List Oper) : Bool := os.any fun o => match o.guard with
  | some (g, _) => g == i
  | none => false
def wCap (T : Tab) (s : St) (dst : Option Tmp) (t : TypeId) (x : Operand) (K : St → Prop) : Prop :=
  match T t with
  | some E => match E.k with
    | .sl _ => match s.ev x with
      | .one c => match lenC c with
        | some n => ∀ m : Nat, n ≤ m → (c = .nil → m = 0) → Later K (s.put dst (.one (.int .i64 m)))
        | none => False
      | _ => False
    | _ => False
  | none => False
def slT (T : Tab) (t : TypeId) : Prop :=
  match T t with
  | some S => (match S.k with
    | .sl _ => True
    | _ => False)
  | none => False
theorem slT_ok {T : Tab} {P : Program} (hT : TabOk P T) {t : TypeId} (h : slT T t) : ∃ e, P.underlying t = some (.slice e) := by
  unfold slT at h
  cases hTt : T t with
  | none => rw [hTt] at h; exact h.elim
  | some S =>
    rw [hTt] at h
    simp only at h
    split at h
    · rename_i e hk
      exact ⟨e, T_slice hT hTt hk⟩
    exact h.elim
def wNil (T : Tab) (s : St) (dst : Option Tmp) (t : TypeId) (x : Operand) (K : St → Prop) : Prop :=
  match T t with
  | some E => match E.k with
    | .sl _ => match s.ev x with
      | .one c => match lenC c with
        | some n => ∀ b : Bool, (0 < n → b = false) → Later K (s.put dst (.one (.bool b)))
        | none => False
      | _ => False
    | _ => False
  | none => False
def wOp (T : Tab) (op : Op) (dst : Option Tmp) (s : St) (K : St → Prop) : Prop :=
  match op with
  | .store t x y => dst = none ∧ wStore T s t x y K
  | .binOp op t x y _ => isEql op = true ∧ isNilO y = true ∧ wNil T s dst t x K
  | .call c => match c.callee with
    | .builtin b => match b, c.args.toList, c.argTypes.toList with
      | .append, [x, y], [t, t'] => slT T t' ∧ wAppend T s dst t x y K
      | .cap, [x], [t] => wCap T s dst t x K
      | .clear, [x], [t] => wClear T s dst t x K
      | _, _, _ => False
    | _ => False
  | _ => False
def gsplit (u : Bool) (e : Eff) (K : Eff → Prop) : Prop :=
  if u then (match e.val with
    | .one (.bool b) => (b = true → Later K ⟨.one (.bool true), e.blk, e.fz⟩) ∧ (b = false → Later K ⟨.one (.bool false), e.blk, e.fz⟩)
    | _ => False)
  else K e
def after (s : St) (dst : Option Tmp) (e : Eff) : St := { s.add dst s.nx e with nx := s.nx + 1 }
def gset (u : Bool) (i : Nat) (dst : Option Tmp) (gd : List (Nat × Tmp)) : List (Nat × Tmp) :=
  if u then (match dst with
    | some d => (i, d) :: gd
    | none => gd) else gd
def glook : List (Nat × Tmp) → Nat → Option Tmp
  | [], _ => none
  | (i', t) :: r, i => if i = i' then some t else glook r i
def guarded (s : St) (gd : List (Nat × Tmp)) (g : Option (Nat × Bool)) (A B : Prop) : Prop :=
  match g with
  | none => A
  | some (g, want) => match glook gd g with
    | some t => match gv (lk s.env t) with
      | some b => if b = some want then A else B
      | none => False
    | none => False
def dstB (dst : Option Tmp) (n : Nat) : Prop :=
  match dst with
  | none => True
  | some d => d < n
def fzB (nx0 : Nat) : List Nat → Prop
  | [] => True
  | b :: r => b < nx0 ∧ fzB nx0 r
def vcW (T : Tab) (P : Program) : Nat → List Oper → List (Nat × Tmp) → St → (St → Prop) → Prop
  | _, [], _, s, K => K s
  | i, o :: os, gd, s, K =>
    dstB o.dst s.n ∧ guarded s gd o.guard
      (if isWr o.op then wOp T o.op o.dst s (fun s' => vcW T P (i + 1) os gd s' K)
       else if isCallV o.op then orM (rOp T P o.op s s.nx s.nx (frozenUse o.dst os) (fun e => gsplit (uG i os) e fun e' => vcW T P (i + 1) os (gset (uG i os) i o.dst gd) (after s o.dst e') K)) (mCall P o.op o.dst s (fun s' => vcW T P (i + 1) os gd s' K))
       else rOp T P o.op s s.nx s.nx (frozenUse o.dst os) (fun e => gsplit (uG i os) e fun e' => vcW T P (i + 1) os (gset (uG i os) i o.dst gd) (after s o.dst e') K))
      (vcW T P (i + 1) os (gset (uG i os) i o.dst gd) (s.put o.dst (.tup [])) K)
def vcR (T : Tab) (P : Program) (nx0 len : Nat) : Nat → List Oper → List (Nat × Tmp) → St → (St → Prop) → Prop
  | _, [], _, s, K => K { s with nx := nx0 + len }
  | i, o :: os, gd, s, K =>
    if isLast o.op then vcW T P i (o :: os) gd { s with nx := nx0 + len } K
    else dstB o.dst s.n ∧ guarded s gd o.guard
      (if isCallV o.op then orM (rOp T P o.op s nx0 (nx0 + i) (frozenUse o.dst os) (fun e => fzB nx0 e.fz ∧ gsplit (uG i os) e fun e' => vcR T P nx0 len (i + 1) os (gset (uG i os) i o.dst gd) (s.add o.dst (nx0 + i) e') K)) False else rOp T P o.op s nx0 (nx0 + i) (frozenUse o.dst os) (fun e => fzB nx0 e.fz ∧ gsplit (uG i os) e fun e' => vcR T P nx0 len (i + 1) os (gset (uG i os) i o.dst gd) (s.add o.dst (nx0 + i) e') K))
      (vcR T P nx0 len (i + 1) os (gset (uG i os) i o.dst gd) (s.put o.dst (.tup [])) K)
def vcGR (T : Tab) (P : Program) (nx0 len : Nat) (ws : WL) : Nat → List Oper → List (Nat × Tmp) → St → (St → Prop) → Prop
  | _, [], _, s, K => K { s with nx := nx0 + len }
  | i, o :: os, gd, s, K =>
    if wHas ws i then vcGR T P nx0 len ws (i + 1) os gd s K
    else dstB o.dst s.n ∧ guarded s gd o.guard
      (if isCallV o.op then orM (rOp T P o.op s nx0 (nx0 + i) (frozenUse o.dst os) (fun e => fzB nx0 e.fz ∧ gsplit (uG i os) e fun e' => vcGR T P nx0 len ws (i + 1) os (gset (uG i os) i o.dst gd) (s.add o.dst (nx0 + i) e') K)) False else rOp T P o.op s nx0 (nx0 + i) (frozenUse o.dst os) (fun e => fzB nx0 e.fz ∧ gsplit (uG i os) e fun e' => vcGR T P nx0 len ws (i + 1) os (gset (uG i os) i o.dst gd) (s.add o.dst (nx0 + i) e') K))
      (vcGR T P nx0 len ws (i + 1) os (gset (uG i os) i o.dst gd) (s.put o.dst (.tup [])) K)
def promO (T : Tab) (P : Program) (os : List Oper) (o : Oper) (d : Nat) (s : St) : Prop := match o.guard with
  | none => rOp T P o.op s s.nx s.nx false (fun e => e.val = lk s.env d)
  | some (g, want) => match (os[g]?).bind (·.dst) with
    | some t => match gv (lk s.env t) with
      | some b => if b = some want then rOp T P o.op s s.nx s.nx false (fun e => e.val = lk s.env d) else lk s.env d = .tup []
      | none => False
    | none => False
def prom (T : Tab) (P : Program) (os : List Oper) : List Nat → St → Prop
  | [], _ => True
  | j :: r, s => (match os[j]? with
    | some o => match o.dst with
      | some d => d < s.n ∧ promO T P os o d s
      | none => False
    | none => False) ∧ prom T P os r s
def wAny (T : Tab) (P : Program) (o : Oper) (os : List Oper) (s : St) (K : St → Prop) : Prop :=
  if isWr o.op then wOp T o.op o.dst s K
  else if isCallV o.op then orM (rOp T P o.op s s.nx s.nx (frozenUse o.dst os) (fun e => K (after s o.dst e))) (mCall P o.op o.dst s K)
  else rOp T P o.op s s.nx s.nx (frozenUse o.dst os) (fun e => K (after s o.dst e))
def vcGS (T : Tab) (P : Program) (os : List Oper) (i : Nat) (pd : List Nat) (s : St) (K : St → Prop) : Prop := match os[i]? with
    | some o => dstB o.dst s.n ∧ wAny T P o os s (fun s' => prom T P os pd s' ∧ K s')
    | none => False
def vcGW (T : Tab) (P : Program) (os : List Oper) : WL → St → (St → Prop) → Prop
  | .nil, s, K => K s
  | .cons i pd sub .nil, s, K => vcGS T P os i pd s (fun s' => vcGW T P os sub s' K)
  | .cons i pd sub (.cons i' pd' sub' alt'), s, K => vcGS T P os i pd s (fun s' => vcGW T P os sub s' K) ∧ vcGW T P os (.cons i' pd' sub' alt') s K
structure Kp where
  ks : List Nat
  ms : List (Nat × WL)
def modeOf : List (Nat × WL) → Nat → Option WL
  | [], _ => none
  | (i, ws) :: r, id => if id = i then some ws else modeOf r id
def gc (keep : List Nat) (s : St) : St := { s with env := keep.map fun t => (t, lk s.env t) }
def vcDraw (T : Tab) (P : Program) (m : Option WL) (os : List Oper) (s : St) (K : St → Prop) : Prop :=
  match m with
  | none => vcR T P s.nx os.length 0 os [] s K
  | some ws => vcGR T P s.nx os.length ws 0 os [] s (fun s' => vcGW T P os ws s' K)
def vcRegion (T : Tab) (P : Program) (ms : List (Nat × WL)) (id : Nat) (draw : Bool) (os : List Oper) (s : St) (K : St → Prop) : Prop :=
  if draw then vcDraw T P (modeOf ms id) os s K else vcW T P 0 os [] s K
def Sub (s s' : St) : Prop := ∀ G a w, Sim G s a w → Sim G s' a w
def vc (T : Tab) (P : Program) (keep : Kp) : Code → St → (Exit → St → Prop) → Prop
  | .skip, s, Q => Q .normal s
  | .region id ops draw, s, Q => vcRegion T P keep.ms id draw ops.toList s (fun s' => Q .normal (gc keep.ks s'))
  | .seq a b, s, Q => vc T P keep a s (fun e s' => match e with
    | .normal => vc T P keep b s' Q
    | e => Q e s')
  | .cond c a b, s, Q => match s.ev c with
    | .one (.bool t) => (t = true → Later (fun s => vc T P keep a s Q) s) ∧ (t = false → Later (fun s => vc T P keep b s Q) s)
    | _ => False
  | .block id c, s, Q => vc T P keep c s (fun e s' => match e with
    | .exit id' => if id' = id then Q .normal s' else Q (.exit id') s'
    | e => Q e s')
  | .loop c, s, Q => ∃ (ι : Type) (I : ι → St) (m : ι → Nat) (x0 : ι), Sub s (I x0) ∧ ∀ x, Later (fun s => vc T P keep c s (fun e s' => match e with
    | .normal => ∃ y, Sub s' (I y) ∧ m y < m x
    | e => Q e s')) (I x)
  | .exit id, s, Q => Q (.exit id) s
  | .ret, s, Q => Q .ret s
  | _, _, _ => False
theorem OpW.mono {P : Program} {ops : Array Oper} {o : Oper} {s : St} {K K' : St → Prop} (h : OpW P ops o s K) (hk : ∀ s', K s' → K' s') : OpW P ops o s K' := by
  unfold OpW at *
  have hw : WEff P o s K → WEff P o s K' := fun h G a w hs Q next hn => h G a w hs Q next (fun s' a' w' h1 h2 => hn s' a' w' (hk s' h1) h2)
  split at h
  · exact hw h
  obtain ⟨t, b, h1, h2, h3, h4⟩ := h
  exact ⟨t, b, h1, h2, fun e => hw (h3 e), fun e => hk _ (h4 e)⟩
def GdOk (ops : Array Oper) (gd : List (Nat × Tmp)) : Prop := ∀ g t, glook gd g = some t → dstOf ops g = some t
theorem GdOk.set {ops : Array Oper} {gd : List (Nat × Tmp)} (h : GdOk ops gd) {i : Nat} {o : Oper} (ho : ops[i]? = some o) (u : Bool) : GdOk ops (gset u i o.dst gd) := by
  unfold gset
  split
  · cases hd : o.dst with
    | none => exact h
    | some d =>
      intro g t hg
      simp only [glook] at hg
      split at hg
      · rename_i hgi
        subst hgi
        simp only [Option.some.injEq] at hg
        subst hg
        unfold dstOf
        rw [ho]; exact hd
      exact h g t hg
  exact h
theorem gsplit_use {u : Bool} {e : Eff} {K : Eff → Prop} (h : gsplit u e K) : K e := by
  unfold gsplit at h
  split at h
  · split at h
    · rename_i b hb
      obtain ⟨v, bl, fz⟩ := e
      simp only at hb
      subst hb
      cases b
      · exact h.2 rfl
      exact h.1 rfl
    exact h.elim
  exact h
section
variable {T : Tab} {P : Program} (hT : TabOk P T)
include hT
theorem sCap {o : Oper} {s : St} {K : St → Prop} {c : Call} (ho : o.op = .call c) (hcal : c.callee = .builtin .cap) {x : Operand} (hargs : c.args = #[x]) {t : TypeId} (htys : c.argTypes = #[t]) (hdn : dstLt o s.n) (h : wCap T s o.dst t x K) : WEff P o s K := by
  unfold wCap at h
  cases hTt : T t with
  | none => rw [hTt] at h; exact h.elim
  | some E =>
    rw [hTt] at h
    simp only at h
    split at h
    · rename_i e hEk
      have hu := T_slice hT hTt hEk
      split at h
      · rename_i cc hx
        split at h
        · rename_i n hl
          intro G a w hsim Q next hk
          obtain ⟨ρ, hs⟩ := hsim
          have hev := hs.ev x
          rw [hx] at hev
          obtain ⟨ad, cap, hv, hc, hn⟩ := lenC_is hl hev
          have hr : (execOp a.eval o).run P w = .ok (.value (.int .i64 cap)) w := by
            unfold execOp
            rw [ho]
            simp only [resolve,hcal,Sem.run_bind,Sem.run_pure,Result.andThen_ok,invoke,Go.builtin,hargs,htys]
            simp only [Builtin.cap_,hv,List.map_toArray,List.map_cons,List.map_nil,List.getElem?_toArray,List.getElem?_cons_zero,Sem.run_bind,run_underlying' hu,Result.andThen_ok,Sem.run_pure]
            rfl
          refine Oper.wp_value hr (hk _ _ _ (h cap hc hn) ⟨ρ, ?_⟩)
          have h1 := hs.put (dst := o.dst) (x := .one (.int .i64 cap)) (v := .int .i64 cap) hdn rfl
          cases hd : o.dst with
          | none => rw [hd] at h1; exact h1
          | some d => rw [hd] at h1; exact h1
        exact h.elim
      exact h.elim
    exact h.elim
omit hT in
theorem lenC_addr {ρ : Nat → Loc} {dom ok : Nat → Prop} {w : World} {c : C} {n : Nat} {v : Value} (hl : lenC c = some n) (h : RepC ρ dom ok w c v) : ∃ a cap, v = .slice a n cap ∧ (0 < n → ∃ ad, a = some ad) := by
  cases c with
  | own b wd off len =>
    simp only [lenC,Option.some.injEq] at hl
    subst hl
    obtain ⟨_, _, cap, _, hr⟩ := h
    rcases hr with ⟨g, o1, o2, _, hv, _⟩ | ⟨_, hv, h0, _⟩
    · exact ⟨_, _, hv, fun _ => ⟨_, rfl⟩⟩
    exact ⟨none, 0, by rw [hv, h0], fun hp => by omega⟩
  | ints k xs =>
    simp only [lenC,Option.some.injEq] at hl
    subst hl
    obtain ⟨a, cap, hv, _, hr⟩ := h
    rcases hr with hr | ⟨g, o, ha, _⟩
    · exact ⟨a, cap, hv, fun hp => by omega⟩
    exact ⟨a, cap, hv, fun _ => ⟨_, ha⟩⟩
  | rows wd m f =>
    simp only [lenC,Option.some.injEq] at hl
    subst hl
    obtain ⟨a, cap, hv, _, hr⟩ := h
    rcases hr with hr | ⟨g, o, ha, _⟩
    · exact ⟨a, cap, hv, fun hp => by omega⟩
    exact ⟨a, cap, hv, fun _ => ⟨_, ha⟩⟩
  | nil =>
    simp only [lenC,Option.some.injEq] at hl
    subst hl
    exact ⟨none, 0, h, fun hp => by omega⟩
  | any => simp [lenC] at hl
  | bool b => simp [lenC] at hl
  | int k n => simp [lenC] at hl
  | str b => simp [lenC] at hl
  | ptr b off => simp [lenC] at hl
  | eptr b wd i off => simp [lenC] at hl
  | elt c wd i off => simp [lenC] at hl
  | fn f n caps => simp [lenC] at hl
omit hT in
theorem run_equalIn_nil (w : World) (d : Nat) {t e : TypeId} (hu : P.underlying t = some (.slice e)) (ad : Option Addr) (n cap l c0 : Nat) : (Op.equalIn (d + 1) t (.slice ad n cap) (.slice none l c0)).run P w = .ok ad.isNone w := by
  cases ad <;> simp only [Op.equalIn,Sem.run_bind,run_underlying' hu,Result.andThen_ok,Sem.run_pure,Option.isNone]
theorem sNil {o : Oper} {s : St} {K : St → Prop} {op : BinOp} {t t' : TypeId} {x y : Operand} (ho : o.op = .binOp op t x y t') (hop : isEql op = true) (hy : isNilO y = true) (hdn : dstLt o s.n) (h : wNil T s o.dst t x K) : WEff P o s K := by
  have hop : op = .eql := by cases op <;> simp [isEql] at hop ⊢
  subst hop
  have hyv : ∃ l c, y = .const (.slice none l c) := by
    cases y <;> simp [isNilO] at hy
    rename_i v
    cases v <;> simp [isNilC] at hy
    rename_i a l c
    cases a <;> simp at hy
    exact ⟨l, c, rfl⟩
  obtain ⟨l, c0, rfl⟩ := hyv
  unfold wNil at h
  cases hTt : T t with
  | none => rw [hTt] at h; exact h.elim
  | some E =>
    rw [hTt] at h
    simp only at h
    split at h
    · rename_i e hEk
      have hu := T_slice hT hTt hEk
      split at h
      · rename_i cc hx
        split at h
        · rename_i n hl
          intro G a w hsim Q next hk
          obtain ⟨ρ, hs⟩ := hsim
          have hev := hs.ev x
          rw [hx] at hev
          obtain ⟨ad, cap, hv, hn⟩ := lenC_addr hl hev
          have hr : (execOp a.eval o).run P w = .ok (.value (.bool ad.isNone)) w := by
            unfold execOp
            rw [ho]
            refine run_v ?_
            have hce : a.eval (.const (.slice none l c0)) = .slice none l c0 := rfl
            rw [hv, hce]
            have hg : (eqGuard .eql t x (.const (.slice none l c0)) (.slice ad n cap) (.slice none l c0)).run P w = .ok () w := by
              unfold eqGuard
              rfl
            have he : (Op.equal t (.slice ad n cap) (.slice none l c0)).run P w = .ok ad.isNone w := by
              exact run_equalIn_nil w 9999 hu ad n cap l c0
            rw [Sem.run_bind, hg, Result.andThen_ok]
            simp only [Go.binOp,Sem.run_bind,he,Result.andThen_ok,Sem.run_pure]
          refine Oper.wp_value hr (hk _ _ _ (h ad.isNone (fun hp => by obtain ⟨x, rfl⟩ := hn hp; rfl)) ⟨ρ, ?_⟩)
          have h1 := hs.put (dst := o.dst) (x := .one (.bool ad.isNone)) (v := .bool ad.isNone) hdn rfl
          cases hd : o.dst with
          | none => rw [hd] at h1; exact h1
          | some d => rw [hd] at h1; exact h1
        exact h.elim
      exact h.elim
    exact h.elim
theorem wOp_sound {o : Oper} {s : St} {K : St → Prop} (hdn : dstLt o s.n) (h : wOp T o.op o.dst s K) : WEff P o s K := by
  unfold wOp at h
  split at h
  · rename_i t x y ho
    exact sStore hT ho h.1 h.2
  · rename_i op t x y t' ho
    exact sNil hT ho h.1 h.2.1 hdn h.2.2
  · rename_i c ho
    split at h
    · rename_i b hb
      split at h
      · rename_i x y t t' hb2 hargs htys
        obtain ⟨hsl, h⟩ := h
        obtain ⟨e', he'⟩ := slT_ok hT hsl
        exact sAppend hT ho hb (Array.toList_inj.1 hargs) (Array.toList_inj.1 htys) he' hdn h
      · rename_i x t hb2 hargs htys
        exact sCap hT ho hb (Array.toList_inj.1 hargs) (Array.toList_inj.1 htys) hdn h
      · rename_i x t hb2 hargs htys
        exact sClear hT ho hb (Array.toList_inj.1 hargs) (Array.toList_inj.1 htys) hdn h
      exact h.elim
    exact h.elim
  exact h.elim
omit hT in
theorem dstB_lt {o : Oper} {n : Nat} (h : dstB o.dst n) : dstLt o n := fun d hd => by rw [hd] at h; exact h
theorem vcW_sound {ops : Array Oper} : ∀ (os : List Oper) (i : Nat) (gd : List (Nat × Tmp)) (s : St) (K : St → Prop), ops.toList.drop i = os → GdOk ops gd → vcW T P i os gd s K → OpsW P ops os s K
  | [], _, _, _, _, _, _, h => h
  | o :: os, i, gd, s, K, hdrop, hgd, h => by
    simp only [vcW] at h
    obtain ⟨hd, h⟩ := h
    have hdl := dstB_lt hd
    have ho : ops[i]? = some o := by
      have : (ops.toList.drop i)[0]? = some o := by rw [hdrop]; rfl
      rw [List.getElem?_drop] at this
      simpa using this
    have hdrop' : ops.toList.drop (i + 1) = os := by
      rw [← List.drop_drop, hdrop]; rfl
    have taken : (if isWr o.op then wOp T o.op o.dst s (fun s' => vcW T P (i + 1) os gd s' K)
       else if isCallV o.op then orM (rOp T P o.op s s.nx s.nx (frozenUse o.dst os) (fun e => gsplit (uG i os) e fun e' => vcW T P (i + 1) os (gset (uG i os) i o.dst gd) (after s o.dst e') K)) (mCall P o.op o.dst s (fun s' => vcW T P (i + 1) os gd s' K))
       else rOp T P o.op s s.nx s.nx (frozenUse o.dst os) (fun e => gsplit (uG i os) e fun e' => vcW T P (i + 1) os (gset (uG i os) i o.dst gd) (after s o.dst e') K)) → WEff P o s (fun s' => OpsW P ops os s' K) := by
      intro h
      split at h
      · have := wOp_sound hT hdl h
        intro G a w hs Q next hn
        exact this G a w hs Q next (fun s' a' w' h1 h2 => hn s' a' w' (vcW_sound os (i + 1) gd s' K hdrop' hgd h1) h2)
      split at h
      · rcases h with h | h
        · obtain ⟨e, hK, hre⟩ := rOp_sound hT hdl h
          exact hre.toW (vcW_sound os (i + 1) _ _ K hdrop' (hgd.set ho _) (gsplit_use hK))
        have := sMCall hdl h
        intro G a w hs Q next hn
        exact this G a w hs Q next (fun s' a' w' h1 h2 => hn s' a' w' (vcW_sound os (i + 1) gd s' K hdrop' hgd h1) h2)
      obtain ⟨e, hK, hre⟩ := rOp_sound hT hdl h
      exact hre.toW (vcW_sound os (i + 1) _ _ K hdrop' (hgd.set ho _) (gsplit_use hK))
    refine ⟨hdl, ?_⟩
    unfold OpW
    unfold guarded at h
    cases hg : o.guard with
    | none => rw [hg] at h; exact taken h
    | some gw =>
      obtain ⟨g, want⟩ := gw
      rw [hg] at h
      simp only at h
      cases hgl : glook gd g with
      | none => rw [hgl] at h; exact h.elim
      | some t =>
        rw [hgl] at h
        simp only at h
        split at h
        · rename_i b hb
          refine ⟨t, b, hgd g t hgl, hb, fun e => ?_, fun e => ?_⟩
          · rw [if_pos e] at h; exact taken h
          rw [if_neg e] at h; exact vcW_sound os (i + 1) _ _ K hdrop' (hgd.set ho _) h
        exact h.elim
theorem wAny_sound {o : Oper} {os : List Oper} {s : St} {K : St → Prop} (hd : dstLt o s.n) (h : wAny T P o os s K) : WEff P o s K := by
  unfold wAny at h
  split at h
  · exact wOp_sound hT hd h
  split at h
  · rcases h with h | h
    · obtain ⟨e, hK, hre⟩ := rOp_sound hT hd h
      exact hre.toW hK
    exact sMCall hd h
  obtain ⟨e, hK, hre⟩ := rOp_sound hT hd h
  exact hre.toW hK
theorem prom_sound {ops : Array Oper} {s : St} : ∀ (pd : List Nat), (∀ j ∈ pd, ∃ o, ops[j]? = some o ∧ isLate o.op = true) → prom T P ops.toList pd s → Promise P ops s pd
  | [], _, _ => fun j hj => by cases hj
  | i :: r, hl, h => by
    simp only [prom] at h
    obtain ⟨h1, h2⟩ := h
    intro j hj
    rcases List.mem_cons.1 hj with rfl | hj
    · obtain ⟨o, ho, hlate⟩ := hl j (by simp)
      rw [Array.getElem?_toList, ho] at h1
      simp only at h1
      cases hd : o.dst with
      | none => rw [hd] at h1; exact h1.elim
      | some d =>
        rw [hd] at h1
        obtain ⟨hdn, h1⟩ := h1
        have doit : rOp T P o.op s s.nx s.nx false (fun e => e.val = lk s.env d) → PEff P o s s.nx (lk s.env d) := fun h1 => by
          obtain ⟨e, he, hre⟩ := rOp_sound hT (fun d' hd' => by rw [hd] at hd'; obtain rfl := Option.some.inj hd'; exact hdn) h1
          have he : e.val = lk s.env d := he
          rw [← he]; exact (hre.2 hlate).2.2
        refine ⟨o, d, ho, hd, ?_, hdn⟩
        unfold promO at h1
        unfold PromG
        split at h1
        · rename_i hg; (try rw [hg]); exact doit h1
        rename_i g want hg
        try rw [hg]
        split at h1
        · rename_i t ht
          split at h1
          · rename_i b hb
            refine ⟨t, b, ?_, hb, ?_⟩
            · unfold dstOf; rw [← Array.getElem?_toList]; exact ht
            split at h1
            · rename_i hbw; rw [if_pos hbw]; exact doit h1
            rename_i hbw; rw [if_neg hbw]; exact h1
          exact h1.elim
        exact h1.elim
    exact prom_sound r (fun j hj => hl j (by simp [hj])) h2 j hj
theorem vcGS_sound {ops : Array Oper} {ws : WL} {pre : List Nat} {i : Nat} {pd : List Nat} {sub : WL} {s : St} {K K' : St → Prop} (h1 : WOk ops ws pre i pd sub) (h : vcGS T P ops.toList i pd s K) (hK : ∀ s', K s' → K' s') : OpS P ops i pd s K' := by
  simp only [vcGS,Array.getElem?_toList] at h
  obtain ⟨o, ho, _, _, hop⟩ := h1.op
  rw [ho] at h
  obtain ⟨hd, h⟩ := h
  have hdl : dstLt o s.n := dstB_lt hd
  refine ⟨o, ho, hdl, fun G a w hs Q next hk => wAny_sound hT hdl h G a w hs Q next fun s' a' w' k1 k2 => hk s' a' w' ⟨?_, hK _ k1.2⟩ k2⟩
  exact prom_sound hT pd (fun j hj => by obtain ⟨oj, d, _, k1, k2, _⟩ := hop j hj; exact ⟨oj, k1, k2⟩) k1.1
theorem vcGW_sound {ops : Array Oper} {ws : WL} : ∀ (t : WL) (pre : List Nat) (s : St) (K : St → Prop), gOkW ops ws pre t = true → vcGW T P ops.toList t s K → OpsG P ops t s K
  | .nil, _, _, _, _, h => h
  | .cons i pd sub .nil, pre, s, K, hg, h => by
    obtain ⟨h1, _⟩ := gOkW_cons hg
    rw [vcGW] at h
    rw [OpsG]
    exact vcGS_sound hT h1 h fun s' k => vcGW_sound sub (i :: pre) s' K h1.sub k
  | .cons i pd sub (.cons i' pd' sub' alt'), pre, s, K, hg, h => by
    obtain ⟨h1, h2⟩ := gOkW_cons hg
    rw [vcGW] at h
    rw [OpsG]
    exact ⟨vcGS_sound hT h1 h.1 fun s' k => vcGW_sound sub (i :: pre) s' K h1.sub k, vcGW_sound (.cons i' pd' sub' alt') pre s K h2 h.2⟩
def LaidG (P : Program) (ops : Array Oper) (ws : WL) (σ : St) (es : Nat → Eff) (k : Nat) : Prop :=
  (∀ j, ∀ b ∈ (es j).fz, b < σ.nx) ∧ ∀ (j : Nat) o, j < k → isR ws j = true → ops[j]? = some o → stepOk P ops σ.nx j o (accum σ σ.nx ops es (isR ws) j) (es j)
def nRof (os : List Oper) : Nat := (os.takeWhile fun o => !isLast o.op).length
omit hT in
theorem fzB_lt {nx0 : Nat} : ∀ {l : List Nat}, fzB nx0 l → ∀ b ∈ l, b < nx0
  | [], _, b, hb => by simp at hb
  | x :: r, h, b, hb => by
    rcases List.mem_cons.1 hb with rfl | hb
    · exact h.1
    exact fzB_lt h.2 b hb
omit hT in
theorem accum_es {σ : St} {nx0 : Nat} {ops : Array Oper} {e e' : Nat → Eff} {L : Nat → Bool} : ∀ k, (∀ j, j < k → e j = e' j) → accum σ nx0 ops e L k = accum σ nx0 ops e' L k := by
  intro k
  induction k with
  | zero => intro _; rfl
  | succ k ih => intro h; simp only [accum,ih (fun j hj => h j (by omega)),h k (by omega)]
def Laid (P : Program) (ops : Array Oper) (σ : St) (es : Nat → Eff) (k : Nat) : Prop :=
  (∀ j, ∀ b ∈ (es j).fz, b < σ.nx) ∧ ∀ (j : Nat) o, j < k → ops[j]? = some o → stepOk P ops σ.nx j o (accum σ σ.nx ops es (fun _ => true) j) (es j)
theorem vcR_sound {ops : Array Oper} {σ : St} : ∀ (os : List Oper) (i : Nat) (gd : List (Nat × Tmp)) (s : St) (K : St → Prop) (es : Nat → Eff), ops.toList.drop i = os → GdOk ops gd → s = accum σ σ.nx ops es (fun _ => true) i →
    Laid P ops σ es i → vcR T P σ.nx ops.size i os gd s K →
    ∃ es', Laid P ops σ es' (i + nRof os) ∧ OpsW P ops (ops.toList.drop (i + nRof os)) { accum σ σ.nx ops es' (fun _ => true) (i + nRof os) with nx := σ.nx + ops.size } K
  | [], i, gd, s, K, es, hdrop, hgd, hs, hl, h => by
    refine ⟨es, hl, ?_⟩
    simp only [nRof,List.takeWhile_nil,List.length_nil,Nat.add_zero,hdrop]
    rw [← hs]; exact h
  | o :: os, i, gd, s, K, es, hdrop, hgd, hs, hl, h => by
    simp only [vcR] at h
    have ho : ops[i]? = some o := by
      have : (ops.toList.drop i)[0]? = some o := by rw [hdrop]; rfl
      rw [List.getElem?_drop] at this
      simpa using this
    have hdrop' : ops.toList.drop (i + 1) = os := by
      rw [← List.drop_drop, hdrop]; rfl
    by_cases hlast : isLast o.op = true
    · rw [if_pos hlast] at h
      have hn : nRof (o :: os) = 0 := by simp [nRof, List.takeWhile_cons, hlast]
      rw [hn, Nat.add_zero, hdrop]
      refine ⟨es, hl, ?_⟩
      have := vcW_sound hT (ops := ops) (o :: os) i gd _ K hdrop hgd h
      rw [hs] at this; exact this
    rw [if_neg hlast] at h
    obtain ⟨hd, h⟩ := h
    have hdl := dstB_lt hd
    have hn : nRof (o :: os) = nRof os + 1 := by simp [nRof, List.takeWhile_cons, hlast]
    rw [hn, show i + (nRof os + 1) = i + 1 + nRof os by omega]
    -- one more laid down
    have more : ∀ (e : Eff) (gd' : List (Nat × Tmp)), GdOk ops gd' → (∀ b ∈ e.fz, b < σ.nx) → stepOk P ops σ.nx i o s e → vcR T P σ.nx ops.size (i + 1) os gd' (s.add o.dst (σ.nx + i) e) K →
        ∃ es', Laid P ops σ es' (i + 1 + nRof os) ∧ OpsW P ops (ops.toList.drop (i + 1 + nRof os)) { accum σ σ.nx ops es' (fun _ => true) (i + 1 + nRof os) with nx := σ.nx + ops.size } K := by
      intro e gd' hgd' hfz hst hv
      have hsame : ∀ j, j < i → es j = (fun j => if j = i then e else es j) j := fun j hj => by simp only; rw [if_neg (by omega)]
      have hacc : ∀ j, j ≤ i → accum σ σ.nx ops (fun j => if j = i then e else es j) (fun _ => true) j = accum σ σ.nx ops es (fun _ => true) j := fun j hj => (accum_es j (fun m hm => hsame m (by omega))).symm
      refine vcR_sound os (i + 1) gd' (s.add o.dst (σ.nx + i) e) K (fun j => if j = i then e else es j) hdrop' hgd' ?_ ⟨fun j b hb => ?_, fun j o' hj ho' => ?_⟩ hv
      · simp only [accum,if_true]
        rw [hacc i (Nat.le_refl _), ← hs]
        have : dstOf ops i = o.dst := by unfold dstOf; rw [ho]; rfl
        rw [this]
      · simp only at hb
        split at hb
        · exact hfz b hb
        exact hl.1 j b hb
      rw [hacc j (by omega)]
      by_cases hji : j = i
      · subst hji
        rw [ho] at ho'
        obtain rfl := Option.some.inj ho'
        simp only [if_true]
        rw [← hs]; exact hst
      simp only [hji,if_false]
      exact hl.2 j o' (by omega) ho'
    have taken : (if isCallV o.op then orM (rOp T P o.op s σ.nx (σ.nx + i) (frozenUse o.dst os) (fun e => fzB σ.nx e.fz ∧ gsplit (uG i os) e fun e' => vcR T P σ.nx ops.size (i + 1) os (gset (uG i os) i o.dst gd) (s.add o.dst (σ.nx + i) e') K)) False else rOp T P o.op s σ.nx (σ.nx + i) (frozenUse o.dst os) (fun e => fzB σ.nx e.fz ∧ gsplit (uG i os) e fun e' => vcR T P σ.nx ops.size (i + 1) os (gset (uG i os) i o.dst gd) (s.add o.dst (σ.nx + i) e') K)) →
        ∃ e, REff P o s σ.nx (σ.nx + i) e ∧ (∀ b ∈ e.fz, b < σ.nx) ∧ vcR T P σ.nx ops.size (i + 1) os (gset (uG i os) i o.dst gd) (s.add o.dst (σ.nx + i) e) K := by
      intro h
      have h : rOp T P o.op s σ.nx (σ.nx + i) (frozenUse o.dst os) (fun e => fzB σ.nx e.fz ∧ gsplit (uG i os) e fun e' => vcR T P σ.nx ops.size (i + 1) os (gset (uG i os) i o.dst gd) (s.add o.dst (σ.nx + i) e') K) := by
        split at h
        · rcases h with h | h
          · exact h
          exact h.elim
        exact h
      obtain ⟨e, hK, hre⟩ := rOp_sound hT hdl h
      exact ⟨e, hre, fzB_lt hK.1, gsplit_use hK.2⟩
    unfold guarded at h
    cases hg : o.guard with
    | none =>
      rw [hg] at h
      obtain ⟨e, hre, hfz, hv⟩ := taken h
      exact more e _ (hgd.set ho _) hfz ⟨hdl, by rw [hg]; exact hre⟩ hv
    | some gw =>
      obtain ⟨g, want⟩ := gw
      rw [hg] at h
      simp only at h
      cases hgl : glook gd g with
      | none => rw [hgl] at h; exact h.elim
      | some t =>
        rw [hgl] at h
        simp only at h
        split at h
        · rename_i b hb
          by_cases hbw : b = some want
          · rw [if_pos hbw] at h
            obtain ⟨e, hre, hfz, hv⟩ := taken h
            exact more e _ (hgd.set ho _) hfz ⟨hdl, by rw [hg]; exact ⟨t, b, hgd g t hgl, hb, by rw [if_pos hbw]; exact hre⟩⟩ hv
          rw [if_neg hbw] at h
          refine more Eff.skip (gset (uG i os) i o.dst gd) (hgd.set ho _) (fun b hb => by simp [Eff.skip] at hb) ⟨hdl, by rw [hg]; exact ⟨t, b, hgd g t hgl, hb, by rw [if_neg hbw]⟩⟩ ?_
          unfold Eff.skip
          rw [St.add_plain]; exact h
        exact h.elim
theorem vcGR_sound {ops : Array Oper} {σ : St} {ws : WL} : ∀ (os : List Oper) (i : Nat) (gd : List (Nat × Tmp)) (s : St) (K : St → Prop) (es : Nat → Eff), i ≤ ops.size → ops.toList.drop i = os → GdOk ops gd → s = accum σ σ.nx ops es (isR ws) i →
    LaidG P ops ws σ es i → vcGR T P σ.nx ops.size ws i os gd s K →
    ∃ es', LaidG P ops ws σ es' ops.size ∧ K (allR σ ops es' ws)
  | [], i, gd, s, K, es, hi, hdrop, hgd, hs, hl, h => by
    have : i = ops.size := by
      have := List.drop_eq_nil_iff.1 hdrop
      simp at this; omega
    subst this
    refine ⟨es, hl, ?_⟩
    unfold allR
    rw [← hs]; exact h
  | o :: os, i, gd, s, K, es, hi, hdrop, hgd, hs, hl, h => by
    simp only [vcGR] at h
    have ho : ops[i]? = some o := by
      have : (ops.toList.drop i)[0]? = some o := by rw [hdrop]; rfl
      rw [List.getElem?_drop] at this
      simpa using this
    have hlt := (Array.getElem?_eq_some_iff.1 ho).1
    have hdrop' : ops.toList.drop (i + 1) = os := by
      rw [← List.drop_drop, hdrop]; rfl
    by_cases hw : wHas ws i = true
    · rw [if_pos hw] at h
      have hnR : isR ws i = false := by simp [isR, hw]
      refine vcGR_sound os (i + 1) gd s K es (by omega) hdrop' hgd ?_ ⟨hl.1, fun j o' hj hR ho' => ?_⟩ h
      · simp only [accum,hnR,Bool.false_eq_true,if_false]; exact hs
      by_cases hji : j = i
      · rw [hji, hnR] at hR; cases hR
      exact hl.2 j o' (by omega) hR ho'
    rw [if_neg hw] at h
    have hR : isR ws i = true := by simp [isR, hw]
    obtain ⟨hd, h⟩ := h
    have hdl := dstB_lt hd
    have more : ∀ (e : Eff) (gd' : List (Nat × Tmp)), GdOk ops gd' → (∀ b ∈ e.fz, b < σ.nx) → stepOk P ops σ.nx i o s e → vcGR T P σ.nx ops.size ws (i + 1) os gd' (s.add o.dst (σ.nx + i) e) K →
        ∃ es', LaidG P ops ws σ es' ops.size ∧ K (allR σ ops es' ws) := by
      intro e gd' hgd' hfz hst hv
      have hsame : ∀ j, j < i → es j = (fun j => if j = i then e else es j) j := fun j hj => by simp only; rw [if_neg (by omega)]
      have hacc : ∀ j, j ≤ i → accum σ σ.nx ops (fun j => if j = i then e else es j) (isR ws) j = accum σ σ.nx ops es (isR ws) j := fun j hj => (accum_es j (fun m hm => hsame m (by omega))).symm
      refine vcGR_sound os (i + 1) gd' (s.add o.dst (σ.nx + i) e) K (fun j => if j = i then e else es j) (by omega) hdrop' hgd' ?_ ⟨fun j b hb => ?_, fun j o' hj hRj ho' => ?_⟩ hv
      · simp only [accum,hR,if_true]
        rw [hacc i (Nat.le_refl _), ← hs]
        have : dstOf ops i = o.dst := by unfold dstOf; rw [ho]; rfl
        rw [this]
      · simp only at hb
        split at hb
        · exact hfz b hb
        exact hl.1 j b hb
      rw [hacc j (by omega)]
      by_cases hji : j = i
      · subst hji
        rw [ho] at ho'
        obtain rfl := Option.some.inj ho'
        simp only [if_true]
        rw [← hs]; exact hst
      simp only [hji,if_false]
      exact hl.2 j o' (by omega) hRj ho'
    have taken : (if isCallV o.op then orM (rOp T P o.op s σ.nx (σ.nx + i) (frozenUse o.dst os) (fun e => fzB σ.nx e.fz ∧ gsplit (uG i os) e fun e' => vcGR T P σ.nx ops.size ws (i + 1) os (gset (uG i os) i o.dst gd) (s.add o.dst (σ.nx + i) e') K)) False else rOp T P o.op s σ.nx (σ.nx + i) (frozenUse o.dst os) (fun e => fzB σ.nx e.fz ∧ gsplit (uG i os) e fun e' => vcGR T P σ.nx ops.size ws (i + 1) os (gset (uG i os) i o.dst gd) (s.add o.dst (σ.nx + i) e') K)) →
        ∃ e, REff P o s σ.nx (σ.nx + i) e ∧ (∀ b ∈ e.fz, b < σ.nx) ∧ vcGR T P σ.nx ops.size ws (i + 1) os (gset (uG i os) i o.dst gd) (s.add o.dst (σ.nx + i) e) K := by
      intro h
      have h : rOp T P o.op s σ.nx (σ.nx + i) (frozenUse o.dst os) (fun e => fzB σ.nx e.fz ∧ gsplit (uG i os) e fun e' => vcGR T P σ.nx ops.size ws (i + 1) os (gset (uG i os) i o.dst gd) (s.add o.dst (σ.nx + i) e') K) := by
        split at h
        · rcases h with h | h
          · exact h
          exact h.elim
        exact h
      obtain ⟨e, hK, hre⟩ := rOp_sound hT hdl h
      exact ⟨e, hre, fzB_lt hK.1, gsplit_use hK.2⟩
    unfold guarded at h
    cases hg : o.guard with
    | none =>
      rw [hg] at h
      obtain ⟨e, hre, hfz, hv⟩ := taken h
      exact more e _ (hgd.set ho _) hfz ⟨hdl, by rw [hg]; exact hre⟩ hv
    | some gw =>
      obtain ⟨g, want⟩ := gw
      rw [hg] at h
      simp only at h
      cases hgl : glook gd g with
      | none => rw [hgl] at h; exact h.elim
      | some t =>
        rw [hgl] at h
        simp only at h
        split at h
        · rename_i b hb
          by_cases hbw : b = some want
          · rw [if_pos hbw] at h
            obtain ⟨e, hre, hfz, hv⟩ := taken h
            exact more e _ (hgd.set ho _) hfz ⟨hdl, by rw [hg]; exact ⟨t, b, hgd g t hgl, hb, by rw [if_pos hbw]; exact hre⟩⟩ hv
          rw [if_neg hbw] at h
          refine more Eff.skip (gset (uG i os) i o.dst gd) (hgd.set ho _) (fun b hb => by simp [Eff.skip] at hb) ⟨hdl, by rw [hg]; exact ⟨t, b, hgd g t hgl, hb, by rw [if_neg hbw]⟩⟩ ?_
          unfold Eff.skip
          rw [St.add_plain]; exact h
        exact h.elim
end
def codeOk (kp : Kp) : Code → Bool
  | .region id ops draw => !draw || (match modeOf kp.ms id with
    | none => drawOk ops (nRof ops.toList)
    | some ws => gOk ops ws)
  | .seq a b => codeOk kp a && codeOk kp b
  | .cond _ a b => codeOk kp a && codeOk kp b
  | .block _ c => codeOk kp c
  | .loop c => codeOk kp c
  | .skip => true
  | .exit _ => true
  | .ret => true
  | _ => false
theorem vcRegion_sound {T : Tab} {P : Program} (hT : TabOk P T) (hm : P.follows .mixedOrders = true) {id : Nat} {ops : Array Oper} {draw : Bool} {kp : Kp} (hck : codeOk kp (.region id ops draw) = true) {s : St} {K : St → Prop} (h : vcRegion T P kp.ms id draw ops.toList s K)
    {G : Ctx} {a : Act} {w : World} (hs : Sim G s a w) : (Code.region id ops draw).wp P (fun e a w => e = .normal ∧ ∃ s', K s' ∧ Sim G s' a w) a w := by
  unfold vcRegion at h
  cases draw with
  | false =>
    simp only [Bool.false_eq_true,if_false] at h
    have hW := vcW_sound hT (ops := ops) ops.toList 0 [] s K (by simp) (fun g t hg => by simp [glook] at hg) h
    refine wp_region ?_
    have key : ∀ (os : List Oper) (i : Nat) (s : St) (a : Act) (w : World), ops.toList.drop i = os → OpsW P ops os s K → Sim G s a w → wpOps P ops (fun e a w => e = .normal ∧ ∃ s', K s' ∧ Sim G s' a w) (List.range' i os.length) a w := by
      intro os
      induction os with
      | nil => intro i s a w _ hW hs; exact ⟨rfl, s, hW, hs⟩
      | cons o os ih =>
        intro i s a w hdrop hW hs
        have ho : ops[i]? = some o := by
          have : (ops.toList.drop i)[0]? = some o := by rw [hdrop]; rfl
          rw [List.getElem?_drop] at this
          simpa using this
        have hdrop' : ops.toList.drop (i + 1) = os := by
          rw [← List.drop_drop, hdrop]; rfl
        rw [List.length_cons, List.range'_succ, wpOps_cons]
        exact OpW.step ho hW.2 hW.1 hs fun s' a' w' h1 h2 => ih (i + 1) s' a' w' hdrop' h1 h2
    have := key ops.toList 0 s a w (by simp) hW hs
    rw [List.range_eq_range']
    simpa using this
  | true =>
    simp only [if_true] at h
    have hck0 : (match modeOf kp.ms id with
      | none => drawOk ops (nRof ops.toList)
      | some ws => gOk ops ws) = true := by simpa [codeOk] using hck
    have hsz : ops.toList.length = ops.size := by simp
    unfold vcDraw at h
    rw [hsz] at h
    cases hmd : modeOf kp.ms id with
    | some ws =>
      rw [hmd] at h hck0
      simp only at h hck0
      have hg := gOk_spec hck0
      obtain ⟨es, hl, hW⟩ := vcGR_sound hT (ops := ops) (σ := s) (ws := ws) ops.toList 0 [] s _ (fun _ => Eff.skip) (Nat.zero_le _) (by simp) (fun g t hg => by simp [glook] at hg) rfl ⟨fun j b hb => by simp [Eff.skip] at hb, fun j o hj => by omega⟩ h
      have hW' := vcGW_sound hT (ops := ops) ws [] _ K hg.w hW
      refine wp_region_any hm ?_
      obtain ⟨ρ, hr⟩ := hs
      have hacc0 : ∀ k, accum s s.nx ops es (fun j => isR ws j && (Array.replicate ops.size false).getD j false) k = s := by
        intro k
        induction k with
        | zero => rfl
        | succ k ih =>
          simp only [accum]
          rw [if_neg (by simp [Array.getD]), ih]
      refine wpAny_standG hg hl.1 (fun i o hR ho => hl.2 i o (Array.getElem?_eq_some_iff.1 ho).1 hR ho) hW' (fun s' a' w' h1 h2 => ⟨rfl, s', h1, h2⟩) (fun ch a a' w h => by cases h.1) ops.size _ a _ ⟨by simp, fun i hi => by simp [Array.getD] at hi, .inl ⟨fun i hi => by simp [Array.getD] at hi, ρ, ?_⟩⟩ ?_
      · rw [hacc0]
        have h1 : SimR G (fun b => b < s.nx) ρ s a w.drew := hr.drew
        exact h1.mono_dom (fun b hb => Or.inl hb)
      unfold toCome
      have := List.countP_le_length (p := fun i => !(Array.replicate ops.size false).getD i false) (l := List.range ops.size)
      simpa using this
    | none =>
    rw [hmd] at h hck0
    simp only at h hck0
    have hck' : drawOk ops (nRof ops.toList) = true := hck0
    obtain ⟨es, hl, hW⟩ := vcR_sound hT (ops := ops) (σ := s) ops.toList 0 [] s K (fun _ => Eff.skip) (by simp) (fun g t hg => by simp [glook] at hg) rfl ⟨fun j b hb => by simp [Eff.skip] at hb, fun j o hj => by omega⟩ h
    rw [Nat.zero_add] at hl hW
    refine wp_region_any hm ?_
    obtain ⟨ρ, hr⟩ := hs
    have hacc0 : ∀ k, accum s s.nx ops es (fun j => (Array.replicate ops.size false).getD j false) k = s := by
      intro k
      induction k with
      | zero => rfl
      | succ k ih =>
        simp only [accum]
        rw [if_neg (by simp [Array.getD]), ih]
    refine wpAny_stand (drawOk_spec hck') hl.1 hl.2 hW (fun s' a' w' h1 h2 => ⟨rfl, s', h1, h2⟩) ops.size _ a _ ⟨by simp, fun i hi => by simp [Array.getD] at hi, .inl ⟨fun i hi => by simp [Array.getD] at hi, ρ, ?_⟩⟩ ?_
    · rw [hacc0]
      have h1 : SimR G (fun b => b < s.nx) ρ s a w.drew := hr.drew
      exact h1.mono_dom (fun b hb => Or.inl hb)
    unfold toCome
    have := List.countP_le_length (p := fun i => !(Array.replicate ops.size false).getD i false) (l := List.range ops.size)
    simpa using this
theorem lk_gc (keep : List Nat) (s : St) (t : Nat) : lk (gc keep s).env t = if t ∈ keep then lk s.env t else .unk := by
  simp only [gc]
  induction keep with
  | nil => simp [lk]
  | cons x r ih =>
    simp only [List.map_cons,lk,List.mem_cons]
    by_cases h : t = x
    · subst h; simp
    rw [if_neg h, ih]
    simp [h]
theorem gc_sub (keep : List Nat) (s : St) : Sub s (gc keep s) := by
  rintro G a w ⟨ρ, h⟩
  refine ⟨ρ, { hd := h.hd, hn := h.hn, env := fun t => ?_, own := h.own, inj := h.inj, os := h.os, tape := h.tape, output := h.output, size := h.size, keep := h.keep, wf := h.wf, home := h.home, room := h.room }⟩
  rw [lk_gc]
  split
  · exact h.env t
  trivial
theorem vc_sound {T : Tab} {P : Program} (hT : TabOk P T) (hm : P.follows .mixedOrders = true) (keep : Kp) : ∀ (c : Code), codeOk keep c = true → ∀ (s : St) (Q : Exit → St → Prop), vc T P keep c s Q → ∀ (G : Ctx) (a : Act) (w : World), Sim G s a w →
    c.wp P (fun e a w => ∃ s', Q e s' ∧ Sim G s' a w) a w := by
  intro c
  induction c with
  | skip => intro _ s Q h G a w hs; exact wp_skip ⟨s, h, hs⟩
  | region id ops draw =>
    intro hck s Q h G a w hs
    refine wp_mono (vcRegion_sound hT hm hck h hs) ?_
    rintro e a w ⟨rfl, s', h1, h2⟩
    exact ⟨_, h1, gc_sub keep.ks s' G a w h2⟩
  | seq x y ihx ihy =>
    intro hck s Q h G a w hs
    simp only [codeOk,Bool.and_eq_true] at hck
    refine wp_seq (wp_mono (ihx hck.1 s _ h G a w hs) ?_)
    rintro e a w ⟨s', h1, h2⟩
    cases e with
    | normal => exact ihy hck.2 s' Q h1 G a w h2
    | _ => exact ⟨s', h1, h2⟩
  | cond c x y ihx ihy =>
    intro hck s Q h G a w hs
    simp only [codeOk,Bool.and_eq_true] at hck
    simp only [vc] at h
    split at h
    · rename_i t ht
      have hev : a.eval c = .bool t := by
        obtain ⟨ρ, hr⟩ := hs
        have := hr.ev c
        rw [ht] at this; exact this
      exact wp_cond_split hev (fun e => ihx hck.1 s Q (h.1 e) G a w hs) (fun e => ihy hck.2 s Q (h.2 e) G a w hs)
    exact h.elim
  | block id c ih =>
    intro hck s Q h G a w hs
    refine wp_block (wp_mono (ih hck s _ h G a w hs) ?_)
    rintro e a w ⟨s', h1, h2⟩
    cases e with
    | exit id' =>
      simp only [Exit.inBlock]
      simp only at h1
      split
      · rename_i he; rw [if_pos he] at h1; exact ⟨s', h1, h2⟩
      rename_i he; rw [if_neg he] at h1; exact ⟨s', h1, h2⟩
    | _ => exact ⟨s', h1, h2⟩
  | loop c ih =>
    intro hck s Q h G a w hs
    obtain ⟨ι, I, m, x0, hsub, hround⟩ := h
    refine wp_loop_ghost (fun n a w => ∃ x, m x = n ∧ Sim G (I x) a w) (m x0) ⟨x0, rfl, hsub G a w hs⟩ ?_
    rintro n a w ⟨x, rfl, hx⟩
    refine wp_mono (ih hck (I x) _ (hround x) G a w hx) ?_
    rintro e a w ⟨s', h1, h2⟩
    cases e with
    | normal =>
      obtain ⟨y, hy, hlt⟩ := h1
      exact ⟨m y, hlt, y, rfl, hy G a w h2⟩
    | _ => exact ⟨s', h1, h2⟩
  | exit id => intro _ s Q h G a w hs; exact wp_exit ⟨s, h, hs⟩
  | ret => intro _ s Q h G a w hs; exact wp_ret ⟨s, h, hs⟩
  | _ => intro hck; simp [codeOk] at hck
end Go.Eng
/-
  THE ENGINE, PART U: from a function's text to its contract; and one state for another.
-/
namespace Go.Eng
open Go
def eO : Nat → List V → List (Nat × V)
  | _, [] => []
  | i, v :: r => (i, v) :: eO (i + 1) r
def iS (args : List V) (n : Nat) : St := { env := eO 0 args, own := [], nx := 1, n := n }
def VLe (x y : V) : Prop := ∀ ok w v, RepV loc0 dom0 ok w x v → RepV loc0 dom0 ok w y v
theorem VLe.refl (x : V) : VLe x x := fun _ _ _ h => h
theorem Ve {x y : V} (h : x = y) : VLe x y := h ▸ VLe.refl x
def okLd (E : Ty) : Bool :=
  match E.k.agg with
  | some true => true
  | some false => E.size == 1
  | none => false
def resV (T : Tab) (s : St) : ResultVar → Option V
  | .tmp t => some (vwV s.own s.nx (lk s.env t))
  | .cell a t => match T t with
    | some E => match lk s.env a with
      | .one (.ptr b off) => match lo s.own b with
        | some B => match B.bk with
          | .var cs => if off = 0 ∧ cs.length = E.size ∧ okLd E = true then some (vwV s.own s.nx (mkV E.k cs)) else none
          | _ => none
        | none => none
      | _ => none
    | none => none
def resL (T : Tab) (s : St) : List ResultVar → Option (List V)
  | [] => some []
  | r :: rs => match resV T s r, resL T s rs with
    | some v, some vs => some (v :: vs)
    | _, _ => none
def resR : List V → V
  | [v] => v
  | vs => .tup vs
def someP {α : Type} (x : Option α) (K : α → Prop) : Prop :=
  match x with
  | some a => K a
  | none => False
theorem someP_some {α : Type} (a : α) (K : α → Prop) : someP (some a) K = K a := rfl
def retQ (T : Tab) (rs : List ResultVar) (R : V → Prop) : Exit → St → Prop
  | .ret, s => someP (resL T s rs) fun vs => R (resR vs)
  | .normal, s => someP (resL T s rs) fun vs => R (resR vs)
  | _, _ => False
theorem okLd_is {E : Ty} (h : okLd E = true) : E.k.agg = some true ∨ (E.k.agg = some false ∧ E.size = 1) := by
  unfold okLd at h
  cases ha : E.k.agg with
  | none => rw [ha] at h; cases h
  | some b => cases b with
    | true => exact .inl rfl
    | false => rw [ha] at h; exact .inr ⟨rfl, by simpa using h⟩
def okEnd (G : Ctx) (w : World) (g : Nat) : Prop := g < w.heap.size ∧ ¬ G.forb g
theorem okIds_end {G : Ctx} {dom : Nat → Prop} {ρ : Nat → Loc} {s : St} {a : Act} {w : World} (hs : SimR G dom ρ s a w) {ids : List Nat} {g : Nat} (h : okIds G s.own ρ w ids g) : okEnd G w g := by
  rcases h with h | ⟨b, _, B, o, hl, ha⟩
  · exact ⟨h.1, h.2.1⟩
  have := (hs.own b B hl).2.2.2 g o ha
  exact ⟨this.1, this.2.1⟩
theorem view_end {G : Ctx} {dom : Nat → Prop} {ρ : Nat → Loc} {s : St} {a : Act} {w : World} (hs : SimR G dom ρ s a w) {x : V} {v : Value} (h : RepV ρ dom (okOf G s.own ρ w) w x v) : RepV1 loc0 dom0 (okEnd G w) w (vwV s.own s.nx x) v := by
  have o : Oper := default
  have h1 := vwV_sound hs (Agr.refl s s.nx o) (idsV x) x v (fun b hb _ => hb) h
  exact RepV1.ext (Ext.of_imp fun g hg => okIds_end hs hg) ⟨fun b hb => hb.elim, fun b hb => hb.elim⟩ _ _ h1
def evRes (tmps : Array Value) (r : ResultVar) : Sem Value :=
  match r with
  | .tmp t => pure (tmps.getD t undef)
  | .cell a t => do loadVar t (← asAddr (tmps.getD a undef))
theorem resV_run {P : Program} {T : Tab} (hT : TabOk P T) {G : Ctx} {dom : Nat → Prop} {ρ : Nat → Loc} {s : St} {a : Act} {w : World} (hs : SimR G dom ρ s a w) {r : ResultVar} {x : V} (h : resV T s r = some x) :
    ∃ v, (evRes a.tmps r).run P w = .ok v w ∧ RepV1 loc0 dom0 (okEnd G w) w x v := by
  cases r with
  | tmp t =>
    simp only [resV,Option.some.injEq] at h
    subst h
    exact ⟨_, rfl, view_end hs (hs.env t)⟩
  | cell ad t =>
    simp only [resV] at h
    cases hTt : T t with
    | none => rw [hTt] at h; cases h
    | some E =>
      rw [hTt] at h
      simp only at h
      obtain ⟨i, d, z, hi, hu, _, hk, hsz, _⟩ := T_parts hT hTt
      split at h
      · rename_i b off hx
        cases hlo : lo s.own b with
        | none => rw [hlo] at h; cases h
        | some B =>
          rw [hlo] at h
          simp only at h
          split at h
          · rename_i cs hB
            split at h
            · rename_i hc
              obtain ⟨rfl, hlen, hld0⟩ := hc
              simp only [Option.some.injEq] at h
              subst h
              have hev := hs.env ad
              rw [hx] at hev
              obtain ⟨_, g, o', haddr, hval⟩ := hev
              obtain ⟨_, _, hrep, _⟩ := hs.own b B hlo
              unfold RepBk at hrep
              rw [haddr] at hrep
              obtain ⟨cur, e, hg, hcell⟩ := hrep
              rw [hB] at hcell
              simp only at hcell
              have hld := okLd_is hld0
              rw [hk] at hld
              obtain ⟨v, hv, hr⟩ := loadVar_run (P := P) (t := t) hi hu g (o' + 0) cs (by omega) (by
                rcases hld with h | ⟨h1, h2⟩
                · exact .inl h
                · exact .inr ⟨h1, by omega⟩) (fun j c hj => by
                obtain ⟨u, hu', hr⟩ := hcell j c (by simpa [Bk.cell] using hj)
                exact ⟨u, by rw [cell_of_row w g _ cur e (0, 0) hg]; exact hu', hr⟩)
              rw [← hk] at hr
              refine ⟨v, ?_, view_end hs hr⟩
              simp only [evRes,Sem.run_bind]
              have hval' : a.tmps.getD ad undef = .pointer (some ⟨g, o' + 0, none⟩) := hval
              rw [hval']
              exact hv
            cases h
          cases h
      cases h
theorem resL_run {P : Program} {T : Tab} (hT : TabOk P T) {G : Ctx} {dom : Nat → Prop} {ρ : Nat → Loc} {s : St} {a : Act} {w : World} (hs : SimR G dom ρ s a w) : ∀ (rs : List ResultVar) (xs : List V), resL T s rs = some xs →
    ∃ vs, (rs.mapM (evRes a.tmps)).run P w = .ok vs w ∧ RepVL loc0 dom0 (okEnd G w) w xs vs
  | [], xs, h => by
    simp only [resL,Option.some.injEq] at h
    subst h
    exact ⟨[], rfl, trivial⟩
  | r :: rs, xs, h => by
    simp only [resL] at h
    split at h
    · rename_i x xs' hx hxs
      simp only [Option.some.injEq] at h
      subst h
      obtain ⟨v, hv, hr⟩ := resV_run hT hs hx
      obtain ⟨vs, hvs, hrs⟩ := resL_run hT hs rs xs' hxs
      refine ⟨v :: vs, ?_, hr, hrs⟩
      rw [List.mapM_cons]
      simp only [Sem.run_bind,hv,Result.andThen_ok,hvs,Sem.run_pure]
    cases h
theorem envOf_get : ∀ (args : List V) (i t : Nat), lk (eO i args) t = if i ≤ t ∧ t < i + args.length then args.getD (t - i) .unk else .unk
  | [], i, t => by simp [eO, lk]
  | v :: r, i, t => by
    simp only [eO,lk,List.length_cons]
    by_cases h : t = i
    · subst h; rw [if_pos rfl, if_pos (by omega)]; simp
    rw [if_neg h, envOf_get r (i + 1) t]
    by_cases h2 : i + 1 ≤ t ∧ t < i + 1 + r.length
    · rw [if_pos h2, if_pos (by omega)]
      obtain ⟨q, hq⟩ : ∃ q, t = i + 1 + q := ⟨t - (i + 1), by omega⟩
      subst hq
      rw [show i + 1 + q - (i + 1) = q by omega, show i + 1 + q - i = q + 1 by omega]
      simp
    rw [if_neg h2, if_neg (by omega)]
theorem RepVL.length {ρ : Nat → Loc} {dom ok : Nat → Prop} {w : World} : ∀ {xs : List V} {vs : List Value}, RepVL ρ dom ok w xs vs → xs.length = vs.length
  | [], [], _ => rfl
  | _ :: xs, _ :: vs, h => by simp [RepVL.length h.2]
  | [], _ :: _, h => h.elim
  | _ :: _, [], h => h.elim
theorem pv {P : Program} {T : Tab} (hT : TabOk P T) (hm : P.follows .mixedOrders = true) {f : FuncId} {fn : Func} {c : Code} (hf : P.funcs[f]? = some fn) (hb : fn.body = some c) (hn : (fn.name == "runtime.NumGoroutine") = false)
    (args : List V) (hargs : args.length ≤ fn.ntmps) (keep : Kp) (hck : codeOk keep c = true) (r : V)
    (h : vc T P keep c (iS args fn.ntmps) (retQ T fn.results.toList (fun x => VLe x r))) : Pr P f args r := by
  refine ⟨⟨fn, hf, by rw [hb]; rfl, hn⟩, fun ok w vs hok hvs => ?_⟩
  have hlen := RepVL.length hvs
  simp only [Array.length_toList] at hlen
  let G : Ctx := { W0 := w, forb := fun g => g < w.heap.size ∧ ¬ ok g, mine := fun _ => False }
  let a0 : Act := { tmps := vs ++ Array.replicate (fn.ntmps - vs.size) undef, defers := [] }
  have hokG : ∀ g, ok g → okOf G [] loc0 w g := fun g hg => ⟨hok g hg, fun hf => hf.2 hg, fun b B hl => by cases hl⟩
  have hsim : Sim G (iS args fn.ntmps) a0 w := by
    refine ⟨loc0, { hd := rfl, hn := ?_, env := fun t => ?_, own := fun b B hl => (by cases hl), inj := fun b B b' B' hl => (by cases hl), os := rfl, tape := rfl, output := rfl, size := Nat.le_refl _, keep := fun _ _ _ => rfl, wf := fun k hk => hk.1, home := fun l hl => (by cases hl), room := fun _ => Nat.le_refl _ }⟩
    · simp [a0, iS]; omega
    simp only [iS,envOf_get]
    split
    · rename_i ht
      simp only [Nat.sub_zero,Nat.zero_add] at ht ⊢
      have hx : args[t]? = some (args.getD t .unk) := by
        rw [X7, X8 ht.2]; rfl
      obtain ⟨v, hv, hr⟩ := RepVL.get hvs t _ hx
      have hv' : a0.tmps.getD t undef = v := by
        rw [Array.getElem?_toList] at hv
        have hlt := (Array.getElem?_eq_some_iff.1 hv).1
        simp only [a0,Array.getD_eq_getD_getElem?]
        rw [Array.getElem?_append_left hlt, hv]; rfl
      rw [hv']
      exact RepV.of_V1 (RepV1.ext (Ext.of_imp hokG) ⟨fun b hb => hb.elim, fun b hb => hb.elim⟩ _ _ hr)
    trivial
  refine calls_of_wp hf hb (wp_mono (vc_sound hT hm keep c hck _ _ h G a0 w hsim) ?_)
  rintro e a w' ⟨s', hq, ρ, hs⟩
  have fin : someP (resL T s' fn.results.toList) (fun vs => VLe (resR vs) r) → a.defers = [] ∧ ∃ v, (results fn a.tmps).run P w' = .ok v w' ∧ ∃ u, Ending.returned v = .returned u ∧ Go.RowKit.Below w.heap.size w w' ∧ RepV loc0 dom0 (fun g => ok g ∨ (w.heap.size ≤ g ∧ g < w'.heap.size)) w' r u := by
    intro hq
    unfold someP at hq
    split at hq
    · rename_i xs hxs
      obtain ⟨us, hus, hrep⟩ := resL_run hT hs _ _ hxs
      refine ⟨hs.hd, ?_⟩
      have hend : ∀ g, okEnd G w' g → ok g ∨ (w.heap.size ≤ g ∧ g < w'.heap.size) := fun g hg => by
        by_cases hgs : g < w.heap.size
        · by_cases hok' : ok g
          · exact .inl hok'
          exact absurd ⟨hgs, hok'⟩ hg.2
        exact .inr ⟨by omega, hg.1⟩
      have hbelow : Go.RowKit.Below w.heap.size w w' := ⟨hs.os, hs.tape, hs.output, hs.size, fun k hk => hs.keep k hk (fun hf => hf)⟩
      have hmap : (fn.results.mapM fun
          | .tmp t => pure (a.tmps.getD t undef)
          | .cell ad t => do loadVar t (← asAddr (a.tmps.getD ad undef)) : Sem (Array Value)).run P w' = .ok us.toArray w' := by
        have e : (fun r : ResultVar => (match r with
          | .tmp t => pure (a.tmps.getD t undef)
          | .cell ad t => do loadVar t (← asAddr (a.tmps.getD ad undef)) : Sem Value)) = evRes a.tmps := by
          funext r; cases r <;> rfl
        have e2 := congrArg (fun g => (fn.results.mapM g).run P w') e
        refine e2.trans ?_
        rw [Array.mapM_eq_mapM_toList, Sem.run_map, hus]; rfl
      have hres : (results fn a.tmps).run P w' = .ok (if h : us.toArray.size = 1 then us.toArray[0] else .tuple us.toArray) w' := by
        unfold results
        rw [Sem.run_bind]
        refine Eq.trans (congrArg (fun x => Result.andThen x _) hmap) ?_
        rfl
      refine ⟨_, hres, _, rfl, hbelow, ?_⟩
      have hrr : RepV loc0 dom0 (fun g => ok g ∨ (w.heap.size ≤ g ∧ g < w'.heap.size)) w' (resR xs) (if h : us.toArray.size = 1 then us.toArray[0] else .tuple us.toArray) := by
        have hx : Ext (okEnd G w') (fun g => ok g ∨ (w.heap.size ≤ g ∧ g < w'.heap.size)) w' w' := Ext.of_imp hend
        have hsame : Same dom0 dom0 loc0 loc0 := ⟨fun _ h => h, fun _ _ => rfl⟩
        have hl2 := RepVL.length hrep
        match xs, us, hrep, hl2 with
        | [x], [u], hrep, _ =>
          rw [dif_pos (by simp)]
          exact RepV.of_V1 (RepV1.ext hx hsame _ _ hrep.1)
        | [], [], _, _ =>
          rw [dif_neg (by simp)]
          exact ⟨#[], rfl, trivial⟩
        | x :: y :: xs, u :: v :: us, hrep, _ =>
          rw [dif_neg (by simp)]
          exact ⟨_, rfl, RepVL.ext hx hsame _ _ (by simpa using hrep)⟩
      exact hq _ _ _ hrr
    exact hq.elim
  cases e with
  | normal => exact fin hq
  | ret => exact fin hq
  | _ => exact hq.elim
end Go.Eng
/-
  THE ENGINE, PART V: one state for another: what a loop's head asks.
-/
namespace Go.Eng
open Go
def ren : List (Nat × Option Nat) → Nat → Option Nat
  | [], b => some b
  | (b', x) :: r, b => if b = b' then x else ren r b
def Y2 (rn : List (Nat × Option Nat)) (nx : Nat) (c : C) (c' : C) : Prop :=
  match c' with
  | .any => True
  | .own b' w' o' l' => b' < nx ∧ match c with
    | .own b w o l => ren rn b' = some b ∧ w = w' ∧ o = o' ∧ l = l'
    | .nil => ren rn b' = none ∧ o' = 0 ∧ l' = 0
    | _ => False
  | .ptr b' o' => b' < nx ∧ match c with
    | .ptr b o => ren rn b' = some b ∧ o = o'
    | _ => False
  | .int k' n' => match c with
    | .int k n => k = k' ∧ n = n'
    | _ => False
  | .bool b' => match c with
    | .bool b => b = b'
    | _ => False
  | .str s' => match c with
    | .str s => s = s'
    | _ => False
  | .nil => match c with
    | .nil => True
    | _ => False
  | .ints k' xs' => match c with
    | .ints k xs => k = k' ∧ xs = xs'
    | .nil => xs' = []
    | _ => False
  | .rows w' n' f' => match c with
    | .rows w n f => w = w' ∧ n = n' ∧ ∀ i j, i < n → j < w → f i j = f' i j
    | .nil => n' = 0
    | _ => False
  | .fn f' n' _ => match c with
    | .fn f n _ => f = f' ∧ n = 0 ∧ n' = 0
    | _ => False
  | _ => False
def Y3 (rn : List (Nat × Option Nat)) (nx : Nat) : List C → List C → Prop
  | [], [] => True
  | c :: cs, c' :: cs' => Y2 rn nx c c' ∧ Y3 rn nx cs cs'
  | _, _ => False
def Y1 (rn : List (Nat × Option Nat)) (nx : Nat) (x x' : V) : Prop :=
  match x' with
  | .unk => True
  | .one c' => match x with
    | .one c => Y2 rn nx c c'
    | _ => False
  | .agg cs' => match x with
    | .agg cs => Y3 rn nx cs cs'
    | _ => False
  | .tup _ => False
def Y5 (rn : List (Nat × Option Nat)) (nx : Nat) (B B' : Bk) : Prop :=
  match B' with
  | .var cs' => match B with
    | .var cs => Y3 rn nx cs cs'
    | _ => False
  | .ints _ k' xs' => match B with
    | .ints _ k xs => k = k' ∧ xs = xs'
    | _ => False
  | .rows _ w' n' f' => match B with
    | .rows _ w n f => w = w' ∧ n = n' ∧ ∀ i j, i < n → j < w → f i j = f' i j
    | _ => False
def Y7 : Bk → Prop
  | .var _ => False
  | .ints _ _ xs => xs = []
  | .rows _ _ n _ => n = 0
def Y0 (rn : List (Nat × Option Nat)) (nx : Nat) (env : List (Nat × V)) : List (Nat × V) → Prop
  | [] => True
  | (t, x') :: r => Y1 rn nx (lk env t) x' ∧ Y0 rn nx env r
def Y4 (rn : List (Nat × Option Nat)) (nx : Nat) (own : List (Nat × Blk)) : List (Nat × Blk) → Prop
  | [] => True
  | (b', B') :: r => (b' < nx ∧ match ren rn b' with
    | none => Y7 B'.bk
    | some b => match lo own b with
      | some B => (B'.rw = true → B.rw = true) ∧ Y5 rn nx B.bk B'.bk
      | none => False) ∧ Y4 rn nx own r
def Y6 (rn : List (Nat × Option Nat)) : List (Nat × Blk) → Prop
  | [] => True
  | (b', _) :: r => (∀ p ∈ r, p.1 = b' ∨ ren rn p.1 = none ∨ ren rn p.1 ≠ ren rn b') ∧ Y6 rn r
section
variable {rn : List (Nat × Option Nat)} {nx : Nat} {ρ ρ' : Nat → Loc} {dom ok ok' : Nat → Prop} {w : World}
def renLoc (rn : List (Nat × Option Nat)) (ρ : Nat → Loc) (b' : Nat) : Loc :=
  match ren rn b' with
  | some b => ρ b
  | none => ⟨none, 0⟩
theorem rowsI_congr {wd n : Nat} {f f' : Nat → Nat → C} {v : Value} (h : ∀ i j, i < n → j < wd → f i j = f' i j) (hr : RepI ok w (.rows wd n f) v) : RepI ok w (.rows wd n f') v := by
  obtain ⟨a, cap, hv, hc, hr⟩ := hr
  refine ⟨a, cap, hv, hc, ?_⟩
  rcases hr with hr | ⟨g, o, ha, hg, hcs⟩
  · exact .inl hr
  refine .inr ⟨g, o, ha, hg, fun i j hi hj => ?_⟩
  rw [← h i j hi hj]; exact hcs i j hi hj
theorem cRen_sound (hx : Ext ok ok' w w) {c c' : C} {v : Value} (h : Y2 rn nx c c') (hr : RepC ρ dom ok w c v) : RepC (renLoc rn ρ) (fun b => b < nx) ok' w c' v := by
  cases c' with
  | any => exact (RepC.plain hr).1
  | own b' w' o' l' =>
    obtain ⟨hb, h⟩ := h
    cases c with
    | own b wd o l =>
      obtain ⟨h1, rfl, rfl, rfl⟩ := h
      obtain ⟨_, h2, cap, h3, h4⟩ := hr
      have e : renLoc rn ρ b' = ρ b := by unfold renLoc; rw [h1]
      exact ⟨hb, by rw [e]; exact h2, cap, h3, by rw [e]; exact h4⟩
    | nil =>
      obtain ⟨h1, rfl, rfl⟩ := h
      have e : renLoc rn ρ b' = ⟨none, 0⟩ := by unfold renLoc; rw [h1]
      exact ⟨hb, by rw [e]; simp, 0, Nat.le_refl _, .inr ⟨by rw [e], hr, rfl, rfl⟩⟩
    | _ => exact h.elim
  | ptr b' o' =>
    obtain ⟨hb, h⟩ := h
    cases c with
    | ptr b o =>
      obtain ⟨h1, rfl⟩ := h
      obtain ⟨_, g, o1, h2, h3⟩ := hr
      have e : renLoc rn ρ b' = ρ b := by unfold renLoc; rw [h1]
      exact ⟨hb, g, o1, by rw [e]; exact h2, h3⟩
    | _ => exact h.elim
  | int k' n' =>
    cases c with
    | int k n => obtain ⟨rfl, rfl⟩ := h; exact hr
    | _ => exact h.elim
  | bool b' =>
    cases c with
    | bool b => cases h; exact hr
    | _ => exact h.elim
  | str s' =>
    cases c with
    | str s => cases h; exact hr
    | _ => exact h.elim
  | nil =>
    cases c with
    | nil => exact hr
    | _ => exact h.elim
  | ints k' xs' =>
    cases c with
    | ints k xs => obtain ⟨rfl, rfl⟩ := h; exact RepI.ext hx (.ints k xs) v hr
    | nil => cases h; exact ⟨none, 0, hr, Nat.le_refl _, .inl rfl⟩
    | _ => exact h.elim
  | rows w' n' f' =>
    cases c with
    | rows wd n f =>
      obtain ⟨rfl, rfl, hf⟩ := h
      exact RepI.ext hx (.rows wd n f') v (rowsI_congr hf hr)
    | nil => cases h; exact ⟨none, 0, hr, Nat.le_refl _, .inl rfl⟩
    | _ => exact h.elim
  | fn f' n' caps' =>
    cases c with
    | fn f n caps =>
      obtain ⟨rfl, rfl, rfl⟩ := h
      obtain ⟨cs, hv, hn, _⟩ := hr
      exact ⟨cs, hv, hn, fun i hi => absurd hi (Nat.not_lt_zero _)⟩
    | _ => exact h.elim
  | elt s wd i off => exact h.elim
  | eptr b wd i off => exact h.elim
theorem lRen_sound (hx : Ext ok ok' w w) : ∀ {cs cs' : List C} {vs : List Value}, Y3 rn nx cs cs' → RepL ρ dom ok w cs vs → RepL (renLoc rn ρ) (fun b => b < nx) ok' w cs' vs
  | [], [], [], _, _ => trivial
  | c :: cs, c' :: cs', v :: vs, h, hr => ⟨cRen_sound hx h.1 hr.1, lRen_sound hx h.2 hr.2⟩
  | [], _ :: _, _, h, _ => h.elim
  | _ :: _, [], _, h, _ => h.elim
  | [], [], _ :: _, _, hr => hr.elim
  | _ :: _, _ :: _, [], _, hr => hr.elim
theorem vRen_sound (hx : Ext ok ok' w w) {x x' : V} {v : Value} (h : Y1 rn nx x x') (hr : RepV ρ dom ok w x v) : RepV (renLoc rn ρ) (fun b => b < nx) ok' w x' v := by
  cases x' with
  | unk => trivial
  | one c' =>
    cases x with
    | one c => exact cRen_sound hx h hr
    | _ => exact h.elim
  | agg cs' =>
    cases x with
    | agg cs => obtain ⟨vs, hv, hl⟩ := hr; exact ⟨vs, hv, lRen_sound hx h hl⟩
    | _ => exact h.elim
  | tup xs => exact h.elim
theorem lRen_get : ∀ {cs cs' : List C}, Y3 rn nx cs cs' → ∀ (j : Nat) c', cs'[j]? = some c' → ∃ c, cs[j]? = some c ∧ Y2 rn nx c c'
  | [], [], _, j, c', hj => by simp at hj
  | c :: cs, c0 :: cs', h, 0, c', hj => by simp at hj; subst hj; exact ⟨c, rfl, h.1⟩
  | c :: cs, c0 :: cs', h, j + 1, c', hj => by simpa using lRen_get h.2 j c' (by simpa using hj)
  | [], _ :: _, h, _, _, _ => h.elim
  | _ :: _, [], h, _, _, _ => h.elim
theorem bRen_len {B B' : Bk} (h : Y5 rn nx B B') : B'.len = B.len := by
  cases B' with
  | var cs' => cases B <;> first | rfl | exact h.elim
  | ints e' k' xs' =>
    cases B with
    | ints e k xs => obtain ⟨_, rfl⟩ := h; rfl
    | _ => exact h.elim
  | rows e' w' n' f' =>
    cases B with
    | rows e wd n f => obtain ⟨_, rfl, _⟩ := h; rfl
    | _ => exact h.elim
theorem bRen_sound (hx : Ext ok ok' w w) {B B' : Bk} {l : Loc} (h : Y5 rn nx B B') (hr : RepBk ρ dom ok w l B) : RepBk (renLoc rn ρ) (fun b => b < nx) ok' w l B' := by
  unfold RepBk at *
  cases ha : l.addr with
  | none =>
    rw [ha] at hr
    simp only at hr ⊢
    intro j
    cases B' with
    | var cs' =>
      cases B with
      | var cs =>
        cases hj : (Bk.var cs').cell j with
        | none => rfl
        | some c' =>
          obtain ⟨c, hc, _⟩ := lRen_get h j c' hj
          have := hr j
          simp only [Bk.cell] at this
          rw [hc] at this; cases this
      | _ => exact h.elim
    | ints e' k' xs' =>
      cases B with
      | ints e k xs => obtain ⟨rfl, rfl⟩ := h; exact hr j
      | _ => exact h.elim
    | rows e' w' n' f' =>
      cases B with
      | rows e wd n f =>
        obtain ⟨rfl, rfl, _⟩ := h
        have := hr j
        simp only [Bk.cell] at this ⊢
        split
        · rename_i hlt; rw [if_pos hlt] at this; cases this
        rfl
      | _ => exact h.elim
  | some p =>
    obtain ⟨g, o⟩ := p
    rw [ha] at hr
    simp only at hr ⊢
    obtain ⟨cur, e, hg, hc⟩ := hr
    refine ⟨cur, e, hg, fun j c' hj => ?_⟩
    cases B' with
    | var cs' =>
      cases B with
      | var cs =>
        obtain ⟨c, hcj, hcr⟩ := lRen_get h j c' hj
        obtain ⟨u, hu, hr⟩ := hc j c hcj
        exact ⟨u, hu, cRen_sound hx hcr hr⟩
      | _ => exact h.elim
    | ints e' k' xs' =>
      cases B with
      | ints e k xs =>
        obtain ⟨rfl, rfl⟩ := h
        obtain ⟨u, hu, hr⟩ := hc j c' hj
        exact ⟨u, hu, RepI.ext hx _ _ hr⟩
      | _ => exact h.elim
    | rows e' w' n' f' =>
      cases B with
      | rows e wd n f =>
        obtain ⟨rfl, rfl, hf⟩ := h
        simp only [Bk.cell] at hj
        split at hj
        · rename_i hlt
          simp only [Option.some.injEq] at hj
          have hwd : 0 < wd := by rcases Nat.eq_zero_or_pos wd with h0 | h0; (subst h0; simp at hlt); exact h0
          have h1 : j / wd < n := by rw [Nat.div_lt_iff_lt_mul hwd]; exact hlt
          obtain ⟨u, hu, hr⟩ := hc j (f (j / wd) (j % wd)) (by simp only [Bk.cell,if_pos hlt])
          rw [hf _ _ h1 (Nat.mod_lt _ hwd), hj] at hr
          exact ⟨u, hu, RepI.ext hx _ _ hr⟩
        cases hj
      | _ => exact h.elim
theorem envRen_get {env env' : List (Nat × V)} (h : Y0 rn nx env env') (t : Nat) : Y1 rn nx (lk env t) (lk env' t) := by
  induction env' with
  | nil => trivial
  | cons p r ih =>
    obtain ⟨t', x'⟩ := p
    simp only [lk]
    split
    · rename_i he; subst he; exact h.1
    exact ih h.2
theorem ownRen_get {own own' : List (Nat × Blk)} (h : Y4 rn nx own own') {b' : Nat} {B' : Blk} (hl : lo own' b' = some B') : b' < nx ∧ ((ren rn b' = none ∧ Y7 B'.bk) ∨ ∃ b B, ren rn b' = some b ∧ lo own b = some B ∧ (B'.rw = true → B.rw = true) ∧ Y5 rn nx B.bk B'.bk) := by
  induction own' with
  | nil => cases hl
  | cons p r ih =>
    obtain ⟨c, v⟩ := p
    simp only [lo] at hl
    split at hl
    · rename_i he
      subst he
      obtain rfl := Option.some.inj hl
      obtain ⟨h1, h2⟩ := h.1
      refine ⟨h1, ?_⟩
      split at h2
      · rename_i hr; exact .inl ⟨hr, h2⟩
      rename_i b hr
      split at h2
      · rename_i B hB; exact .inr ⟨b, B, hr, hB, h2⟩
      exact h2.elim
    exact ih h.2 hl
theorem lo_mem {own : List (Nat × Blk)} {b : Nat} {B : Blk} (h : lo own b = some B) : ∃ p ∈ own, p.1 = b := by
  induction own with
  | nil => cases h
  | cons p r ih =>
    obtain ⟨c, v⟩ := p
    simp only [lo] at h
    split at h
    · rename_i he; exact ⟨(c, v), by simp, he.symm⟩
    obtain ⟨q, hq, he⟩ := ih h; exact ⟨q, by simp [hq], he⟩
theorem apart_get {own : List (Nat × Blk)} (h : Y6 rn own) {b1 b2 : Nat} (h1 : ∃ p ∈ own, p.1 = b1) (h2 : ∃ p ∈ own, p.1 = b2) (hne : b1 ≠ b2) (hr : ren rn b1 = ren rn b2) : ren rn b1 = none := by
  induction own with
  | nil => obtain ⟨p, hp, _⟩ := h1; simp at hp
  | cons q r ih =>
    obtain ⟨p1, hp1, rfl⟩ := h1
    obtain ⟨p2, hp2, rfl⟩ := h2
    rcases List.mem_cons.1 hp1 with e1 | hm1
    · rcases List.mem_cons.1 hp2 with e2 | hm2
      · exact absurd (by rw [e1, e2]) hne
      rcases h.1 p2 hm2 with h3 | h3 | h3
      · exact absurd (by rw [h3, e1]) hne
      · rw [hr]; exact h3
      exact absurd (by rw [← hr, e1]) h3
    rcases List.mem_cons.1 hp2 with e2 | hm2
    · rcases h.1 p1 hm1 with h3 | h3 | h3
      · exact absurd (by rw [h3, e2]) hne
      · exact h3
      exact absurd (by rw [hr, e2]) h3
    exact ih h.2 ⟨p1, hm1, rfl⟩ ⟨p2, hm2, rfl⟩
end
theorem Sub.of (rn : List (Nat × Option Nat)) {s s' : St} (hz : ren rn 0 = some 0 ∧ 0 < s'.nx) (hn : s.n = s'.n) (he : Y0 rn s'.nx s.env s'.env) (ho : Y4 rn s'.nx s.own s'.own) (ha : Y6 rn s'.own) : Sub s s' := by
  rintro G a w ⟨ρ, h⟩
  have hinj : ∀ b1 B1 b2 B2, lo s'.own b1 = some B1 → lo s'.own b2 = some B2 → b1 ≠ b2 → ∀ c, ren rn b1 = some c → ren rn b2 ≠ some c := by
    intro b1 B1 b2 B2 h1 h2 hne c hc hc2
    have := apart_get ha (lo_mem h1) (lo_mem h2) hne (hc.trans hc2.symm)
    rw [hc] at this; cases this
  have hok : ∀ g, okOf G s.own ρ w g → okOf G s'.own (renLoc rn ρ) w g := fun g hg => ⟨hg.1, hg.2.1, fun b' B' hl hrw o hadr => by
    obtain ⟨_, hc⟩ := ownRen_get ho hl
    rcases hc with ⟨hr, _⟩ | ⟨b, B, hr, hlo, hrw', _⟩
    · unfold renLoc at hadr; rw [hr] at hadr; cases hadr
    unfold renLoc at hadr; rw [hr] at hadr
    exact hg.2.2 b B hlo (hrw' hrw) o hadr⟩
  have hx : Ext (okOf G s.own ρ w) (okOf G s'.own (renLoc rn ρ) w) w w := Ext.of_imp hok
  refine ⟨renLoc rn ρ, { hd := h.hd, hn := h.hn.trans hn, env := fun t => vRen_sound hx (envRen_get he t) (h.env t), own := fun b' B' hl => ?_, inj := fun b1 B1 b2 B2 h1 h2 hne hrw g o o' hadr => ?_, os := h.os, tape := h.tape, output := h.output, size := h.size, keep := h.keep, wf := h.wf, home := fun l hl => ⟨hz.2, by unfold renLoc; rw [hz.1]; exact (h.home l hl).2⟩, room := h.room }⟩
  · obtain ⟨hlt, hc⟩ := ownRen_get ho hl
    rcases hc with ⟨hr, hem⟩ | ⟨b, B, hr, hlo, hrw', hbr⟩
    · have e : renLoc rn ρ b' = ⟨none, 0⟩ := by unfold renLoc; rw [hr]
      rw [e]
      refine ⟨hlt, ?_, ?_, fun g o hadr => by cases hadr⟩
      · cases hB : B'.bk with
        | var cs => rw [hB] at hem; exact hem.elim
        | ints e k xs => rw [hB] at hem; have hem : xs = [] := hem; subst hem; rfl
        | rows e wd n f => rw [hB] at hem; have hem : n = 0 := hem; subst hem; rfl
      unfold RepBk
      intro j
      cases hB : B'.bk with
      | var cs => rw [hB] at hem; exact hem.elim
      | ints e k xs => rw [hB] at hem; have hem : xs = [] := hem; subst hem; simp [Bk.cell]
      | rows e wd n f => rw [hB] at hem; have hem : n = 0 := hem; subst hem; simp [Bk.cell]
    have e : renLoc rn ρ b' = ρ b := by unfold renLoc; rw [hr]
    obtain ⟨_, h2, h3, h4⟩ := h.own b B hlo
    rw [e]
    exact ⟨hlt, by rw [h2, bRen_len hbr], bRen_sound hx hbr h3, h4⟩
  obtain ⟨_, hc1⟩ := ownRen_get ho h1
  obtain ⟨_, hc2⟩ := ownRen_get ho h2
  rcases hc1 with ⟨hr1, _⟩ | ⟨c1, D1, hr1, hl1, hw1, _⟩
  · unfold renLoc at hadr; rw [hr1] at hadr; cases hadr
  rcases hc2 with ⟨hr2, _⟩ | ⟨c2, D2, hr2, hl2, _, _⟩
  · unfold renLoc; rw [hr2]; simp
  unfold renLoc at hadr ⊢
  rw [hr1] at hadr
  rw [hr2]
  refine h.inj c1 D1 c2 D2 hl1 hl2 (fun e => ?_) (hw1 hrw) g o o' hadr
  subst e
  exact hinj b1 B1 b2 B2 h1 h2 hne c1 hr1 hr2
end Go.Eng
