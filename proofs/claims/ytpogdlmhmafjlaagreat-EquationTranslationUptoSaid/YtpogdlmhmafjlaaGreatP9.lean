/-
  EquationTranslation, where what it reads is of bulk at most 1048576: the law returns true, and each argument reads afterwards as it read before. No condition beyond the given row's own cells.
  (Text 9 of 9; made by a program out of smaller texts.)
-/
import Derived.ProofKit
import Derived.JoinedCond
import Derived.Test.YtpogdlmhmafjlaaGreatRows
import Derived.Test.YtpogdlmhmafjlaaGreatP8
set_option linter.unusedSimpArgs false
set_option linter.unusedVariables false
set_option maxHeartbeats 16000000
set_option maxRecDepth 10000
open Nat renaming reduceAdd → J1, reduceMul → J2, reduceSub → J3, reduceEqDiff → J4, reduceLT → J5, reduceLeDiff → J6, reduceBEq → J7, reduceDiv → J8, reduceMod → J9, reducePow → J0
open Int renaming reduceToNat → K1, reduceLE → K2, reduceLT → K3, reduceEq → K4, reducePow → K5, reduceSub → K6, reduceNeg → K7, natCast_add → X2, natCast_one → X3, natCast_zero → X4
open List renaming getD_cons_zero → X0, getD_cons_succ → X1, length_take → X5, length_append → X6, getD_eq_getElem?_getD → X7, getElem?_eq_getElem → X8
namespace Go.Proofs.YtpogdlmhmafjlaaGreat
open Go Go.Eng
open Go.Tw (El addE negE zE mulE QB mS)
theorem rQNeg_spec (q : Rat) (hq : qm q < 2 ^ 36) : Pr Tryz.prog 179 [QV q] (QV (-q)) := by
  have c := rNeg_spec q.num (by unfold qm at hq; omega)
  refine pv T_ok mixed Tryz.func179 rfl (by decide) _ (by simp [Tryz.ntmps179]) ⟨[0, 1, 2], []⟩ (by kernel_rfl) _ ?_
  show vc T _ _ (Option.get! Tryz.f179.body) _ _
  simp only [Tryz.f179,Tryz.ntmps179,Option.get!,iS,iM,eO,J1]
  simp only [vx,T,K5,J0,K6,K7,↓reduceIte,J1,J2,J3,J4,J5,J6,J7,J8,J9,reduceCtorEq,K1,K2,K3,K4,QV,QC]
  refine Cg c ?_
  simp only [vx,T,K5,J0,K6,K7,↓reduceIte,J1,J2,J3,J4,J5,J6,J7,J8,J9,reduceCtorEq,K1,K2,K3,K4,ZV]
  exact Ve rfl
theorem qm_negR (q : Rat) : qm (-q) = qm q := by
  unfold qm
  rw [Rat.neg_num, Rat.neg_den]
  unfold zn
  rw [Int.natAbs_neg]
theorem snocQ {ks : El} {k : Nat} (hk : ks.length = k) (q : Rat) : ∀ (i j : Nat), i < k + 1 → j < 4 →
    (if i < k then fQ ks i j else [C.bool (zs q.num), C.ints .u32 (zm q.num), C.bool (zs (q.den : Int)), C.ints .u32 (zm (q.den : Int))].getD ((i - k) * 4 + j) C.any) = fQ (ks ++ [q]) i j := by
  subst hk
  intro i j hi hj
  by_cases h : i < ks.length
  · rw [if_pos h]; unfold fQ; rw [X7, X7, List.getElem?_append_left h]
  have : i = ks.length := by omega
  subst this
  rw [if_neg h, Nat.sub_self, Nat.zero_mul, Nat.zero_add]
  exact fQ_cells q (by rw [X7, List.getElem?_append_right (Nat.le_refl _), Nat.sub_self]; rfl) j
theorem take_add {a b : El} {i : Nat} (h : i < a.length) (hab : b.length = a.length) : (addE a b).take (i + 1) = (addE a b).take i ++ [a.getD i default + b.getD i default] := by
  rw [getD_eqQ h, getD_eqQ (by omega : i < b.length), List.take_add_one]
  show _ ++ (List.zipWith (· + ·) a b)[i]?.toList = _
  rw [List.getElem?_zipWith, X8 h, X8 (by omega : i < b.length)]; rfl
theorem take_neg {a : El} {i : Nat} (h : i < a.length) : (negE a).take (i + 1) = (negE a).take i ++ [-(a.getD i default)] := by
  rw [getD_eqQ h, List.take_add_one]
  show _ ++ (List.map (- ·) a)[i]?.toList = _
  rw [List.getElem?_map, X8 h]; rfl
theorem r6Add (a b : El) (hl : a.length < 2 ^ 30) (hab : b.length = a.length) (hqa : Qk a) (hqb : Qk b) : Pr Tryz.prog 148 [.one .nil, eV a, eV b] (eV (addE a b)) := by
  have hlen : (addE a b).length = a.length := by unfold addE; rw [List.length_zipWith]; omega
  refine pv T_ok mixed Tryz.func148 rfl (by decide) _ (by simp [Tryz.ntmps148]) ⟨[1, 2, 6, 7, 8, 12], []⟩ (by kernel_rfl) _ ?_
  show vc T _ _ (Option.get! Tryz.f148.body) _ _
  simp only [Tryz.f148,Tryz.ntmps148,Option.get!,iS,iM,eO,J1]
  simp only [vx,T,K5,J0,K6,K7,↓reduceIte,J1,J2,J3,J4,J5,J6,J7,J8,J9,reduceCtorEq,K1,K2,K3,K4,eV,QsC]
  refine Lk (fun y : {i : Nat // i ≤ a.length} => ⟨[(1, eV a), (2, eV b), (6, .one .nil), (7, .one (.own 1 4 0 y.1)), (8, .one (.int .i64 y.1))], [(1, ⟨.rows 33 4 y.1 (fQ ((addE a b).take y.1)), true⟩)], 2, 28⟩) (fun y => a.length - y.1) ⟨0, Nat.zero_le _⟩ ?_ (fun ⟨i, hi⟩ => ?_)
  · refine Sa ?_; simp only [rx,Y0,Y1,Y2,Y3,Y4,Y5,Y6,Y7,ren,↓reduceIte,J1,J2,J3,J4,J5,J6,J7,J8,J9,reduceCtorEq,K1,K2,K3,K4,Y8,Y9,X2,X3,X4,eV,QsC]
  have i1 := wI i (by omega)
  simp only [vx,T,K5,J0,K6,K7,↓reduceIte,J1,J2,J3,J4,J5,J6,J7,J8,J9,reduceCtorEq,K1,K2,K3,K4,eV,QsC]
  refine ⟨fun h1 => Lg ?_, fun h1 => Lg ?_⟩
  · have hil : i < a.length := by omega
    have hxq := hqa.get i
    have hyq := hqb.get i
    have hst := take_add hil hab
    obtain ⟨x, hx⟩ : ∃ x, x = a.getD i default := ⟨_, rfl⟩
    obtain ⟨y, hy⟩ : ∃ y, y = b.getD i default := ⟨_, rfl⟩
    rw [← hx] at hxq
    rw [← hy] at hyq
    rw [← hx, ← hy] at hst
    simp only [vx,T,K5,J0,K6,K7,↓reduceIte,J1,J2,J3,J4,J5,J6,J7,J8,J9,reduceCtorEq,K1,K2,K3,K4,eV,QsC,← hx,← hy,qC]
    refine ⟨by omega, by omega, Cg (rQAdd_spec x y hxq hyq) ?_⟩
    simp only [vx,T,K5,J0,K6,K7,↓reduceIte,J1,J2,J3,J4,J5,J6,J7,J8,J9,reduceCtorEq,K1,K2,K3,K4,QV,QC]
    simp only [i1]
    refine ⟨⟨by omega, by omega⟩, Lq ⟨i + 1, by omega⟩ ?_ ?_⟩
    · refine Sa ?_; simp only [rx,Y0,Y1,Y2,Y3,Y4,Y5,Y6,Y7,ren,↓reduceIte,J1,J2,J3,J4,J5,J6,J7,J8,J9,reduceCtorEq,K1,K2,K3,K4,Y8,Y9,X2,X3,X4,eV,QsC]
      rw [hst]
      exact snocQ (by rw [X5]; omega) (x + y)
    simp only; omega
  have hil : i = a.length := by omega
  subst hil
  have e : (addE a b).take a.length = addE a b := by rw [← hlen, List.take_length]
  simp only [vx,T,K5,J0,K6,K7,↓reduceIte,J1,J2,J3,J4,J5,J6,J7,J8,J9,reduceCtorEq,K1,K2,K3,K4,e]
  rw [hlen]
  exact VLe.refl _
theorem r6Neg (a : El) (hl : a.length < 2 ^ 30) (hqa : Qk a) : Pr Tryz.prog 149 [.one .nil, eV a] (eV (negE a)) := by
  have hlen : (negE a).length = a.length := by unfold Go.Tw.negE; rw [List.length_map]
  refine pv T_ok mixed Tryz.func149 rfl (by decide) _ (by simp [Tryz.ntmps149]) ⟨[1, 4, 5, 6, 10], []⟩ (by kernel_rfl) _ ?_
  show vc T _ _ (Option.get! Tryz.f149.body) _ _
  simp only [Tryz.f149,Tryz.ntmps149,Option.get!,iS,iM,eO,J1]
  simp only [vx,T,K5,J0,K6,K7,↓reduceIte,J1,J2,J3,J4,J5,J6,J7,J8,J9,reduceCtorEq,K1,K2,K3,K4,eV,QsC]
  refine Lk (fun y : {i : Nat // i ≤ a.length} => ⟨[(1, eV a), (4, .one .nil), (5, .one (.own 1 4 0 y.1)), (6, .one (.int .i64 y.1))], [(1, ⟨.rows 33 4 y.1 (fQ ((negE a).take y.1)), true⟩)], 2, 22⟩) (fun y => a.length - y.1) ⟨0, Nat.zero_le _⟩ ?_ (fun ⟨i, hi⟩ => ?_)
  · refine Sa ?_; simp only [rx,Y0,Y1,Y2,Y3,Y4,Y5,Y6,Y7,ren,↓reduceIte,J1,J2,J3,J4,J5,J6,J7,J8,J9,reduceCtorEq,K1,K2,K3,K4,Y8,Y9,X2,X3,X4,eV,QsC]
  have i1 := wI i (by omega)
  simp only [vx,T,K5,J0,K6,K7,↓reduceIte,J1,J2,J3,J4,J5,J6,J7,J8,J9,reduceCtorEq,K1,K2,K3,K4,eV,QsC]
  refine ⟨fun h1 => Lg ?_, fun h1 => Lg ?_⟩
  · have hil : i < a.length := by omega
    have hxq := hqa.get i
    have hst := take_neg hil
    obtain ⟨x, hx⟩ : ∃ x, x = a.getD i default := ⟨_, rfl⟩
    rw [← hx] at hxq
    rw [← hx] at hst
    simp only [vx,T,K5,J0,K6,K7,↓reduceIte,J1,J2,J3,J4,J5,J6,J7,J8,J9,reduceCtorEq,K1,K2,K3,K4,eV,QsC,← hx,qC]
    refine ⟨by omega, Cg (rQNeg_spec x (by omega)) ?_⟩
    simp only [vx,T,K5,J0,K6,K7,↓reduceIte,J1,J2,J3,J4,J5,J6,J7,J8,J9,reduceCtorEq,K1,K2,K3,K4,QV,QC]
    simp only [i1]
    refine ⟨⟨by omega, by omega⟩, Lq ⟨i + 1, by omega⟩ ?_ ?_⟩
    · refine Sa ?_; simp only [rx,Y0,Y1,Y2,Y3,Y4,Y5,Y6,Y7,ren,↓reduceIte,J1,J2,J3,J4,J5,J6,J7,J8,J9,reduceCtorEq,K1,K2,K3,K4,Y8,Y9,X2,X3,X4,eV,QsC]
      rw [hst]
      exact snocQ (by rw [X5]; omega) (-x)
    simp only; omega
  have hil : i = a.length := by omega
  subst hil
  have e : (negE a).take a.length = negE a := by rw [← hlen, List.take_length]
  simp only [vx,T,K5,J0,K6,K7,↓reduceIte,J1,J2,J3,J4,J5,J6,J7,J8,J9,reduceCtorEq,K1,K2,K3,K4,e]
  rw [hlen]
  exact VLe.refl _
theorem r7sign0 (q : Rat) (hq : qm q < 2 ^ 34) : Pr Tryz.prog 150 [.one .nil, eV [q]] (.one (.int .i64 (sgn q.num))) := by
  have c := rQSign_spec q (by omega)
  refine pv T_ok mixed Tryz.func150 rfl (by decide) _ (by simp [Tryz.ntmps150]) ⟨[0, 1, 4, 5, 6, 7, 8, 9, 12, 46, 49], [(4, .nil)]⟩ (by kernel_rfl) _ ?_
  show vc T _ _ (Option.get! Tryz.f150.body) _ _
  simp only [Tryz.f150,Tryz.ntmps150,Option.get!,iS,iM,eO,J1]
  simp only [vx,T,K5,J0,K6,K7,↓reduceIte,J1,J2,J3,J4,J5,J6,J7,J8,J9,reduceCtorEq,K1,K2,K3,K4,eV,QsC]
  refine ⟨fun _ => Lg ?_, fun h => absurd rfl h⟩
  simp only [vx,T,K5,J0,K6,K7,↓reduceIte,J1,J2,J3,J4,J5,J6,J7,J8,J9,reduceCtorEq,K1,K2,K3,K4,eV,QsC,qC,X0]
  refine ⟨by simp, Cg c ?_⟩
  simp only [vx,T,K5,J0,K6,K7,↓reduceIte,J1,J2,J3,J4,J5,J6,J7,J8,J9,reduceCtorEq,K1,K2,K3,K4,QsC]
  exact Ve rfl
theorem r7Fast0 (q : Rat) (hq : qm q < 2 ^ 34) : Pr Tryz.prog 108 [.one .nil, eV [q]] (.one (.int .i64 (sgn q.num))) := by
  have c := r7sign0 q hq
  refine pv T_ok mixed Tryz.func108 rfl (by decide) _ (by simp [Tryz.ntmps108]) ⟨[0, 1, 4], []⟩ (by kernel_rfl) _ ?_
  show vc T _ _ (Option.get! Tryz.f108.body) _ _
  simp only [Tryz.f108,Tryz.ntmps108,Option.get!,iS,iM,eO,J1]
  simp only [vx,T,K5,J0,K6,K7,↓reduceIte,J1,J2,J3,J4,J5,J6,J7,J8,J9,reduceCtorEq,K1,K2,K3,K4,eV,QsC]
  refine Cg c ?_
  simp only [vx,T,K5,J0,K6,K7,↓reduceIte,J1,J2,J3,J4,J5,J6,J7,J8,J9,reduceCtorEq,K1,K2,K3,K4,QsC]
  exact Ve rfl
theorem r9Sign0 (q : Rat) (hq : qm q < 2 ^ 34) : Pr Tryz.prog 71 [NV q] (.one (.int .i64 (sgn q.num))) := by
  have c := r7Fast0 q hq
  refine pv T_ok mixed Tryz.func71 rfl (by decide) _ (by simp [Tryz.ntmps71]) ⟨[0, 1, 2], []⟩ (by kernel_rfl) _ ?_
  show vc T _ _ (Option.get! Tryz.f71.body) _ _
  simp only [Tryz.f71,Tryz.ntmps71,Option.get!,iS,iM,eO,J1]
  simp only [vx,T,K5,J0,K6,K7,↓reduceIte,J1,J2,J3,J4,J5,J6,J7,J8,J9,reduceCtorEq,K1,K2,K3,K4,NV,QsC]
  refine Cg c ?_
  simp only [vx,T,K5,J0,K6,K7,↓reduceIte,J1,J2,J3,J4,J5,J6,J7,J8,J9,reduceCtorEq,K1,K2,K3,K4,QsC]
  exact Ve rfl
theorem r9FromRat0 (q : Rat) : Pr Tryz.prog 7 [QV q] (NV q) := by
  refine pv T_ok mixed Tryz.func7 rfl (by decide) _ (by simp [Tryz.ntmps7]) ⟨[0, 1, 2], []⟩ (by kernel_rfl) _ ?_
  show vc T _ _ (Option.get! Tryz.f7.body) _ _
  simp only [Tryz.f7,Tryz.ntmps7,Option.get!,iS,iM,eO,J1]
  simp only [vx,T,K5,J0,K6,K7,↓reduceIte,J1,J2,J3,J4,J5,J6,J7,J8,J9,reduceCtorEq,K1,K2,K3,K4,QV,QC]
  refine VLe.agg2 (.refl _) (.rows rfl fun i j hi hj => .of_eq ?_)
  obtain rfl : i = 0 := by omega
  show List.getD _ (0 * 4 + j) _ = _
  rw [Nat.zero_mul, Nat.zero_add]
  exact fQ_cells q rfl j
theorem r9Neg0 (q : Rat) (hq : qm q < 2 ^ 34) : Pr Tryz.prog 107 [NV q] (NV (-q)) := by
  have c : Pr Tryz.prog 149 [.one .nil, eV [q]] (eV [-q]) := r6Neg [q] (by simp) (Qk1 hq)
  refine pv T_ok mixed Tryz.func107 rfl (by decide) _ (by simp [Tryz.ntmps107]) ⟨[0, 1, 2], []⟩ (by kernel_rfl) _ ?_
  show vc T _ _ (Option.get! Tryz.f107.body) _ _
  simp only [Tryz.f107,Tryz.ntmps107,Option.get!,iS,iM,eO,J1]
  simp only [vx,T,K5,J0,K6,K7,↓reduceIte,J1,J2,J3,J4,J5,J6,J7,J8,J9,reduceCtorEq,K1,K2,K3,K4,NV,QsC]
  refine Cg c ?_
  simp only [vx,T,K5,J0,K6,K7,↓reduceIte,J1,J2,J3,J4,J5,J6,J7,J8,J9,reduceCtorEq,K1,K2,K3,K4,eV,QsC]
  exact Ve rfl
theorem begins9 : Pr Tryz.prog 206 [.one .nil, .one .nil] (.one (.bool true)) := by
  refine pv T_ok mixed Tryz.func206 rfl (by decide) _ (by simp [Tryz.ntmps206]) ⟨[0, 1, 4, 5, 10, 14, 26], []⟩ (by kernel_rfl) _ ?_
  show vc T _ _ (Option.get! Tryz.f206.body) _ _
  simp only [Tryz.f206,Tryz.ntmps206,Option.get!,iS,iM,eO,J1]
  simp only [vx,T,K5,J0,K6,K7,↓reduceIte,J1,J2,J3,J4,J5,J6,J7,J8,J9,reduceCtorEq,K1,K2,K3,K4]
  refine ⟨fun h => absurd h (by decide), fun _ => Lg ?_⟩
  simp only [vx,T,K5,J0,K6,K7,↓reduceIte,J1,J2,J3,J4,J5,J6,J7,J8,J9,reduceCtorEq,K1,K2,K3,K4]
  refine Lk (fun _ : Unit => ⟨[(1, .one .nil), (4, .one (.bool false)), (5, .one (.int .i64 0))], [], 2, 27⟩) (fun _ => 0) () ?_ (fun _ => ?_)
  · refine Sa ?_; simp only [rx,Y0,Y1,Y2,Y3,Y4,Y5,Y6,Y7,ren,↓reduceIte,J1,J2,J3,J4,J5,J6,J7,J8,J9,reduceCtorEq,K1,K2,K3,K4,Y8,Y9,X2,X3,X4]
  simp only [vx,T,K5,J0,K6,K7,↓reduceIte,J1,J2,J3,J4,J5,J6,J7,J8,J9,reduceCtorEq,K1,K2,K3,K4]
  refine ⟨fun h => absurd h (by decide), fun _ => Lg ?_⟩
  simp only [vx,T,K5,J0,K6,K7,↓reduceIte,J1,J2,J3,J4,J5,J6,J7,J8,J9,reduceCtorEq,K1,K2,K3,K4]
  exact Ve rfl
theorem lift9 (q : Rat) : Pr Tryz.prog 208 [.one .nil, eV [q]] (eV [q]) := by
  refine pv T_ok mixed Tryz.func208 rfl (by decide) _ (by simp [Tryz.ntmps208]) ⟨[0, 1, 4, 5, 14], []⟩ (by kernel_rfl) _ ?_
  show vc T _ _ (Option.get! Tryz.f208.body) _ _
  simp only [Tryz.f208,Tryz.ntmps208,Option.get!,iS,iM,eO,J1]
  simp only [vx,T,K5,J0,K6,K7,↓reduceIte,J1,J2,J3,J4,J5,J6,J7,J8,J9,reduceCtorEq,K1,K2,K3,K4,eV,QsC]
  refine Lk (fun _ : Unit => ⟨[(0, .one .nil), (4, .one .nil), (5, .one (.own 1 4 0 1))], [(1, ⟨.rows 33 4 1 (fQ [q]), true⟩)], 6, 20⟩) (fun _ => 0) () ?_ (fun _ => ?_)
  · refine Sa ?_; simp only [rx,Y0,Y1,Y2,Y3,Y4,Y5,Y6,Y7,ren,↓reduceIte,J1,J2,J3,J4,J5,J6,J7,J8,J9,reduceCtorEq,K1,K2,K3,K4,Y8,Y9,X2,X3,X4,eV,QsC]
    exact fun i j _ _ => by rw [if_neg (Nat.not_lt_zero _), Nat.sub_zero]; rfl
  simp only [vx,T,K5,J0,K6,K7,↓reduceIte,J1,J2,J3,J4,J5,J6,J7,J8,J9,reduceCtorEq,K1,K2,K3,K4,eV,QsC]
  refine ⟨by decide, fun h => absurd h (by decide), fun _ => Lg ?_⟩
  simp only [vx,T,K5,J0,K6,K7,↓reduceIte,J1,J2,J3,J4,J5,J6,J7,J8,J9,reduceCtorEq,K1,K2,K3,K4,eV,QsC]
  exact VLe.refl _
theorem join9 (l : List Rat) (hl : l.length < 2 ^ 30) : Pr Tryz.prog 178 [NsV l] (.tup [NsV l, .one (.int .i64 0)]) := by
  refine pv T_ok mixed Tryz.func178 rfl (by decide) _ (by simp [Tryz.ntmps178]) ⟨[0, 2, 3, 4, 5, 6, 8, 9, 10, 11, 13, 18, 38, 51, 64, 70, 81], []⟩ (by kernel_rfl) _ ?_
  show vc T _ _ (Option.get! Tryz.f178.body) _ _
  simp only [Tryz.f178,Tryz.ntmps178,Option.get!,iS,iM,eO,J1]
  simp only [vx,T,K5,J0,K6,K7,↓reduceIte,J1,J2,J3,J4,J5,J6,J7,J8,J9,reduceCtorEq,K1,K2,K3,K4,NsV,NsC]
  refine Lk (fun y : {i : Nat // i ≤ l.length} => ⟨[(0, NsV l), (2, .one .nil), (3, .one (.int .i64 0)), (4, .one .nil), (5, .one (.int .i64 y.1))], [], 5, 115⟩) (fun y => l.length - y.1) ⟨0, Nat.zero_le _⟩ ?_ (fun ⟨i, hi⟩ => ?_)
  · refine Sa ?_; simp only [rx,Y0,Y1,Y2,Y3,Y4,Y5,Y6,Y7,ren,↓reduceIte,J1,J2,J3,J4,J5,J6,J7,J8,J9,reduceCtorEq,K1,K2,K3,K4,Y8,Y9,X2,X3,X4,NsV,NsC]
  have i1 := wI i (by omega)
  simp only [vx,T,K5,J0,K6,K7,↓reduceIte,J1,J2,J3,J4,J5,J6,J7,J8,J9,reduceCtorEq,K1,K2,K3,K4,NsV,NsC]
  refine ⟨fun g => Lg ?_, fun g => Lg ?_⟩
  · obtain ⟨x, hx⟩ : ∃ x, x = l.getD i default := ⟨_, rfl⟩
    simp only [vx,T,K5,J0,K6,K7,↓reduceIte,J1,J2,J3,J4,J5,J6,J7,J8,J9,reduceCtorEq,K1,K2,K3,K4,NsV,NsC,fN,← hx,nC]
    refine ⟨⟨by omega, by omega⟩, fun h => absurd h (by decide), fun _ => Lg ?_⟩
    simp only [vx,T,K5,J0,K6,K7,↓reduceIte,J1,J2,J3,J4,J5,J6,J7,J8,J9,reduceCtorEq,K1,K2,K3,K4,NsV,NsC,fN,← hx,nC]
    refine ⟨⟨by omega, by omega⟩, Cg begins9 ?_⟩
    simp only [vx,T,K5,J0,K6,K7,↓reduceIte,J1,J2,J3,J4,J5,J6,J7,J8,J9,reduceCtorEq,K1,K2,K3,K4,NsV,NsC]
    simp only [i1]
    refine Lq ⟨i + 1, by omega⟩ ?_ ?_
    · refine Sa ?_; simp only [rx,Y0,Y1,Y2,Y3,Y4,Y5,Y6,Y7,ren,↓reduceIte,J1,J2,J3,J4,J5,J6,J7,J8,J9,reduceCtorEq,K1,K2,K3,K4,Y8,Y9,X2,X3,X4,NsV,NsC]
    simp only; omega
  clear g i1
  simp only [vx,T,K5,J0,K6,K7,↓reduceIte,J1,J2,J3,J4,J5,J6,J7,J8,J9,reduceCtorEq,K1,K2,K3,K4,NsV,NsC]
  refine Lk (fun y : {i : Nat // i ≤ l.length} => ⟨[(0, NsV l), (2, .one .nil), (3, .one (.int .i64 0)), (4, .one .nil), (9, .one (.own 1 2 0 y.1)), (10, .one (.int .i64 y.1))], [(1, ⟨.rows 40 2 y.1 (fN (l.take y.1)), true⟩)], 16, 115⟩) (fun y => l.length - y.1) ⟨0, Nat.zero_le _⟩ ?_ (fun ⟨i, hi⟩ => ?_)
  · refine Sa ?_; simp only [rx,Y0,Y1,Y2,Y3,Y4,Y5,Y6,Y7,ren,↓reduceIte,J1,J2,J3,J4,J5,J6,J7,J8,J9,reduceCtorEq,K1,K2,K3,K4,Y8,Y9,X2,X3,X4,NsV,NsC]
  have i1 := wI i (by omega)
  simp only [vx,T,K5,J0,K6,K7,↓reduceIte,J1,J2,J3,J4,J5,J6,J7,J8,J9,reduceCtorEq,K1,K2,K3,K4,NsV,NsC]
  refine ⟨fun g => Lg ?_, fun g => Lg ?_⟩
  · have hil : i < l.length := by omega
    have hst : l.take (i + 1) = l.take i ++ [l.getD i default] := by rw [List.take_add_one, X7, X8 hil]; rfl
    obtain ⟨x, hx⟩ : ∃ x, x = l.getD i default := ⟨_, rfl⟩
    rw [← hx] at hst
    have cp := lift9 x
    simp only [vx,T,K5,J0,K6,K7,↓reduceIte,J1,J2,J3,J4,J5,J6,J7,J8,J9,reduceCtorEq,K1,K2,K3,K4,NsV,NsC,fN,← hx,nC]
    refine ⟨⟨by omega, by omega⟩, Cg begins9 ?_⟩
    simp only [vx,T,K5,J0,K6,K7,↓reduceIte,J1,J2,J3,J4,J5,J6,J7,J8,J9,reduceCtorEq,K1,K2,K3,K4,NsV,NsC,fN,← hx,nC]
    refine ⟨⟨by omega, by omega⟩, Cg cp ?_⟩
    simp only [vx,T,K5,J0,K6,K7,↓reduceIte,J1,J2,J3,J4,J5,J6,J7,J8,J9,reduceCtorEq,K1,K2,K3,K4,NsV,NsC,eV,QsC]
    simp only [i1]
    refine ⟨⟨by omega, by omega⟩, Lq ⟨i + 1, by omega⟩ ?_ ?_⟩
    · refine Sa ?_; simp only [rx,Y0,Y1,Y2,Y3,Y4,Y5,Y6,Y7,ren,↓reduceIte,J1,J2,J3,J4,J5,J6,J7,J8,J9,reduceCtorEq,K1,K2,K3,K4,Y8,Y9,X2,X3,X4,NsV,NsC,QsC]
      rw [hst]
      exact snocN (by rw [X5]; omega) x
    simp only; omega
  have hil : i = l.length := by omega
  subst hil
  have e := List.take_length (l := l)
  simp only [vx,T,K5,J0,K6,K7,↓reduceIte,J1,J2,J3,J4,J5,J6,J7,J8,J9,reduceCtorEq,K1,K2,K3,K4,NsV,NsC,e]
  exact VLe.refl _
theorem two9 (a b : Rat) : Pr Tryz.prog 147 [NV a, NV b] (.tup [NV a, NV b, .one (.int .i64 0)]) := by
  have hj := (join9 [a, b] (by simp)).arg1c (lit2N a b)
  refine pv T_ok mixed Tryz.func147 rfl (by decide) _ (by simp [Tryz.ntmps147]) ⟨[0, 1, 2, 3, 4, 5, 6, 7, 8, 17], [(4, (.cons 6 [3, 4, 5] (.cons 7 [] (.cons 8 [] .nil .nil) .nil) .nil))]⟩ (by kernel_rfl) _ ?_
  show vc T _ _ (Option.get! Tryz.f147.body) _ _
  simp only [Tryz.f147,Tryz.ntmps147,Option.get!,iS,iM,eO,J1]
  simp only [vx,T,K5,J0,K6,K7,↓reduceIte,J1,J2,J3,J4,J5,J6,J7,J8,J9,reduceCtorEq,K1,K2,K3,K4,NV,QsC]
  refine Cg hj ?_
  simp only [vx,T,K5,J0,K6,K7,↓reduceIte,J1,J2,J3,J4,J5,J6,J7,J8,J9,reduceCtorEq,K1,K2,K3,K4,NsV,NsC,fN,nC,QsC,X0,X1]
  exact ⟨by omega, by omega, by omega, Ve rfl⟩
theorem r9Add0 (a b : Rat) (ha : qm a < 2 ^ 34) (hb : qm b < 2 ^ 34) : Pr Tryz.prog 106 [NV a, NV b] (.tup [NV (a + b), .one (.int .i64 0)]) := by
  have c := two9 a b
  have d : Pr Tryz.prog 148 [.one .nil, eV [a], eV [b]] (eV [a + b]) := r6Add [a] [b] (by simp) rfl (Qk1 ha) (Qk1 hb)
  refine pv T_ok mixed Tryz.func106 rfl (by decide) _ (by simp [Tryz.ntmps106]) ⟨[0, 1, 2, 3, 4, 5, 6, 15], []⟩ (by kernel_rfl) _ ?_
  show vc T _ _ (Option.get! Tryz.f106.body) _ _
  simp only [Tryz.f106,Tryz.ntmps106,Option.get!,iS,iM,eO,J1]
  simp only [vx,T,K5,J0,K6,K7,↓reduceIte,J1,J2,J3,J4,J5,J6,J7,J8,J9,reduceCtorEq,K1,K2,K3,K4,NV,QsC]
  refine Cg c ?_
  simp only [vx,T,K5,J0,K6,K7,↓reduceIte,J1,J2,J3,J4,J5,J6,J7,J8,J9,reduceCtorEq,K1,K2,K3,K4,NV,QsC]
  refine Cg d ?_
  simp only [vx,T,K5,J0,K6,K7,↓reduceIte,J1,J2,J3,J4,J5,J6,J7,J8,J9,reduceCtorEq,K1,K2,K3,K4,eV,QsC]
  exact Ve rfl
theorem r9Sub0 (a b : Rat) (ha : qm a < 2 ^ 34) (hb : qm b < 2 ^ 34) : Pr Tryz.prog 70 [NV a, NV b] (.tup [NV (a + -b), .one (.int .i64 0)]) := by
  have c := r9Neg0 b hb
  have d := r9Add0 a (-b) ha (by rw [qm_negR]; exact hb)
  refine pv T_ok mixed Tryz.func70 rfl (by decide) _ (by simp [Tryz.ntmps70]) ⟨[0, 1, 2, 3, 4, 5], []⟩ (by kernel_rfl) _ ?_
  show vc T _ _ (Option.get! Tryz.f70.body) _ _
  simp only [Tryz.f70,Tryz.ntmps70,Option.get!,iS,iM,eO,J1]
  simp only [vx,T,K5,J0,K6,K7,↓reduceIte,J1,J2,J3,J4,J5,J6,J7,J8,J9,reduceCtorEq,K1,K2,K3,K4,NV,QsC]
  refine Cg c ?_
  simp only [vx,T,K5,J0,K6,K7,↓reduceIte,J1,J2,J3,J4,J5,J6,J7,J8,J9,reduceCtorEq,K1,K2,K3,K4,NV,QsC]
  refine Cg d ?_
  simp only [vx,T,K5,J0,K6,K7,↓reduceIte,J1,J2,J3,J4,J5,J6,J7,J8,J9,reduceCtorEq,K1,K2,K3,K4,NV,QsC]
  exact Ve rfl
theorem r9CmpS (a : Rat) (ha : qm a < 2 ^ 34) : Pr Tryz.prog 40 [NV a, NV a] (.tup [.one (.int .i64 0), .one (.int .i64 0)]) := by
  have c := r9Sub0 a a ha ha
  rw [Rat.add_neg_cancel] at c
  have d : Pr Tryz.prog 71 [NV 0] (.one (.int .i64 0)) := r9Sign0 0 (by decide +kernel)
  refine pv T_ok mixed Tryz.func40 rfl (by decide) _ (by simp [Tryz.ntmps40]) ⟨[0, 1, 2, 3, 4, 5, 6, 7, 15], []⟩ (by kernel_rfl) _ ?_
  show vc T _ _ (Option.get! Tryz.f40.body) _ _
  simp only [Tryz.f40,Tryz.ntmps40,Option.get!,iS,iM,eO,J1]
  simp only [vx,T,K5,J0,K6,K7,↓reduceIte,J1,J2,J3,J4,J5,J6,J7,J8,J9,reduceCtorEq,K1,K2,K3,K4,NV,QsC]
  refine Cg c ?_
  simp only [vx,T,K5,J0,K6,K7,↓reduceIte,J1,J2,J3,J4,J5,J6,J7,J8,J9,reduceCtorEq,K1,K2,K3,K4,NV,QsC]
  refine Cg d ?_
  simp only [vx,T,K5,J0,K6,K7,↓reduceIte,J1,J2,J3,J4,J5,J6,J7,J8,J9,reduceCtorEq,K1,K2,K3,K4,QsC]
  exact Ve rfl
theorem r9Equal0 (a : Rat) (ha : qm a < 2 ^ 34) : Pr Tryz.prog 11 [NV a, NV a] (.one (.bool true)) := by
  have c := r9CmpS a ha
  refine pv T_ok mixed Tryz.func11 rfl (by decide) _ (by simp [Tryz.ntmps11]) ⟨[0, 1, 2, 3, 4, 5, 6], []⟩ (by kernel_rfl) _ ?_
  show vc T _ _ (Option.get! Tryz.f11.body) _ _
  simp only [Tryz.f11,Tryz.ntmps11,Option.get!,iS,iM,eO,J1]
  simp only [vx,T,K5,J0,K6,K7,↓reduceIte,J1,J2,J3,J4,J5,J6,J7,J8,J9,reduceCtorEq,K1,K2,K3,K4,NV,QsC]
  refine Cg c ?_
  simp only [vx,T,K5,J0,K6,K7,↓reduceIte,J1,J2,J3,J4,J5,J6,J7,J8,J9,reduceCtorEq,K1,K2,K3,K4,QsC]
  exact Ve rfl
open Go Go.Eng
open Go.Tw (El addE negE zE mulE QB mS)
def cO (l : List Rat) (v : Int) : Rat := l.getD v.toNat default
theorem getI_mem {l : List Int} {k : Nat} (h : k < l.length) : l.getD k 0 ∈ l := by
  rw [X7, X8 h]; exact List.getElem_mem _
theorem iEval0 (p : List Mono) (l : List Rat) {n d B : Nat} (hp : PB p n d B) (hn : n < 2 ^ 30) (hd : d < 2 ^ 30) (hs : n * (B + d * 17 + 1) < 2 ^ 33) (hl : l.length < 2 ^ 30) (hv : VIn l.length p) (hq : ∀ x ∈ l, qm x ≤ 16) :
    Pr Tryz.prog 10 [PV p, NsV l] (.tup [NV (ev (cO l) p), .one (.int .i64 0)]) := by
  have hpl := hp.n
  have hget : ∀ i, i < p.length → p.getD i default ∈ p := fun i hi => by rw [X7, X8 hi]; exact List.getElem_mem _
  have hvg : ∀ i, i < p.length → ∀ k, k < (p.getD i default).2.length → 0 ≤ (p.getD i default).2.getD k 0 ∧ (p.getD i default).2.getD k 0 < l.length := fun i hi k hk =>
    hv _ (hget i hi) _ (getI_mem hk)
  refine pv T_ok mixed Tryz.func10 rfl (by decide) _ (by simp [Tryz.ntmps10]) ⟨[0, 1, 4, 5, 7, 9, 10, 12, 13, 14, 16, 17, 18, 19, 20, 24, 25, 26, 27, 37, 42, 43, 44, 45, 52, 53, 54, 55, 68, 79], [(20, (.cons 9 [8] (.cons 10 [] .nil .nil) .nil))]⟩ (by kernel_rfl) _ ?_
  show vc T _ _ (Option.get! Tryz.f10.body) _ _
  simp only [Tryz.f10,Tryz.ntmps10,Option.get!,iS,iM,eO,J1]
  simp only [vx,T,K5,J0,K6,K7,↓reduceIte,J1,J2,J3,J4,J5,J6,J7,J8,J9,reduceCtorEq,K1,K2,K3,K4,PV,PC,NsV,NsC]
  refine Lk (fun y : {i : Nat // i ≤ p.length} => ⟨[(0, PV p), (1, NsV l), (4, .one (.ptr 1 0)), (5, .one (.int .i64 0)), (17, PV p), (18, .one (.int .i64 p.length)), (19, .one (.int .i64 y.1))], [(1, ⟨.var [.nil, .nil], true⟩)], 6, 84⟩) (fun y => p.length - y.1) ⟨0, Nat.zero_le _⟩ ?_ (fun ⟨i, hi⟩ => ?_)
  · refine Sa ?_; simp only [rx,Y0,Y1,Y2,Y3,Y4,Y5,Y6,Y7,ren,↓reduceIte,J1,J2,J3,J4,J5,J6,J7,J8,J9,reduceCtorEq,K1,K2,K3,K4,Y8,Y9,X2,X3,X4,PV,PC,NsV,NsC]
  have i1 := wI i (by omega)
  simp only [vx,T,K5,J0,K6,K7,↓reduceIte,J1,J2,J3,J4,J5,J6,J7,J8,J9,reduceCtorEq,K1,K2,K3,K4,PV,PC,NsV,NsC]
  refine ⟨fun g => Lg ?_, fun g => Lg ?_⟩
  · have hil : i < p.length := by omega
    have hvi := hvg i hil
    have hdl := (hp.get hil).2.1
    obtain ⟨a, ha⟩ : ∃ a, a = p.getD i default := ⟨_, rfl⟩
    rw [← ha] at hvi hdl
    simp only [vx,T,K5,J0,K6,K7,↓reduceIte,J1,J2,J3,J4,J5,J6,J7,J8,J9,reduceCtorEq,K1,K2,K3,K4,PV,PC,NsV,NsC,← ha,mC]
    refine ⟨by omega, ?_⟩
    refine Lk (fun y : {k : Nat // k ≤ a.2.length} => ⟨[(0, PV p), (1, NsV l), (4, .one (.ptr 1 0)), (5, .one (.int .i64 0)), (17, PV p), (18, .one (.int .i64 p.length)), (19, .one (.int .i64 i)), (24, .one (.ints .i64 a.2)), (25, .one (.int .i64 a.2.length)), (26, .one (.int .i64 y.1))], [(1, ⟨.var [.nil, .nil], true⟩)], 27, 84⟩) (fun y => a.2.length - y.1) ⟨0, Nat.zero_le _⟩ ?_ (fun ⟨k, hk⟩ => ?_)
    · refine Sa ?_; simp only [rx,Y0,Y1,Y2,Y3,Y4,Y5,Y6,Y7,ren,↓reduceIte,J1,J2,J3,J4,J5,J6,J7,J8,J9,reduceCtorEq,K1,K2,K3,K4,Y8,Y9,X2,X3,X4,PV,PC,NsV,NsC]
    have k1 : IntKind.i64.wrap ((k : Int) + 1) = ((k + 1 : Nat) : Int) := by rw [IntWalk.i64_in _ (by omega)]; omega
    simp only [vx,T,K5,J0,K6,K7,↓reduceIte,J1,J2,J3,J4,J5,J6,J7,J8,J9,reduceCtorEq,K1,K2,K3,K4,PV,PC,NsV,NsC]
    refine ⟨fun g2 => Lg ?_, fun g2 => Lg ?_⟩
    · have hx := hvi k (by omega)
      obtain ⟨x, hxe⟩ : ∃ x, x = a.2.getD k 0 := ⟨_, rfl⟩
      rw [← hxe] at hx
      simp only [vx,T,K5,J0,K6,K7,↓reduceIte,J1,J2,J3,J4,J5,J6,J7,J8,J9,reduceCtorEq,K1,K2,K3,K4,PV,PC,NsV,NsC,← hxe]
      refine ⟨⟨by omega, by omega⟩, fun h => absurd h (by omega), fun _ => Lg ?_⟩
      simp only [vx,T,K5,J0,K6,K7,↓reduceIte,J1,J2,J3,J4,J5,J6,J7,J8,J9,reduceCtorEq,K1,K2,K3,K4,PV,PC,NsV,NsC]
      refine ⟨fun h => absurd h (by omega), fun _ => Lg ?_⟩
      simp only [vx,T,K5,J0,K6,K7,↓reduceIte,J1,J2,J3,J4,J5,J6,J7,J8,J9,reduceCtorEq,K1,K2,K3,K4,PV,PC,NsV,NsC]
      simp only [k1]
      refine Lq ⟨k + 1, by omega⟩ ?_ ?_
      · refine Sa ?_; simp only [rx,Y0,Y1,Y2,Y3,Y4,Y5,Y6,Y7,ren,↓reduceIte,J1,J2,J3,J4,J5,J6,J7,J8,J9,reduceCtorEq,K1,K2,K3,K4,Y8,Y9,X2,X3,X4,PV,PC,NsV,NsC]
      simp only; omega
    simp only [vx,T,K5,J0,K6,K7,↓reduceIte,J1,J2,J3,J4,J5,J6,J7,J8,J9,reduceCtorEq,K1,K2,K3,K4,PV,PC,NsV,NsC]
    simp only [i1]
    refine Lq ⟨i + 1, by omega⟩ ?_ ?_
    · refine Sa ?_; simp only [rx,Y0,Y1,Y2,Y3,Y4,Y5,Y6,Y7,ren,↓reduceIte,J1,J2,J3,J4,J5,J6,J7,J8,J9,reduceCtorEq,K1,K2,K3,K4,Y8,Y9,X2,X3,X4,PV,PC,NsV,NsC]
    simp only; omega
  clear g i1
  simp only [vx,T,K5,J0,K6,K7,↓reduceIte,J1,J2,J3,J4,J5,J6,J7,J8,J9,reduceCtorEq,K1,K2,K3,K4,PV,PC,NsV,NsC]
  refine Cg nFromInt0 ?_
  simp only [vx,T,K5,J0,K6,K7,↓reduceIte,J1,J2,J3,J4,J5,J6,J7,J8,J9,reduceCtorEq,K1,K2,K3,K4,NV,QsC,PV,PC,NsV,NsC]
  have hcs : ∀ m ∈ p, ∀ v ∈ m.2, qm (cO l v) ≤ 16 := fun m hm v hvm => by
    have h := hv m hm v hvm
    unfold cO
    rw [X7, X8 (show v.toNat < l.length by omega)]
    exact hq _ (List.getElem_mem _)
  have hcO : ∀ v, cO l v = l.getD v.toNat default := fun _ => rfl
  obtain ⟨c, hc⟩ : ∃ c, c = cO l := ⟨_, rfl⟩
  rw [← hc] at hcs hcO
  rw [← hc]
  refine Lk (fun y : {i : Nat // i ≤ p.length} => ⟨[(1, NsV l), (4, .one (.ptr 1 0)), (5, .one (.int .i64 0)), (10, .one (.ptr 8 0)), (42, PV p), (43, .one (.int .i64 p.length)), (44, .one (.int .i64 y.1))], [(1, ⟨.var [.nil, .nil], true⟩), (8, ⟨.var [.nil, QsC [evK c p y.1]], true⟩)], 12, 84⟩) (fun y => p.length - y.1) ⟨0, Nat.zero_le _⟩ ?_ (fun ⟨i, hi⟩ => ?_)
  · refine Sa ?_; simp only [rx,Y0,Y1,Y2,Y3,Y4,Y5,Y6,Y7,ren,↓reduceIte,J1,J2,J3,J4,J5,J6,J7,J8,J9,reduceCtorEq,K1,K2,K3,K4,Y8,Y9,X2,X3,X4,PV,PC,NsV,NsC,QsC,evK_zero]
  have i1 := wI i (by omega)
  simp only [vx,T,K5,J0,K6,K7,↓reduceIte,J1,J2,J3,J4,J5,J6,J7,J8,J9,reduceCtorEq,K1,K2,K3,K4,PV,PC,NsV,NsC,QsC]
  refine ⟨fun g => Lg ?_, fun g => Lg ?_⟩
  · have hil : i < p.length := by omega
    have hvi := hvg i hil
    have hdl := (hp.get hil).2.1
    have hqa := (hp.get hil).1
    have hes := evK_succ c p hil
    obtain ⟨a, ha⟩ : ∃ a, a = p.getD i default := ⟨_, rfl⟩
    rw [← ha] at hvi hdl hqa hes
    have hB : B + d * 17 + 1 < 2 ^ 33 := Nat.lt_of_le_of_lt (Nat.le_mul_of_pos_left _ (by omega)) hs
    have hmem := hget i hil
    have hev : qm (evK c p i) ≤ 2 + i * (B + d * 17 + 1) := qm_evK (S := 16) hp hcs i hi
    have hiM : i * (B + d * 17 + 1) ≤ n * (B + d * 17 + 1) := Nat.mul_le_mul_right _ (by omega)
    rw [← ha] at hmem
    have hmv : ∀ k, k ≤ a.2.length → qm (mvK c a.1 a.2 k) ≤ B + d * 17 := fun k hk => by
      have h1 := qm_mvK (S := 16) (hcs a hmem) hqa k hk
      have h2 : k * 17 ≤ d * 17 := Nat.mul_le_mul_right _ (by omega)
      omega
    have cf := nFromRat0 a.1 (by omega)
    simp only [vx,T,K5,J0,K6,K7,↓reduceIte,J1,J2,J3,J4,J5,J6,J7,J8,J9,reduceCtorEq,K1,K2,K3,K4,PV,PC,NsV,NsC,QsC,← ha,mC]
    refine ⟨by omega, Cg cf ?_⟩
    simp only [vx,T,K5,J0,K6,K7,↓reduceIte,J1,J2,J3,J4,J5,J6,J7,J8,J9,reduceCtorEq,K1,K2,K3,K4,PV,PC,NsV,NsC,NV,QsC]
    refine Lk (fun y : {k : Nat // k ≤ a.2.length} => ⟨[(1, NsV l), (4, .one (.ptr 1 0)), (5, .one (.int .i64 0)), (10, .one (.ptr 8 0)), (13, .one (.ptr 19 0)), (14, .one (.int .i64 0)), (42, PV p), (43, .one (.int .i64 p.length)), (44, .one (.int .i64 i)), (52, .one (.ints .i64 a.2)), (53, .one (.int .i64 a.2.length)), (54, .one (.int .i64 y.1))], [(1, ⟨.var [.nil, .nil], true⟩), (8, ⟨.var [.nil, QsC [evK c p i]], true⟩), (19, ⟨.var [.nil, QsC [mvK c a.1 a.2 y.1]], true⟩)], 25, 84⟩) (fun y => a.2.length - y.1) ⟨0, Nat.zero_le _⟩ ?_ (fun ⟨k, hk⟩ => ?_)
    · refine Sa ?_; simp only [rx,Y0,Y1,Y2,Y3,Y4,Y5,Y6,Y7,ren,↓reduceIte,J1,J2,J3,J4,J5,J6,J7,J8,J9,reduceCtorEq,K1,K2,K3,K4,Y8,Y9,X2,X3,X4,PV,PC,NsV,NsC,QsC,mvK_zero]
    have k1 : IntKind.i64.wrap ((k : Int) + 1) = ((k + 1 : Nat) : Int) := by rw [IntWalk.i64_in _ (by omega)]; omega
    simp only [vx,T,K5,J0,K6,K7,↓reduceIte,J1,J2,J3,J4,J5,J6,J7,J8,J9,reduceCtorEq,K1,K2,K3,K4,PV,PC,NsV,NsC,QsC]
    refine ⟨fun g2 => Lg ?_, fun g2 => Lg ?_⟩
    · have hkl : k < a.2.length := by omega
      have hx := hvi k hkl
      have hst := mvK_succ c a.1 a.2 hkl
      have hcx := hcs a hmem _ (getI_mem hkl)
      obtain ⟨x, hxe⟩ : ∃ x, x = a.2.getD k 0 := ⟨_, rfl⟩
      rw [← hxe] at hx hst hcx
      rw [hcO] at hst hcx
      obtain ⟨y, hy⟩ : ∃ y, y = l.getD x.toNat default := ⟨_, rfl⟩
      rw [← hy] at hst hcx
      have cm := nMul0 (mvK c a.1 a.2 k) y (A := B + d * 17 + 1) (B := 16) (by omega) (by omega) (by have := hmv k hk; omega) hcx (by omega)
      simp only [vx,T,K5,J0,K6,K7,↓reduceIte,J1,J2,J3,J4,J5,J6,J7,J8,J9,reduceCtorEq,K1,K2,K3,K4,PV,PC,NsV,NsC,QsC,← hxe,fN,← hy,nC]
      refine ⟨⟨by omega, by omega⟩, ⟨by omega, by omega⟩, Cg cm ?_⟩
      simp only [vx,T,K5,J0,K6,K7,↓reduceIte,J1,J2,J3,J4,J5,J6,J7,J8,J9,reduceCtorEq,K1,K2,K3,K4,PV,PC,NsV,NsC,NV,QsC]
      simp only [k1]
      refine Lq ⟨k + 1, by omega⟩ ?_ ?_
      · refine Sa ?_; simp only [rx,Y0,Y1,Y2,Y3,Y4,Y5,Y6,Y7,ren,↓reduceIte,J1,J2,J3,J4,J5,J6,J7,J8,J9,reduceCtorEq,K1,K2,K3,K4,Y8,Y9,X2,X3,X4,PV,PC,NsV,NsC,QsC,hst]
      simp only; omega
    have hkl : k = a.2.length := by omega
    have hmk := hmv k hk
    subst hkl
    have cd := nAdd0 (evK c p i) (mvK c a.1 a.2 a.2.length) (by omega) (by omega)
    simp only [vx,T,K5,J0,K6,K7,↓reduceIte,J1,J2,J3,J4,J5,J6,J7,J8,J9,reduceCtorEq,K1,K2,K3,K4,PV,PC,NsV,NsC,NV,QsC]
    refine Cg cd ?_
    simp only [vx,T,K5,J0,K6,K7,↓reduceIte,J1,J2,J3,J4,J5,J6,J7,J8,J9,reduceCtorEq,K1,K2,K3,K4,PV,PC,NsV,NsC,NV,QsC]
    simp only [i1]
    refine Lq ⟨i + 1, by omega⟩ ?_ ?_
    · refine Sa ?_; simp only [rx,Y0,Y1,Y2,Y3,Y4,Y5,Y6,Y7,ren,↓reduceIte,J1,J2,J3,J4,J5,J6,J7,J8,J9,reduceCtorEq,K1,K2,K3,K4,Y8,Y9,X2,X3,X4,PV,PC,NsV,NsC,QsC,hes]
    simp only; omega
  have hil : i = p.length := by omega
  subst hil
  simp only [vx,T,K5,J0,K6,K7,↓reduceIte,J1,J2,J3,J4,J5,J6,J7,J8,J9,reduceCtorEq,K1,K2,K3,K4,PV,PC,NsV,NsC,QsC]
  rw [evK_all]
  exact VLe.refl _
open Go Go.Eng
theorem cValid_out (k : Int) (h : k < 1 ∨ 17 < k) (pts cir : List Int) (m : Nat) (f : Nat → Nat → C) (side np nc : Int) :
    Pr Tryz.prog 16 [.agg [.int .i64 k, .ints .i64 pts, .ints .i64 cir, .rows 7 m f, .int .i64 side], .one (.int .i64 np), .one (.int .i64 nc)] (.one (.bool false)) := by
  have ko := kOf_out k h
  unfold rowF at ko
  refine pv T_ok mixed Tryz.func16 rfl (by decide) _ (by simp [Tryz.ntmps16]) ⟨[0, 1, 2, 3, 6, 7, 8, 9, 10, 11, 57, 62, 71, 93, 97, 98], []⟩ (by kernel_rfl) _ ?_
  show vc T _ _ (Option.get! Tryz.f16.body) _ _
  simp only [Tryz.f16,Tryz.ntmps16,Option.get!,iS,iM,eO,J1]
  simp only [vx,T,K5,J0,K6,K7,↓reduceIte,J1,J2,J3,J4,J5,J6,J7,J8,J9,reduceCtorEq,K1,K2,K3,K4]
  refine Cg ko ?_
  simp only [vx,T,K5,J0,K6,K7,↓reduceIte,J1,J2,J3,J4,J5,J6,J7,J8,J9,reduceCtorEq,K1,K2,K3,K4]
  exact Ve rfl
structure RQ where
  s : Bool
  xs : List Int
  t : Bool
  ys : List Int
deriving Inhabited
def rqC (r : RQ) : Nat → C
  | 0 => .bool r.s
  | 1 => .ints .u32 r.xs
  | 2 => .bool r.t
  | 3 => .ints .u32 r.ys
  | _ => .any
def RQs (l : List RQ) : C := .rows 4 l.length (fun i => rqC (l.getD i default))
structure RQOk (r : RQ) : Prop where
  x : InR r.xs
  y : InR r.ys
  xl : r.xs.length < 2 ^ 30
  yl : r.ys.length < 2 ^ 30
def fewB (r : RQ) : Bool := decide ((r.xs.length : Int) ≤ 4) && (decide ((r.ys.length : Int) ≤ 4) && okQ r.s r.xs r.t r.ys)
theorem few_list {l : List RQ} (h : (List.range l.length).all (fun i => fewB (l.getD i default)) = true) : ∃ qs : List Rat, (∀ q ∈ qs, qm q ≤ 4) ∧ qs.length = l.length ∧ CLe (RQs l) (QsC qs) := by
  obtain ⟨g, hg⟩ := Classical.axiomOfChoice (r := fun (i : Nat) (q : Rat) => i < l.length → qm q ≤ 4 ∧ ∀ j, j < 4 → rqC (l.getD i default) j = qC q j) (fun i => by
    by_cases hi : i < l.length
    · have h1 := all_range.1 h i hi
      unfold fewB at h1
      simp only [Bool.and_eq_true,decide_eq_true_eq] at h1
      obtain ⟨h2, h3, h4⟩ := h1
      obtain ⟨q, e1, e2, e3, e4⟩ := okQ_ex h4
      have hl1 : (zm q.num).length ≤ 4 := by rw [← e2]; omega
      have hl2 : (zm (q.den : Int)).length ≤ 4 := by rw [← e4]; omega
      rw [zm_length] at hl1 hl2
      refine ⟨q, fun _ => ⟨?_, fun j hj => ?_⟩⟩
      · unfold qm
        have : zn (q.den : Int) = nl q.den := rfl
        omega
      match j, hj with
      | 0, _ => show C.bool _ = _; rw [e1]; rfl
      | 1, _ => show C.ints .u32 _ = _; rw [e2]; rfl
      | 2, _ => show C.bool _ = _; rw [e3]; rfl
      | 3, _ => show C.ints .u32 _ = _; rw [e4]; rfl
    exact ⟨0, fun h => absurd h hi⟩)
  refine ⟨(List.range l.length).map g, fun q hq => ?_, by simp, CLe.rows (by simp) fun i j hi hj => CLe.of_eq ?_⟩
  · obtain ⟨i, hi, rfl⟩ := List.mem_map.1 hq
    exact (hg i (List.mem_range.1 hi)).1
  have e : ((List.range l.length).map g).getD i default = g i := by
    rw [X7, List.getElem?_map, List.getElem?_range hi]; rfl
  rw [e]
  exact (hg i hi).2 j hj
def caseL (k : Int) (pts cir : List Int) (m : Nat) (f : Nat → Nat → C) (side : Int) (rq : List RQ) (cs : List Int) (np : Int) : List C := [.int .i64 k, .ints .i64 pts, .ints .i64 cir, .rows 7 m f, .int .i64 side, RQs rq, .ints .i64 cs, .int .i64 np]
def fitB (pts cir : List Int) (m : Nat) (rq : List RQ) (cs : List Int) (np : Int) : Bool :=
  decide (0 ≤ np) && (decide (np ≤ 12) && (decide (cs.length ≤ 4) && (decide (pts.length ≤ 8) && (decide (cir.length ≤ 4) && (decide (m ≤ 4) && (decide (rq.length = m) && (wiB cs np && (List.range rq.length).all (fun i => fewB (rq.getD i default)))))))))
theorem fits_spec (k : Int) (pts cir : List Int) (m : Nat) (f : Nat → Nat → C) (side : Int) (rq : List RQ) (cs : List Int) (np : Int) (hpl : pts.length < 2 ^ 40) (hcl : cir.length < 2 ^ 40) (hm : m < 2 ^ 40) (hrl : rq.length < 2 ^ 40) (hsl : cs.length < 2 ^ 40) (hrq : ∀ r ∈ rq, RQOk r) (b : Bool)
    (hv : Pr Tryz.prog 16 [.agg [.int .i64 k, .ints .i64 pts, .ints .i64 cir, .rows 7 m f, .int .i64 side], .one (.int .i64 np), .one (.int .i64 cs.length)] (.one (.bool b))) :
    Pr Tryz.prog 5 [.agg (caseL k pts cir m f side rq cs np)] (.one (.bool (fitB pts cir m rq cs np && b))) := by
  have hfew : ∀ i, i < rq.length → Pr Tryz.prog 6 [.agg [.bool (rq.getD i default).s, .ints .u32 (rq.getD i default).xs, .bool (rq.getD i default).t, .ints .u32 (rq.getD i default).ys], .one (.int .i64 4)] (.one (.bool (fewB (rq.getD i default)))) := fun i hi => by
    have h := hrq (rq.getD i default) (by rw [X7, X8 hi]; exact List.getElem_mem _)
    exact Few_spec _ _ _ _ 4 h.x h.y (by have := h.xl; omega) (by have := h.yl; omega)
  unfold caseL
  refine pv T_ok mixed Tryz.func5 rfl (by decide) _ (by simp [Tryz.ntmps5]) ⟨[0, 1, 2, 4, 6, 51, 53, 54, 55, 56, 66, 69, 70, 71, 72, 77], []⟩ (by kernel_rfl) _ ?_
  show vc T _ _ (Option.get! Tryz.f5.body) _ _
  simp only [Tryz.f5,Tryz.ntmps5,Option.get!,iS,iM,eO,J1]
  simp only [vx,T,K5,J0,K6,K7,↓reduceIte,J1,J2,J3,J4,J5,J6,J7,J8,J9,reduceCtorEq,K1,K2,K3,K4,RQs]
  refine ⟨fun g1 => Lg ?_, fun g1 => Lg ?_⟩
  · simp only [vx,T,K5,J0,K6,K7,↓reduceIte,J1,J2,J3,J4,J5,J6,J7,J8,J9,reduceCtorEq,K1,K2,K3,K4,RQs]
    exact vb (by unfold fitB; rw [decide_eq_false (p := 0 ≤ np) (by omega)]; rfl)
  simp only [vx,T,K5,J0,K6,K7,↓reduceIte,J1,J2,J3,J4,J5,J6,J7,J8,J9,reduceCtorEq,K1,K2,K3,K4,RQs]
  refine ⟨fun g2 => Lg ?_, fun g2 => Lg ?_⟩
  · simp only [vx,T,K5,J0,K6,K7,↓reduceIte,J1,J2,J3,J4,J5,J6,J7,J8,J9,reduceCtorEq,K1,K2,K3,K4,RQs]
    exact vb (by unfold fitB; rw [decide_eq_false (p := np ≤ 12) (by omega), Bool.false_and, Bool.and_false]; rfl)
  simp only [vx,T,K5,J0,K6,K7,↓reduceIte,J1,J2,J3,J4,J5,J6,J7,J8,J9,reduceCtorEq,K1,K2,K3,K4,RQs]
  refine ⟨fun g3 => Lg ?_, fun g3 => Lg ?_⟩
  · simp only [vx,T,K5,J0,K6,K7,↓reduceIte,J1,J2,J3,J4,J5,J6,J7,J8,J9,reduceCtorEq,K1,K2,K3,K4,RQs]
    exact vb (by unfold fitB; rw [decide_eq_false (p := cs.length ≤ 4) (by omega), Bool.false_and, Bool.and_false, Bool.and_false]; rfl)
  simp only [vx,T,K5,J0,K6,K7,↓reduceIte,J1,J2,J3,J4,J5,J6,J7,J8,J9,reduceCtorEq,K1,K2,K3,K4,RQs]
  refine ⟨fun g4 => Lg ?_, fun g4 => Lg ?_⟩
  · simp only [vx,T,K5,J0,K6,K7,↓reduceIte,J1,J2,J3,J4,J5,J6,J7,J8,J9,reduceCtorEq,K1,K2,K3,K4,RQs]
    exact vb (by unfold fitB; rw [decide_eq_false (p := pts.length ≤ 8) (by omega), Bool.false_and, Bool.and_false, Bool.and_false, Bool.and_false]; rfl)
  simp only [vx,T,K5,J0,K6,K7,↓reduceIte,J1,J2,J3,J4,J5,J6,J7,J8,J9,reduceCtorEq,K1,K2,K3,K4,RQs]
  refine ⟨fun g5 => Lg ?_, fun g5 => Lg ?_⟩
  · simp only [vx,T,K5,J0,K6,K7,↓reduceIte,J1,J2,J3,J4,J5,J6,J7,J8,J9,reduceCtorEq,K1,K2,K3,K4,RQs]
    exact vb (by unfold fitB; rw [decide_eq_false (p := cir.length ≤ 4) (by omega), Bool.false_and, Bool.and_false, Bool.and_false, Bool.and_false, Bool.and_false]; rfl)
  simp only [vx,T,K5,J0,K6,K7,↓reduceIte,J1,J2,J3,J4,J5,J6,J7,J8,J9,reduceCtorEq,K1,K2,K3,K4,RQs]
  refine ⟨fun g6 => Lg ?_, fun g6 => Lg ?_⟩
  · simp only [vx,T,K5,J0,K6,K7,↓reduceIte,J1,J2,J3,J4,J5,J6,J7,J8,J9,reduceCtorEq,K1,K2,K3,K4,RQs]
    exact vb (by unfold fitB; rw [decide_eq_false (p := m ≤ 4) (by omega), Bool.false_and, Bool.and_false, Bool.and_false, Bool.and_false, Bool.and_false, Bool.and_false]; rfl)
  simp only [vx,T,K5,J0,K6,K7,↓reduceIte,J1,J2,J3,J4,J5,J6,J7,J8,J9,reduceCtorEq,K1,K2,K3,K4,RQs]
  refine ⟨fun g7 => Lg ?_, fun g7 => Lg ?_⟩
  · simp only [vx,T,K5,J0,K6,K7,↓reduceIte,J1,J2,J3,J4,J5,J6,J7,J8,J9,reduceCtorEq,K1,K2,K3,K4,RQs]
    exact vb (by unfold fitB; rw [decide_eq_false (p := rq.length = m) (by omega), Bool.false_and, Bool.and_false, Bool.and_false, Bool.and_false, Bool.and_false, Bool.and_false, Bool.and_false]; rfl)
  simp only [vx,T,K5,J0,K6,K7,↓reduceIte,J1,J2,J3,J4,J5,J6,J7,J8,J9,reduceCtorEq,K1,K2,K3,K4,RQs]
  have ef : fitB pts cir m rq cs np = (wiB cs np && (List.range rq.length).all (fun i => fewB (rq.getD i default))) := by
    unfold fitB
    rw [decide_eq_true (p := 0 ≤ np) (by omega), decide_eq_true (p := np ≤ 12) (by omega), decide_eq_true (p := cs.length ≤ 4) (by omega), decide_eq_true (p := pts.length ≤ 8) (by omega), decide_eq_true (p := cir.length ≤ 4) (by omega), decide_eq_true (p := m ≤ 4) (by omega), decide_eq_true (p := rq.length = m) (by omega)]
    simp only [Bool.true_and]
  rw [ef]
  refine Lk (fun y : {i : Nat // i ≤ cs.length ∧ ∀ j, j < i → 0 ≤ cs.getD j 0 ∧ cs.getD j 0 < np} => ⟨[(1, .one (.ptr 1 0)), (2, .one (.bool false)), (53, .one (.ints .i64 cs)), (54, .one (.int .i64 cs.length)), (55, .one (.int .i64 y.1))], [(1, ⟨.var [.int .i64 k, .ints .i64 pts, .ints .i64 cir, .rows 7 m f, .int .i64 side, RQs rq, .ints .i64 cs, .int .i64 np], true⟩)], 52, 87⟩) (fun y => cs.length - y.1) ⟨0, Nat.zero_le _, fun j h => absurd h (Nat.not_lt_zero _)⟩ ?_ (fun ⟨i, hi, hz⟩ => ?_)
  · refine Sa ?_; simp only [rx,Y0,Y1,Y2,Y3,Y4,Y5,Y6,Y7,ren,↓reduceIte,J1,J2,J3,J4,J5,J6,J7,J8,J9,reduceCtorEq,K1,K2,K3,K4,Y8,Y9,X2,X3,X4,RQs]
  have i1 := wI i (by omega)
  simp only [vx,T,K5,J0,K6,K7,↓reduceIte,J1,J2,J3,J4,J5,J6,J7,J8,J9,reduceCtorEq,K1,K2,K3,K4,RQs]
  refine ⟨fun l1 => Lg ?_, fun l1 => Lg ?_⟩
  · have hil : i < cs.length := by omega
    obtain ⟨x, hx⟩ : ∃ x, x = cs.getD i 0 := ⟨_, rfl⟩
    simp only [vx,T,K5,J0,K6,K7,↓reduceIte,J1,J2,J3,J4,J5,J6,J7,J8,J9,reduceCtorEq,K1,K2,K3,K4,RQs,← hx]
    refine ⟨⟨by omega, by omega⟩, fun l2 => Lg ?_, fun l2 => Lg ?_⟩
    · simp only [vx,T,K5,J0,K6,K7,↓reduceIte,J1,J2,J3,J4,J5,J6,J7,J8,J9,reduceCtorEq,K1,K2,K3,K4,RQs]
      exact vb (by rw [show wiB cs np = false from all_range_f hil (by rw [← hx]; simp; omega)]; rfl)
    simp only [vx,T,K5,J0,K6,K7,↓reduceIte,J1,J2,J3,J4,J5,J6,J7,J8,J9,reduceCtorEq,K1,K2,K3,K4,RQs]
    refine ⟨fun l3 => Lg ?_, fun l3 => Lg ?_⟩
    · simp only [vx,T,K5,J0,K6,K7,↓reduceIte,J1,J2,J3,J4,J5,J6,J7,J8,J9,reduceCtorEq,K1,K2,K3,K4,RQs]
      exact vb (by rw [show wiB cs np = false from all_range_f hil (by rw [← hx]; simp; omega)]; rfl)
    simp only [vx,T,K5,J0,K6,K7,↓reduceIte,J1,J2,J3,J4,J5,J6,J7,J8,J9,reduceCtorEq,K1,K2,K3,K4,RQs]
    simp only [i1]
    refine Lq ⟨i + 1, by omega, fun j hj => ?_⟩ ?_ ?_
    · by_cases hji : j < i
      · exact hz j hji
      rw [show j = i by omega, ← hx]; omega
    · refine Sa ?_; simp only [rx,Y0,Y1,Y2,Y3,Y4,Y5,Y6,Y7,ren,↓reduceIte,J1,J2,J3,J4,J5,J6,J7,J8,J9,reduceCtorEq,K1,K2,K3,K4,Y8,Y9,X2,X3,X4,RQs]
    simp only; omega
  have ew : wiB cs np = true := all_range.2 fun j hj => by
    have := hz j (by omega)
    simp only [Bool.and_eq_true,decide_eq_true_eq]
    exact this
  rw [ew, Bool.true_and]
  clear ef ew hz
  simp only [vx,T,K5,J0,K6,K7,↓reduceIte,J1,J2,J3,J4,J5,J6,J7,J8,J9,reduceCtorEq,K1,K2,K3,K4,RQs]
  refine Lk (fun y : {i : Nat // i ≤ rq.length ∧ ∀ j, j < i → fewB (rq.getD j default) = true} => ⟨[(1, .one (.ptr 1 0)), (2, .one (.bool false)), (69, .one (RQs rq)), (70, .one (.int .i64 rq.length)), (71, .one (.int .i64 y.1))], [(1, ⟨.var [.int .i64 k, .ints .i64 pts, .ints .i64 cir, .rows 7 m f, .int .i64 side, RQs rq, .ints .i64 cs, .int .i64 np], true⟩)], 57, 87⟩) (fun y => rq.length - y.1) ⟨0, Nat.zero_le _, fun j h => absurd h (Nat.not_lt_zero _)⟩ ?_ (fun ⟨i, hi, hz⟩ => ?_)
  · refine Sa ?_; simp only [rx,Y0,Y1,Y2,Y3,Y4,Y5,Y6,Y7,ren,↓reduceIte,J1,J2,J3,J4,J5,J6,J7,J8,J9,reduceCtorEq,K1,K2,K3,K4,Y8,Y9,X2,X3,X4,RQs]
  have i1 := wI i (by omega)
  simp only [vx,T,K5,J0,K6,K7,↓reduceIte,J1,J2,J3,J4,J5,J6,J7,J8,J9,reduceCtorEq,K1,K2,K3,K4,RQs]
  refine ⟨fun l2 => Lg ?_, fun l2 => Lg ?_⟩
  · have hil : i < rq.length := by omega
    have hfi := hfew i hil
    obtain ⟨x, hx⟩ : ∃ x, x = rq.getD i default := ⟨_, rfl⟩
    rw [← hx] at hfi
    simp only [vx,T,K5,J0,K6,K7,↓reduceIte,J1,J2,J3,J4,J5,J6,J7,J8,J9,reduceCtorEq,K1,K2,K3,K4,RQs,← hx,rqC]
    refine ⟨⟨by omega, by omega⟩, Cg hfi ?_⟩
    simp only [vx,T,K5,J0,K6,K7,↓reduceIte,J1,J2,J3,J4,J5,J6,J7,J8,J9,reduceCtorEq,K1,K2,K3,K4,RQs]
    refine ⟨fun l3 => Lg ?_, fun l3 => Lg ?_⟩
    · have l3 : fewB x = false := by simpa using l3
      simp only [vx,T,K5,J0,K6,K7,↓reduceIte,J1,J2,J3,J4,J5,J6,J7,J8,J9,reduceCtorEq,K1,K2,K3,K4,RQs]
      exact vb (by rw [show (List.range rq.length).all (fun i => fewB (rq.getD i default)) = false from all_range_f hil (by rw [← hx]; exact l3)]; rfl)
    have l3 : fewB x = true := by simpa using l3
    simp only [vx,T,K5,J0,K6,K7,↓reduceIte,J1,J2,J3,J4,J5,J6,J7,J8,J9,reduceCtorEq,K1,K2,K3,K4,RQs]
    simp only [i1]
    refine Lq ⟨i + 1, by omega, fun j hj => ?_⟩ ?_ ?_
    · by_cases hji : j < i
      · exact hz j hji
      rw [show j = i by omega, ← hx]; exact l3
    · refine Sa ?_; simp only [rx,Y0,Y1,Y2,Y3,Y4,Y5,Y6,Y7,ren,↓reduceIte,J1,J2,J3,J4,J5,J6,J7,J8,J9,reduceCtorEq,K1,K2,K3,K4,Y8,Y9,X2,X3,X4,RQs]
    simp only; omega
  have er : (List.range rq.length).all (fun i => fewB (rq.getD i default)) = true := all_range.2 fun j hj => hz j (by omega)
  rw [er, Bool.true_and]
  simp only [vx,T,K5,J0,K6,K7,↓reduceIte,J1,J2,J3,J4,J5,J6,J7,J8,J9,reduceCtorEq,K1,K2,K3,K4,RQs]
  refine Cg hv ?_
  simp only [vx,T,K5,J0,K6,K7,↓reduceIte,J1,J2,J3,J4,J5,J6,J7,J8,J9,reduceCtorEq,K1,K2,K3,K4,RQs]
  exact Ve rfl
open Go Go.Eng
def LeL : List C → List C → Prop
  | [], [] => True
  | a :: x, b :: y => CLe a b ∧ LeL x y
  | _, _ => False
theorem LeL.rep {ok : Nat → Prop} {w : World} : ∀ {a b : List C} {vs : List Value}, LeL a b → RepL loc0 dom0 ok w a vs → RepL loc0 dom0 ok w b vs
  | [], [], _, _, h => h
  | _ :: _, _ :: _, [], _, h => h.elim
  | _ :: _, _ :: _, _ :: _, ha, h => ⟨RepC.of_repI (ha.1 _ _ _ (RepI.of_loc0 h.1)), LeL.rep ha.2 h.2⟩
  | [], _ :: _, _, ha, _ => ha.elim
  | _ :: _, [], _, ha, _ => ha.elim
theorem VLeN_agg {a b : List C} (h : LeL a b) : VLeN (.agg a) (.agg b) := fun ok w v hr => by
  obtain ⟨vs, e, hl⟩ := hr
  exact ⟨vs, e, h.rep hl⟩
set_option maxRecDepth 100000 in
theorem okb_rats {B n : Nat} {cs : List C} (h : OkC Tryz.prog B n 26 cs) : ∃ (c : C) (rq : List RQ), cs = [c] ∧ CLe c (RQs rq) ∧ rq.length ≤ B ∧ ∀ r ∈ rq, (InR r.xs ∧ r.xs.length ≤ B) ∧ InR r.ys ∧ r.ys.length ≤ B := by
  cases n with
  | zero => exact h.elim
  | succ n =>
    simp only [OkC,Tryz.underlying26,Tryz.underlying33] at h
    obtain ⟨m, f, rfl, hB, hm⟩ := h
    have h4 : Tryz.prog.cellsOf 33 = 4 := by kernel_rfl
    rw [h4] at hm ⊢
    obtain ⟨g, hg⟩ := Classical.axiomOfChoice (r := fun (i : Nat) (a : RQ) => i < m → (List.range 4).map (f i) = (List.range 4).map (rqC a) ∧ (InR a.xs ∧ a.xs.length ≤ B) ∧ InR a.ys ∧ a.ys.length ≤ B) (fun i => by
      by_cases hi : i < m
      · obtain ⟨s, xs, t, ys, h1, h2, h3⟩ := okb_rat (hm i hi); exact ⟨⟨s, xs, t, ys⟩, fun _ => ⟨h1, h2, h3⟩⟩
      exact ⟨default, fun h => absurd h hi⟩)
    refine ⟨_, (List.range m).map g, rfl, CLe.rows (by simp) fun i j hi hj => CLe.of_eq ?_, by simpa using hB, fun a ha => ?_⟩
    · have h1 := congrArg (fun l : List C => l[j]?) (hg i hi).1
      simp only [List.getElem?_map,List.getElem?_range hj,Option.map_some,Option.some.injEq] at h1
      rw [h1]
      congr 1
      rw [X7, List.getElem?_map, List.getElem?_range hi]; rfl
    obtain ⟨i, hi, rfl⟩ := List.mem_map.1 ha
    exact (hg i (List.mem_range.1 hi)).2
structure ConOk (B : Nat) (pts cir : List Int) (m : Nat) (f : Nat → Nat → C) : Prop where
  hp : pts.length ≤ B
  hc : cir.length ≤ B
  hm : m ≤ B
  hf : ∃ j, ∀ i, i < m → OkC Tryz.prog B j 54 [f i 0, f i 1, f i 2, f i 3, f i 4, f i 5, f i 6]
set_option maxRecDepth 100000 in
theorem okb_con {B n : Nat} {cs : List C} (h : OkC Tryz.prog B n 25 cs) : ∃ k pts cir m f side, cs = [.int .i64 k, .ints .i64 pts, .ints .i64 cir, .rows 7 m f, .int .i64 side] ∧ ConOk B pts cir m f := by
  cases n with
  | zero => exact h.elim
  | succ n =>
    simp only [OkC,Tryz.underlying25] at h
    obtain ⟨c1, r1, rfl, h1, c2, r2, rfl, h2, c3, r3, rfl, h3, c4, r4, rfl, h4, c5, r5, rfl, h5, h6⟩ := h
    have h6 : r5 = [] := h6
    subst h6
    obtain ⟨k, rfl, _⟩ := okb_i64 h1
    obtain ⟨pts, rfl, hp⟩ := okb_i64s h2
    obtain ⟨cir, rfl, hc⟩ := okb_i64s h3
    obtain ⟨side, rfl, _⟩ := okb_i64 h5
    cases n with
    | zero => exact h4.elim
    | succ j =>
      simp only [OkC,Tryz.underlying23,Tryz.underlying54] at h4
      obtain ⟨m, f, rfl, hm, hf⟩ := h4
      have h7 : Tryz.prog.cellsOf 54 = 7 := by kernel_rfl
      rw [h7] at hf ⊢
      exact ⟨k, pts, cir, m, f, side, rfl, ⟨hp, hc, hm, j, hf⟩⟩
structure CaseOk (B : Nat) (pts cir : List Int) (m : Nat) (f : Nat → Nat → C) (rq : List RQ) (cs : List Int) : Prop where
  hcon : ConOk B pts cir m f
  hr : rq.length ≤ B ∧ ∀ r ∈ rq, (InR r.xs ∧ r.xs.length ≤ B) ∧ InR r.ys ∧ r.ys.length ≤ B
  hs : cs.length ≤ B
set_option maxRecDepth 100000 in
theorem okb_case {B n : Nat} {cells : List C} (h : OkC Tryz.prog B n 28 cells) : ∃ k pts cir m f side rq cs np, LeL cells (caseL k pts cir m f side rq cs np) ∧ CaseOk B pts cir m f rq cs := by
  cases n with
  | zero => exact h.elim
  | succ n =>
    simp only [OkC,Tryz.underlying28] at h
    obtain ⟨c1, r1, rfl, h1, c2, r2, rfl, h2, c3, r3, rfl, h3, c4, r4, rfl, h4, h5⟩ := h
    have h5 : r4 = [] := h5
    subst h5
    obtain ⟨k, pts, cir, m, f, side, rfl, hcon⟩ := okb_con h1
    obtain ⟨c, rq, rfl, hle, hr⟩ := okb_rats h2
    obtain ⟨cs, rfl, hs⟩ := okb_i64s h3
    obtain ⟨np, rfl, _⟩ := okb_i64 h4
    exact ⟨k, pts, cir, m, f, side, rq, cs, np, ⟨.refl _, .refl _, .refl _, .refl _, .refl _, hle, .refl _, .refl _, trivial⟩, ⟨hcon, hr, hs⟩⟩
open Go Go.Eng
open Go Go.Eng
open Go Go.Eng
def few2 (r : RQ) : Bool := decide ((r.xs.length : Int) ≤ 2) && (decide ((r.ys.length : Int) ≤ 2) && okQ r.s r.xs r.t r.ys)
theorem few2_ex (r : RQ) : ∃ q : Rat, few2 r = true → qm q ≤ 4 ∧ r.s = zs q.num ∧ r.xs = zm q.num ∧ r.t = zs (q.den : Int) ∧ r.ys = zm (q.den : Int) := by
  cases h : few2 r with
  | false => exact ⟨0, fun h => absurd h (by simp)⟩
  | true =>
    unfold few2 at h
    simp only [Bool.and_eq_true,decide_eq_true_eq] at h
    obtain ⟨h2, h3, h4⟩ := h
    obtain ⟨q, e1, e2, e3, e4⟩ := okQ_ex h4
    have hl1 : (zm q.num).length ≤ 2 := by rw [← e2]; omega
    have hl2 : (zm (q.den : Int)).length ≤ 2 := by rw [← e4]; omega
    rw [zm_length] at hl1 hl2
    refine ⟨q, fun _ => ⟨?_, e1, e2, e3, e4⟩⟩
    unfold qm
    have : zn (q.den : Int) = nl q.den := rfl
    omega
theorem few2_spec (r : RQ) (h : RQOk r) : Pr Tryz.prog 6 [.agg [.bool r.s, .ints .u32 r.xs, .bool r.t, .ints .u32 r.ys], .one (.int .i64 2)] (.one (.bool (few2 r))) :=
  Few_spec _ _ _ _ 2 h.x h.y (by have := h.xl; omega) (by have := h.yl; omega)
def trG (g : Nat → Rat) (n : Nat) (x y : Rat) (i : Nat) : Rat := if i < 2 * n then g i + (if i % 2 = 0 then x else y) else g i
theorem cO_map {g : Nat → Rat} {N : Nat} {v : Int} (h0 : 0 ≤ v) (h : v < N) : cO ((List.range N).map g) v = g v.toNat := by
  unfold cO
  rw [X7, List.getElem?_map, List.getElem?_range (by omega)]; rfl
theorem cO_out {g : Nat → Rat} {N : Nat} {v : Int} (h : (N : Int) ≤ v) : cO ((List.range N).map g) v = default := by
  unfold cO
  rw [X7, List.getElem?_eq_none (by simp; omega)]; rfl
theorem shift_of (g : Nat → Rat) (n N : Nat) (x y : Rat) (h : 2 * n ≤ N) : Shift n (cO ((List.range N).map g)) (cO ((List.range N).map (trG g n x y))) where
  pt := ⟨x, y, fun i hi => by
    rw [cO_map (by omega) (by omega), cO_map (by omega) (by omega), cO_map (by omega) (by omega), cO_map (by omega) (by omega)]
    have e1 : (2 * (i : Int)).toNat = 2 * i := by omega
    have e2 : (2 * (i : Int) + 1).toNat = 2 * i + 1 := by omega
    rw [e1, e2]
    unfold trG
    rw [if_pos (by omega), if_pos (by omega), if_pos (by omega), if_neg (by omega)]
    exact ⟨rfl, rfl⟩⟩
  rad v hv := by
    by_cases h2 : v < N
    · rw [cO_map (by omega) h2, cO_map (by omega) h2]
      unfold trG
      rw [if_neg (by omega)]
    rw [cO_out (by omega), cO_out (by omega)]
def byL (r s : RQ) : List C := [.bool r.s, .ints .u32 r.xs, .bool r.t, .ints .u32 r.ys, .bool s.s, .ints .u32 s.xs, .bool s.t, .ints .u32 s.ys]
theorem lawTr_false (k : Int) (pts cir : List Int) (m : Nat) (f : Nat → Nat → C) (side : Int) (rq : List RQ) (cs : List Int) (np : Int) (co : List RQ) (r0 r1 : RQ)
    (hf : Pr Tryz.prog 5 [.agg (caseL k pts cir m f side rq cs np)] (.one (.bool false))) :
    Pr Tryz.prog 3 [.agg (caseL k pts cir m f side rq cs np), .one (RQs co), .agg (byL r0 r1)] (.one (.bool true)) := by
  unfold caseL at hf ⊢
  unfold byL
  refine pv T_ok mixed Tryz.func3 rfl (by decide) _ (by simp [Tryz.ntmps3]) ⟨[0, 1, 2, 3, 5, 6, 7, 8, 9, 10, 12, 13, 14, 15, 16, 53, 55, 56, 57, 58, 64, 74, 95, 96, 97, 98, 124], []⟩ (by kernel_rfl) _ ?_
  show vc T _ _ (Option.get! Tryz.f3.body) _ _
  simp only [Tryz.f3,Tryz.ntmps3,Option.get!,iS,iM,eO,J1]
  simp only [vx,T,K5,J0,K6,K7,↓reduceIte,J1,J2,J3,J4,J5,J6,J7,J8,J9,reduceCtorEq,K1,K2,K3,K4,RQs]
  refine Cg awake_spec ?_
  simp only [vx,T,K5,J0,K6,K7,↓reduceIte,J1,J2,J3,J4,J5,J6,J7,J8,J9,reduceCtorEq,K1,K2,K3,K4,RQs]
  refine Cg hf ?_
  simp only [vx,T,K5,J0,K6,K7,↓reduceIte,J1,J2,J3,J4,J5,J6,J7,J8,J9,reduceCtorEq,K1,K2,K3,K4,RQs]
  refine Cg awake_spec ?_
  simp only [vx,T,K5,J0,K6,K7,↓reduceIte,J1,J2,J3,J4,J5,J6,J7,J8,J9,reduceCtorEq,K1,K2,K3,K4,RQs]
  exact Ve rfl
theorem lawTr_true (k : Nat) (pts cir : List Int) (m : Nat) (f : Nat → Nat → C) (side : Int) (rq : List RQ) (cs : List Int) (n : Nat) (co : List RQ) (r0 r1 : RQ) (hn : n ≤ 12) (hcs : cs.length ≤ 4) (hcl : co.length < 2 ^ 30)
    (hco : ∀ r ∈ co, RQOk r) (h0 : RQOk r0) (h1 : RQOk r1)
    (hf : Pr Tryz.prog 5 [.agg (caseL k pts cir m f side rq cs n)] (.one (.bool true))) (ps : List (List Mono)) (hl : ps.length < 2 ^ 30) (hp : k ≠ 1 → ∀ p ∈ ps, TrP n (2 * n + cs.length) p)
    (hi : k ≠ 1 → Pr Tryz.prog 9 [.agg [.int .i64 k, .ints .i64 pts, .ints .i64 cir, .rows 7 m f, .int .i64 side], .one (RQs rq), .one (.ints .i64 cs), .one (.int .i64 n)] (LV ps)) :
    Pr Tryz.prog 3 [.agg (caseL k pts cir m f side rq cs n), .one (RQs co), .agg (byL r0 r1)] (.one (.bool true)) := by
  have w1 : IntKind.i64.wrap (2 * (n : Int)) = 2 * (n : Int) := IntWalk.i64_in _ (by omega)
  have w2 : IntKind.i64.wrap (2 * (n : Int) + cs.length) = 2 * (n : Int) + cs.length := IntWalk.i64_in _ (by omega)
  have c0 := few2_spec r0 h0
  have c1 := few2_spec r1 h1
  have hfew : ∀ i, i < co.length → Pr Tryz.prog 6 [.agg [.bool (co.getD i default).s, .ints .u32 (co.getD i default).xs, .bool (co.getD i default).t, .ints .u32 (co.getD i default).ys], .one (.int .i64 2)] (.one (.bool (few2 (co.getD i default)))) := fun i hi =>
    few2_spec _ (hco _ (by rw [X7, X8 hi]; exact List.getElem_mem _))
  unfold caseL at hf ⊢
  unfold byL
  refine pv T_ok mixed Tryz.func3 rfl (by decide) _ (by simp [Tryz.ntmps3]) ⟨[0, 1, 2, 3, 5, 6, 7, 8, 9, 10, 12, 13, 14, 15, 16, 53, 55, 56, 57, 58, 64, 74, 95, 96, 97, 98, 124], []⟩ (by kernel_rfl) _ ?_
  show vc T _ _ (Option.get! Tryz.f3.body) _ _
  simp only [Tryz.f3,Tryz.ntmps3,Option.get!,iS,iM,eO,J1]
  simp only [vx,T,K5,J0,K6,K7,↓reduceIte,J1,J2,J3,J4,J5,J6,J7,J8,J9,reduceCtorEq,K1,K2,K3,K4,RQs]
  refine Cg awake_spec ?_
  simp only [vx,T,K5,J0,K6,K7,↓reduceIte,J1,J2,J3,J4,J5,J6,J7,J8,J9,reduceCtorEq,K1,K2,K3,K4,RQs]
  refine Cg hf ?_
  simp only [vx,T,K5,J0,K6,K7,↓reduceIte,J1,J2,J3,J4,J5,J6,J7,J8,J9,reduceCtorEq,K1,K2,K3,K4,RQs]
  refine ⟨fun hk => Lg ?_, fun hk => Lg ?_⟩
  · simp only [vx,T,K5,J0,K6,K7,↓reduceIte,J1,J2,J3,J4,J5,J6,J7,J8,J9,reduceCtorEq,K1,K2,K3,K4,RQs]
    refine Cg awake_spec ?_
    simp only [vx,T,K5,J0,K6,K7,↓reduceIte,J1,J2,J3,J4,J5,J6,J7,J8,J9,reduceCtorEq,K1,K2,K3,K4,RQs]
    exact Ve rfl
  have hi := hi (by omega)
  have hp := hp (by omega)
  simp only [vx,T,K5,J0,K6,K7,↓reduceIte,J1,J2,J3,J4,J5,J6,J7,J8,J9,reduceCtorEq,K1,K2,K3,K4,RQs,w1,w2]
  refine ⟨fun hlen => Lg ?_, fun hlen => Lg ?_⟩
  · simp only [vx,T,K5,J0,K6,K7,↓reduceIte,J1,J2,J3,J4,J5,J6,J7,J8,J9,reduceCtorEq,K1,K2,K3,K4,RQs]
    refine Cg awake_spec ?_
    simp only [vx,T,K5,J0,K6,K7,↓reduceIte,J1,J2,J3,J4,J5,J6,J7,J8,J9,reduceCtorEq,K1,K2,K3,K4,RQs]
    exact Ve rfl
  simp only [vx,T,K5,J0,K6,K7,↓reduceIte,J1,J2,J3,J4,J5,J6,J7,J8,J9,reduceCtorEq,K1,K2,K3,K4,RQs]
  refine ⟨by omega, Cg c0 ?_⟩
  simp only [vx,T,K5,J0,K6,K7,↓reduceIte,J1,J2,J3,J4,J5,J6,J7,J8,J9,reduceCtorEq,K1,K2,K3,K4,RQs]
  refine ⟨fun hb0 => Lg ?_, fun hb0 => Lg ?_⟩
  · simp only [vx,T,K5,J0,K6,K7,↓reduceIte,J1,J2,J3,J4,J5,J6,J7,J8,J9,reduceCtorEq,K1,K2,K3,K4,RQs]
    refine Cg awake_spec ?_
    simp only [vx,T,K5,J0,K6,K7,↓reduceIte,J1,J2,J3,J4,J5,J6,J7,J8,J9,reduceCtorEq,K1,K2,K3,K4,RQs]
    exact Ve rfl
  have hb0 : few2 r0 = true := by simpa using hb0
  simp only [vx,T,K5,J0,K6,K7,↓reduceIte,J1,J2,J3,J4,J5,J6,J7,J8,J9,reduceCtorEq,K1,K2,K3,K4,RQs]
  refine ⟨by omega, Cg c1 ?_⟩
  simp only [vx,T,K5,J0,K6,K7,↓reduceIte,J1,J2,J3,J4,J5,J6,J7,J8,J9,reduceCtorEq,K1,K2,K3,K4,RQs]
  refine ⟨fun hb1 => Lg ?_, fun hb1 => Lg ?_⟩
  · simp only [vx,T,K5,J0,K6,K7,↓reduceIte,J1,J2,J3,J4,J5,J6,J7,J8,J9,reduceCtorEq,K1,K2,K3,K4,RQs]
    refine Cg awake_spec ?_
    simp only [vx,T,K5,J0,K6,K7,↓reduceIte,J1,J2,J3,J4,J5,J6,J7,J8,J9,reduceCtorEq,K1,K2,K3,K4,RQs]
    exact Ve rfl
  have hb1 : few2 r1 = true := by simpa using hb1
  obtain ⟨q0, hq0⟩ := few2_ex r0
  obtain ⟨q1, hq1⟩ := few2_ex r1
  obtain ⟨z0, a1, a2, a3, a4⟩ := hq0 hb0
  obtain ⟨z1, b1, b2, b3, b4⟩ := hq1 hb1
  obtain ⟨g, hg⟩ := Classical.axiomOfChoice (fun i => few2_ex (co.getD i default))
  have hN : co.length = 2 * n + cs.length := by omega
  clear c0 c1 hb0 hb1 hq0 hq1 hlen hk hf h0 h1 hco
  have hA : ((List.range co.length).map g).length = co.length := by simp
  have hB : ((List.range co.length).map (trG g n q0 q1)).length = co.length := by simp
  have hAt : ∀ i, i < co.length → ((List.range co.length).map g).take (i + 1) = ((List.range co.length).map g).take i ++ [g i] := fun i hi => by
    rw [List.take_add_one, List.getElem?_map, List.getElem?_range hi]; rfl
  have hBt : ∀ i, i < co.length → ((List.range co.length).map (trG g n q0 q1)).take (i + 1) = ((List.range co.length).map (trG g n q0 q1)).take i ++ [trG g n q0 q1 i] := fun i hi => by
    rw [List.take_add_one, List.getElem?_map, List.getElem?_range hi]; rfl
  have hsh := shift_of g n co.length q0 q1 (by omega)
  obtain ⟨A, eA⟩ : ∃ A, A = (List.range co.length).map g := ⟨_, rfl⟩
  obtain ⟨B, eB⟩ : ∃ B, B = (List.range co.length).map (trG g n q0 q1) := ⟨_, rfl⟩
  rw [← eA] at hA hAt hsh
  rw [← eB] at hB hBt hsh
  simp only [vx,T,K5,J0,K6,K7,↓reduceIte,J1,J2,J3,J4,J5,J6,J7,J8,J9,reduceCtorEq,K1,K2,K3,K4,RQs,a1,a2,a3,a4,b1,b2,b3,b4]
  clear a1 a2 a3 a4 b1 b2 b3 b4
  refine Lk (fun y : {i : Nat // i ≤ co.length ∧ ∀ j, j < i → few2 (co.getD j default) = true} => ⟨[(3, .one (.ptr 1 0)), (5, .one (.ptr 2 0)), (6, .one (.bool false)), (7, .one (.own 3 2 0 y.1)), (8, .one (.own 4 2 0 y.1)), (55, .one (RQs co)), (56, .one (.int .i64 co.length)), (57, .one (.int .i64 y.1))], [(1, ⟨.var [.int .i64 k, .ints .i64 pts, .ints .i64 cir, .rows 7 m f, .int .i64 side, RQs rq, .ints .i64 cs, .int .i64 n], true⟩), (2, ⟨.var [.bool (zs q0.num), .ints .u32 (zm q0.num), .bool (zs (q0.den : Int)), .ints .u32 (zm (q0.den : Int)), .bool (zs q1.num), .ints .u32 (zm q1.num), .bool (zs (q1.den : Int)), .ints .u32 (zm (q1.den : Int))], true⟩), (3, ⟨.rows 40 2 y.1 (fN (A.take y.1)), true⟩), (4, ⟨.rows 40 2 y.1 (fN (B.take y.1)), true⟩)], 46, 126⟩) (fun y => co.length - y.1) ⟨0, Nat.zero_le _, fun j h => absurd h (Nat.not_lt_zero _)⟩ ?_ (fun ⟨i, hi', hz⟩ => ?_)
  · refine Sa ?_; simp only [rx,Y0,Y1,Y2,Y3,Y4,Y5,Y6,Y7,ren,↓reduceIte,J1,J2,J3,J4,J5,J6,J7,J8,J9,reduceCtorEq,K1,K2,K3,K4,Y8,Y9,X2,X3,X4,RQs]
  have i1 := wI i (by omega)
  simp only [vx,T,K5,J0,K6,K7,↓reduceIte,J1,J2,J3,J4,J5,J6,J7,J8,J9,reduceCtorEq,K1,K2,K3,K4,RQs]
  refine ⟨fun hg1 => Lg ?_, fun hg1 => Lg ?_⟩
  · have hil : i < co.length := by omega
    have hfi := hfew i hil
    have hgi := hg i
    have hAi := hAt i hil
    have hBi := hBt i hil
    obtain ⟨r, hr⟩ : ∃ r, r = co.getD i default := ⟨_, rfl⟩
    rw [← hr] at hfi hgi
    simp only [vx,T,K5,J0,K6,K7,↓reduceIte,J1,J2,J3,J4,J5,J6,J7,J8,J9,reduceCtorEq,K1,K2,K3,K4,RQs,← hr,rqC]
    refine ⟨⟨by omega, by omega⟩, Cg hfi ?_⟩
    simp only [vx,T,K5,J0,K6,K7,↓reduceIte,J1,J2,J3,J4,J5,J6,J7,J8,J9,reduceCtorEq,K1,K2,K3,K4,RQs]
    refine ⟨fun hfr => Lg ?_, fun hfr => Lg ?_⟩
    · simp only [vx,T,K5,J0,K6,K7,↓reduceIte,J1,J2,J3,J4,J5,J6,J7,J8,J9,reduceCtorEq,K1,K2,K3,K4,RQs]
      exact Ve rfl
    have hfr : few2 r = true := by simpa using hfr
    obtain ⟨zg, e1, e2, e3, e4⟩ := hgi hfr
    obtain ⟨x, hx⟩ : ∃ x, x = g i := ⟨_, rfl⟩
    rw [← hx] at e1 e2 e3 e4 zg hAi
    have hz' : ∀ j, j < i + 1 → few2 (co.getD j default) = true := fun j hj => by
      by_cases hji : j < i
      · exact hz j hji
      rw [show j = i by omega, ← hr]; exact hfr
    have hcf := r9FromRat0 x
    simp only [vx,T,K5,J0,K6,K7,↓reduceIte,J1,J2,J3,J4,J5,J6,J7,J8,J9,reduceCtorEq,K1,K2,K3,K4,RQs,e1,e2,e3,e4]
    refine Cg hcf ?_
    simp only [vx,T,K5,J0,K6,K7,↓reduceIte,J1,J2,J3,J4,J5,J6,J7,J8,J9,reduceCtorEq,K1,K2,K3,K4,RQs,NV,QsC,w1]
    refine ⟨⟨by omega, by omega⟩, fun hi2 => Lg ?_, fun hi2 => Lg ?_⟩
    · have ht : (i : Int).tmod 2 = ((i % 2 : Nat) : Int) := rfl
      rcases Nat.mod_two_eq_zero_or_one i with hpar | hpar
      · have ht0 : (i : Int).tmod 2 = 0 := by rw [ht, hpar]; rfl
        have hBx : trG g n q0 q1 i = x + q0 := by rw [hx]; unfold trG; rw [if_pos (by omega), if_pos hpar]
        rw [hBx] at hBi
        have ca := rQAdd_spec x q0 (by omega) (by omega)
        have cb := r9FromRat0 (x + q0)
        simp only [vx,T,K5,J0,K6,K7,↓reduceIte,J1,J2,J3,J4,J5,J6,J7,J8,J9,reduceCtorEq,K1,K2,K3,K4,RQs,NV,QsC,w1,ht0]
        refine ⟨by omega, Cg ca ?_⟩
        simp only [vx,T,K5,J0,K6,K7,↓reduceIte,J1,J2,J3,J4,J5,J6,J7,J8,J9,reduceCtorEq,K1,K2,K3,K4,RQs,NV,QV,QC,QsC,w1]
        refine Cg cb ?_
        simp only [vx,T,K5,J0,K6,K7,↓reduceIte,J1,J2,J3,J4,J5,J6,J7,J8,J9,reduceCtorEq,K1,K2,K3,K4,RQs,NV,QsC,w1]
        simp only [i1]
        refine ⟨⟨by omega, by omega⟩, Lq ⟨i + 1, by omega, hz'⟩ ?_ ?_⟩
        · refine Sa ?_; simp only [rx,Y0,Y1,Y2,Y3,Y4,Y5,Y6,Y7,ren,↓reduceIte,J1,J2,J3,J4,J5,J6,J7,J8,J9,reduceCtorEq,K1,K2,K3,K4,Y8,Y9,X2,X3,X4,RQs,QsC]
          rw [hAi, hBi]
          exact ⟨snocN (by rw [X5]; omega) x, snocN (by rw [X5]; omega) (x + q0)⟩
        simp only; omega
      have ht0 : (i : Int).tmod 2 = 1 := by rw [ht, hpar]; rfl
      have hBx : trG g n q0 q1 i = x + q1 := by rw [hx]; unfold trG; rw [if_pos (by omega), if_neg (by omega)]
      rw [hBx] at hBi
      have ca := rQAdd_spec x q1 (by omega) (by omega)
      have cb := r9FromRat0 (x + q1)
      simp only [vx,T,K5,J0,K6,K7,↓reduceIte,J1,J2,J3,J4,J5,J6,J7,J8,J9,reduceCtorEq,K1,K2,K3,K4,RQs,NV,QsC,w1,ht0]
      refine ⟨by omega, Cg ca ?_⟩
      simp only [vx,T,K5,J0,K6,K7,↓reduceIte,J1,J2,J3,J4,J5,J6,J7,J8,J9,reduceCtorEq,K1,K2,K3,K4,RQs,NV,QV,QC,QsC,w1]
      refine Cg cb ?_
      simp only [vx,T,K5,J0,K6,K7,↓reduceIte,J1,J2,J3,J4,J5,J6,J7,J8,J9,reduceCtorEq,K1,K2,K3,K4,RQs,NV,QsC,w1]
      simp only [i1]
      refine ⟨⟨by omega, by omega⟩, Lq ⟨i + 1, by omega, hz'⟩ ?_ ?_⟩
      · refine Sa ?_; simp only [rx,Y0,Y1,Y2,Y3,Y4,Y5,Y6,Y7,ren,↓reduceIte,J1,J2,J3,J4,J5,J6,J7,J8,J9,reduceCtorEq,K1,K2,K3,K4,Y8,Y9,X2,X3,X4,RQs,QsC]
        rw [hAi, hBi]
        exact ⟨snocN (by rw [X5]; omega) x, snocN (by rw [X5]; omega) (x + q1)⟩
      simp only; omega
    have hBx : trG g n q0 q1 i = x := by rw [hx]; unfold trG; rw [if_neg (by omega)]
    rw [hBx] at hBi
    simp only [vx,T,K5,J0,K6,K7,↓reduceIte,J1,J2,J3,J4,J5,J6,J7,J8,J9,reduceCtorEq,K1,K2,K3,K4,RQs,NV,QsC,w1]
    refine Cg hcf ?_
    simp only [vx,T,K5,J0,K6,K7,↓reduceIte,J1,J2,J3,J4,J5,J6,J7,J8,J9,reduceCtorEq,K1,K2,K3,K4,RQs,NV,QsC,w1]
    simp only [i1]
    refine ⟨⟨by omega, by omega⟩, Lq ⟨i + 1, by omega, hz'⟩ ?_ ?_⟩
    · refine Sa ?_; simp only [rx,Y0,Y1,Y2,Y3,Y4,Y5,Y6,Y7,ren,↓reduceIte,J1,J2,J3,J4,J5,J6,J7,J8,J9,reduceCtorEq,K1,K2,K3,K4,Y8,Y9,X2,X3,X4,RQs,QsC]
      rw [hAi, hBi]
      exact ⟨snocN (by rw [X5]; omega) x, snocN (by rw [X5]; omega) x⟩
    simp only; omega
  have hil : i = co.length := by omega
  subst hil
  have tA : A.take co.length = A := by rw [← hA, List.take_length]
  have tB : B.take co.length = B := by rw [← hB, List.take_length]
  have qA : ∀ x ∈ A, qm x ≤ 16 := fun x hx => by
    rw [eA] at hx
    obtain ⟨j, hj, rfl⟩ := List.mem_map.1 hx
    have := (hg j (hz j (List.mem_range.1 hj))).1
    omega
  have qB : ∀ x ∈ B, qm x ≤ 16 := fun x hx => by
    rw [eB] at hx
    obtain ⟨j, hj, rfl⟩ := List.mem_map.1 hx
    have h1 := (hg j (hz j (List.mem_range.1 hj))).1
    unfold trG
    have h2 := qm_add (g j) q0
    have h3 := qm_add (g j) q1
    split
    · split <;> omega
    omega
  clear hfew hAt hBt hz hg eA eB
  simp only [vx,T,K5,J0,K6,K7,↓reduceIte,J1,J2,J3,J4,J5,J6,J7,J8,J9,reduceCtorEq,K1,K2,K3,K4,RQs,tA,tB]
  refine Cg hi ?_
  simp only [vx,T,K5,J0,K6,K7,↓reduceIte,J1,J2,J3,J4,J5,J6,J7,J8,J9,reduceCtorEq,K1,K2,K3,K4,LV,LC,RQs,tA,tB]
  refine Lk (fun y : {j : Nat // j ≤ ps.length} => ⟨[(6, .one (.bool false)), (7, .one (.own 3 2 0 co.length)), (8, .one (.own 4 2 0 co.length)), (95, LV ps), (96, .one (.int .i64 ps.length)), (97, .one (.int .i64 y.1))], [(3, ⟨.rows 40 2 co.length (fN A), false⟩), (4, ⟨.rows 40 2 co.length (fN B), false⟩)], 58, 126⟩) (fun y => ps.length - y.1) ⟨0, Nat.zero_le _⟩ ?_ (fun ⟨j, hj⟩ => ?_)
  · refine Sa ?_; simp only [rx,Y0,Y1,Y2,Y3,Y4,Y5,Y6,Y7,ren,↓reduceIte,J1,J2,J3,J4,J5,J6,J7,J8,J9,reduceCtorEq,K1,K2,K3,K4,Y8,Y9,X2,X3,X4,LV,LC]
  have j1 : IntKind.i64.wrap ((j : Int) + 1) = ((j + 1 : Nat) : Int) := by rw [IntWalk.i64_in _ (by omega)]; omega
  simp only [vx,T,K5,J0,K6,K7,↓reduceIte,J1,J2,J3,J4,J5,J6,J7,J8,J9,reduceCtorEq,K1,K2,K3,K4,LV,LC]
  refine ⟨fun hjl => Lg ?_, fun hjl => Lg ?_⟩
  · have hpj := hp _ (by rw [X7, X8 (by omega : j < ps.length)]; exact List.getElem_mem _ : ps.getD j default ∈ ps)
    obtain ⟨p, hpe⟩ : ∃ p, p = ps.getD j default := ⟨_, rfl⟩
    rw [← hpe] at hpj
    obtain ⟨⟨hv, m', d', B', hnf, m1, m2, _, m3⟩, hinv⟩ := hpj
    have hev := hinv _ _ hsh
    have ca := iEval0 p A hnf.pb m1 m2 m3 (by omega) (by rw [hA, hN]; exact hv) qA
    have cb := iEval0 p B hnf.pb m1 m2 m3 (by omega) (by rw [hB, hN]; exact hv) qB
    rw [hev] at cb
    have hcA : ∀ m ∈ p, ∀ v ∈ m.2, qm (cO A v) ≤ 16 := fun m hm v hvm => by
      have h := hv m hm v hvm
      unfold cO
      rw [X7, X8 (show v.toNat < A.length by omega)]
      exact qA _ (List.getElem_mem _)
    have hqe : qm (ev (cO A) p) < 2 ^ 34 := by
      have h2 : qm (evK (cO A) p p.length) ≤ 2 + p.length * (B' + d' * 17 + 1) := qm_evK (S := 16) hnf.pb hcA _ (Nat.le_refl _)
      rw [evK_all] at h2
      have h3 : p.length * (B' + d' * 17 + 1) ≤ m' * (B' + d' * 17 + 1) := Nat.mul_le_mul_right _ hnf.pb.n
      omega
    have ce := r9Equal0 _ hqe
    unfold NsV NsC at ca cb
    rw [hA] at ca
    rw [hB] at cb
    simp only [vx,T,K5,J0,K6,K7,↓reduceIte,J1,J2,J3,J4,J5,J6,J7,J8,J9,reduceCtorEq,K1,K2,K3,K4,LV,LC,← hpe,PC]
    refine ⟨by omega, Cg ca ?_⟩
    simp only [vx,T,K5,J0,K6,K7,↓reduceIte,J1,J2,J3,J4,J5,J6,J7,J8,J9,reduceCtorEq,K1,K2,K3,K4,NV,QsC,PV,PC]
    refine Cg cb ?_
    simp only [vx,T,K5,J0,K6,K7,↓reduceIte,J1,J2,J3,J4,J5,J6,J7,J8,J9,reduceCtorEq,K1,K2,K3,K4,NV,QsC,PV,PC]
    refine Cg ce ?_
    simp only [vx,T,K5,J0,K6,K7,↓reduceIte,J1,J2,J3,J4,J5,J6,J7,J8,J9,reduceCtorEq,K1,K2,K3,K4,NV,QsC,LV,LC]
    simp only [j1]
    refine Lq ⟨j + 1, by omega⟩ ?_ ?_
    · refine Sa ?_; simp only [rx,Y0,Y1,Y2,Y3,Y4,Y5,Y6,Y7,ren,↓reduceIte,J1,J2,J3,J4,J5,J6,J7,J8,J9,reduceCtorEq,K1,K2,K3,K4,Y8,Y9,X2,X3,X4,LV,LC]
    simp only; omega
  simp only [vx,T,K5,J0,K6,K7,↓reduceIte,J1,J2,J3,J4,J5,J6,J7,J8,J9,reduceCtorEq,K1,K2,K3,K4,LV,LC]
  exact Ve rfl
open Go Go.Eng
set_option maxRecDepth 100000 in
theorem closed3 : closedB Tryz.prog [28, 25, 26, 23, 54, 33, 31, 4, 29, 92, 22, 3, 9, 34] = true := by kernel_rfl
set_option maxRecDepth 100000 in
theorem okb_two {B n : Nat} {cs : List C} (h : OkC Tryz.prog B n 34 cs) : ∃ r0 r1 : RQ, cs = byL r0 r1 ∧ ((InR r0.xs ∧ r0.xs.length ≤ B) ∧ InR r0.ys ∧ r0.ys.length ≤ B) ∧ ((InR r1.xs ∧ r1.xs.length ≤ B) ∧ InR r1.ys ∧ r1.ys.length ≤ B) := by
  cases n with
  | zero => exact h.elim
  | succ n =>
    simp only [OkC,Tryz.underlying34] at h
    obtain ⟨l, rfl, h2, h3⟩ := h
    match l, h2, h3 with
    | [a, b], _, h3 =>
      obtain ⟨s, xs, t, ys, rfl, k1, k2⟩ := okb_rat (h3 a (by simp))
      obtain ⟨s', xs', t', ys', rfl, k3, k4⟩ := okb_rat (h3 b (by simp))
      exact ⟨⟨s, xs, t, ys⟩, ⟨s', xs', t', ys'⟩, rfl, ⟨k1, k2⟩, ⟨k3, k4⟩⟩
theorem RQOk.of {B : Nat} (hB : B ≤ 2 ^ 20) {r : RQ} (h : (InR r.xs ∧ r.xs.length ≤ B) ∧ InR r.ys ∧ r.ys.length ≤ B) : RQOk r := ⟨h.1.1, h.2.1, by omega, by omega⟩
theorem lawTr_spec {B n1 n2 n3 : Nat} (hB : B ≤ 2 ^ 20) {cells cells3 : List C} {c2 : C} (h : OkC Tryz.prog B n1 28 cells) (h2 : OkC Tryz.prog B n2 26 [c2]) (h3 : OkC Tryz.prog B n3 34 cells3) :
    Pr Tryz.prog 3 [.agg cells, .one c2, .agg cells3] (.one (.bool true)) := by
  obtain ⟨k, pts, cir, m, f, side, rq, cs, np, hle, hok⟩ := okb_case h
  obtain ⟨c, co, e2, hle2, hcl, hco⟩ := okb_rats h2
  obtain rfl : c2 = c := by simpa using e2
  obtain ⟨r0, r1, rfl, g0, g1⟩ := okb_two h3
  have g0 := RQOk.of hB g0
  have g1 := RQOk.of hB g1
  have hco : ∀ r ∈ co, RQOk r := fun r h => RQOk.of hB (hco r h)
  refine Pr.args (ys := [.agg (caseL k pts cir m f side rq cs np), .one (RQs co), .agg (byL r0 r1)]) ?_ ⟨VLeN_agg hle, .cell hle2, .refl _, trivial⟩
  clear hle h hle2 h2 h3
  obtain ⟨⟨hp, hc, hm, j, hf⟩, ⟨hr, hrq⟩, hs⟩ := hok
  have hrq : ∀ r ∈ rq, RQOk r := fun r h => RQOk.of hB (hrq r h)
  by_cases hk : 1 ≤ k ∧ k ≤ 17
  · obtain ⟨kn, rfl⟩ : ∃ kn : Nat, k = kn := ⟨k.toNat, by omega⟩
    have k1 : 1 ≤ kn := by omega
    have k2 : kn ≤ 17 := by omega
    obtain ⟨er, he⟩ := Classical.axiomOfChoice (r := fun (i : Nat) (x : Int) => i < m → Pr Tryz.prog 51 [.agg [f i 0, f i 1, f i 2, f i 3, f i 4, f i 5, f i 6]] (.one (.int .i64 x))) (fun i => by
      by_cases hi : i < m
      · obtain ⟨b, hb⟩ := xValid_ex (B := B) (by omega) j _ (hf i hi); exact ⟨b, fun _ => hb⟩
      exact ⟨0, fun h => absurd h hi⟩)
    obtain ⟨s, v, e, hrow⟩ := rowT_at k1 k2
    have hv := cValid_spec kn k1 k2 hrow k58 pts cir (by omega) (by omega) m (by omega) f side np cs.length (fun i hi => ExAt.of (hf i hi)) er he
    have hfit := fits_spec kn pts cir m f side rq cs np (by omega) (by omega) (by omega) (by omega) (by omega) hrq _ hv
    cases hb : (fitB pts cir m rq cs np && cvB kn (kP kn) (kC kn) (kN kn) (kB kn) pts cir m np cs.length er side) with
    | false =>
      rw [hb] at hfit
      exact lawTr_false _ _ _ _ _ _ _ _ _ _ _ _ hfit
    | true =>
      rw [hb] at hfit
      obtain ⟨h1, h2⟩ := (Bool.and_eq_true _ _).mp hb
      unfold fitB at h1
      simp only [Bool.and_eq_true,decide_eq_true_eq] at h1
      obtain ⟨a1, a2, a3, a4, a5, a6, a7, a8, a9⟩ := h1
      obtain ⟨np', rfl⟩ : ∃ x : Nat, np = x := ⟨np.toNat, by omega⟩
      by_cases hk1 : kn = 1
      · exact lawTr_true _ _ _ _ _ _ _ _ _ _ _ _ (by omega) a3 (by omega) hco g0 g1 hfit [] (by decide) (fun h => absurd hk1 h) (fun h => absurd hk1 h)
      obtain ⟨qs, q1, q2, q3⟩ := few_list a9
      obtain ⟨ps, p1, p3, p4⟩ := trOk kn k1 k2 hk1 h2 (by omega) a3 a8 q1 (by omega) (.rows 7 m f)
      have al : VLeA [.agg [.int .i64 (kn : Int), .ints .i64 pts, .ints .i64 cir, .rows 7 m f, .int .i64 side], .one (RQs rq), .one (.ints .i64 cs), .one (.int .i64 (np' : Int))] [.agg [.int .i64 (kn : Int), .ints .i64 pts, .ints .i64 cir, .rows 7 m f, .int .i64 side], .one (QsC qs), .one (.ints .i64 cs), .one (.int .i64 (np' : Int))] := ⟨.refl _, .cell q3, .refl _, .refl _, trivial⟩
      exact lawTr_true _ _ _ _ _ _ _ _ _ _ _ _ (by omega) a3 (by omega) hco g0 g1 hfit ps p4 (fun _ => p3) (fun _ => p1.args al)
  have hv := cValid_out k (by omega) pts cir m f side np cs.length
  have hfit := fits_spec k pts cir m f side rq cs np (by omega) (by omega) (by omega) (by omega) (by omega) hrq _ hv
  rw [Bool.and_false] at hfit
  exact lawTr_false _ _ _ _ _ _ _ _ _ _ _ _ hfit
end Go.Proofs.YtpogdlmhmafjlaaGreat
/-
  EquationTranslation, where what it reads is of bulk at most 1048576: the law returns true, and each argument reads afterwards as it read before. No condition beyond the given row's own cells.
-/
namespace Go.Proofs.YtpogdlmhmafjlaaGreat
open Go Go.Proofs Go.Eng Go.ChangeShapes Go.WideShapes Go.ChangeAt Go.RowKit
theorem Tryz.own : ownKnob Tryz.prog.godebug = none := by kernel_rfl
theorem Tryz.laidOut : laidOutB Tryz.prog = true := by kernel_rfl
theorem bulk_one {H : Type} (d : DataW H) : 1 ≤ Rows.uptoBulk d := by
  cases d with
  | lit l => cases l <;> simp [Rows.uptoBulk]
  | nil => simp [Rows.uptoBulk]
  | ptr d => simp [Rows.uptoBulk]
  | slice elems spare => simp [Rows.uptoBulk]
  | agg parts => simp [Rows.uptoBulk]
  | iface t d => simp [Rows.uptoBulk]
  | map entries => simp [Rows.uptoBulk]
  | held h => simp [Rows.uptoBulk]
theorem bulk_len {H : Type} : ∀ l : List (DataW H), l.length ≤ Rows.uptoBulkAll l
  | [] => Nat.zero_le _
  | d :: r => by
    have h1 := bulk_one d
    have h2 := bulk_len r
    simp only [Rows.uptoBulkAll,List.length_cons]
    omega
theorem bulk_mem {H : Type} : ∀ {l : List (DataW H)} {d : DataW H}, d ∈ l → Rows.uptoBulk d ≤ Rows.uptoBulkAll l
  | x :: r, d, h => by
    simp only [Rows.uptoBulkAll]
    rcases List.mem_cons.1 h with rfl | h
    · omega
    have := bulk_mem h
    omega
theorem bulkOk {H : Type} : BulkOk (Rows.uptoBulk (H := H)) where
  str s := by simp only [Rows.uptoBulk]; omega
  sl el sp := by
    have h1 := bulk_len el
    refine ⟨by simp only [Rows.uptoBulk]; omega, fun d hd => ?_⟩
    have h2 := bulk_mem hd
    simp only [Rows.uptoBulk]; omega
  agg ps d hd := by
    have h2 := bulk_mem hd
    simp only [Rows.uptoBulk]; omega
theorem okWide_array' {P : Program} {w : World} {r : Reach} {base : Nat} {t e : TypeId} {m : Nat} {v : Value} (ht : P.underlying t = some (.array m e)) (h : Value.okWide P w r base t v) : ∃ cs, v = .agg cs := by
  simp only [Value.okWide,ht] at h
  obtain ⟨cs, h1, _⟩ := h
  exact ⟨cs, h1⟩
set_option maxRecDepth 100000 in
theorem equationTranslation_lifted (os : Os) (started : os.Started) (H : Type) (enc : TypeId × Value → H) (F : Stop.Interp) :
    ReturnsInHanded {} Tryz.checked os 3 .any ((Rows.OpenSpec.upto Rows.equationTranslationSpec).pre6 enc Tryz.prog Tryz.f3 Rows.equationTranslationUptoRow.domain false) (((Rows.OpenSpec.upto Rows.equationTranslationSpec).at F).post enc Tryz.prog Tryz.f3 false true false false) := by
  refine returnsInHanded_of_cond (C := Tryz.checked) (s := Rows.OpenSpec.upto Rows.equationTranslationSpec) (k := Rows.uptoSmall) rfl Tryz.own started (by kernel_rfl) Tryz.func3
    (OpenSpec.witness (enc := enc) (C := Tryz.checked) (s := Rows.OpenSpec.upto Rows.equationTranslationSpec) (k := Rows.uptoSmall) rfl false ⟨#[], #[.agg #[.int .i64 0, .slice none 0 0, .slice none 0 0, .slice none 0 0, .int .i64 0, .slice none 0 0, .slice none 0 0, .int .i64 0], .slice none 0 0, .agg #[.bool false, .slice none 0 0, .bool false, .slice none 0 0, .bool false, .slice none 0 0, .bool false, .slice none 0 0]], []⟩ 8 (by kernel_rfl) (by kernel_rfl) (by kernel_rfl)
      (x := ([.agg [.agg [.lit (.int .i64 0), .nil, .nil, .nil, .lit (.int .i64 0)], .nil, .nil, .lit (.int .i64 0)], .nil, .agg [.agg [.agg [.lit (.bool false), .nil], .agg [.lit (.bool false), .nil]], .agg [.agg [.lit (.bool false), .nil], .agg [.lit (.bool false), .nil]]]], [], [])) (by kernel_rfl) rfl (by kernel_rfl)) ?_
  intro W base args ds gs before hval0 hW _ hk _
  have hval : ∀ (j : Nat) t v, Tryz.f3.params[j]? = some t → args[j]? = some v → Value.okWide Tryz.prog W .any base t v := hval0
  have hW' : DataW.Whole enc Tryz.prog Tryz.f3.params.toList Rows.equationTranslationSpec.vars false W args.toList ds gs before := hW
  obtain ⟨p, q, hA0, hV, rfl, hfz, hnd⟩ := hW
  have hA : DataW.TrodAll enc Tryz.prog W 0 (fun _ => true) true Tryz.f3.params.toList args.toList ds p := hA0
  rw [Tryz.params3] at hA hval
  obtain ⟨v0, v1, v2, d0, d1, d2, p0, p1, p2, rfl, rfl, rfl, h0, h1, h2⟩ := trodAll_three hA
  obtain ⟨rfl, rfl⟩ := trodVars_none hV
  clear hA0 hval0
  simp only [List.append_nil] at hW'
  have hlt := fun x hx => hW'.lt x hx
  obtain ⟨us, rfl, hsz⟩ := okWide_struct Tryz.underlying28 (hval 0 28 v0 rfl rfl)
  have o1 : v1.oneCell' = true := slice_one Tryz.underlying26 (hval 1 26 v1 rfl rfl)
  obtain ⟨us2, rfl⟩ := okWide_array' Tryz.underlying34 (hval 2 34 v2 rfl rfl)
  have s0 := fun W' hb => arg_stays (W' := W') Tryz.laidOut (by kernel_rfl) (of_decide_eq_true (by kernel_rfl)) h0 hb (fun x hx => hlt x (List.mem_append_left _ (List.mem_append_left _ hx)))
  have s1 := fun W' hb => arg_stays (W' := W') Tryz.laidOut (by kernel_rfl) (of_decide_eq_true (by kernel_rfl)) h1 hb (fun x hx => hlt x (List.mem_append_left _ (List.mem_append_right _ hx)))
  have s2 := fun W' hb => arg_stays (W' := W') Tryz.laidOut (by kernel_rfl) (of_decide_eq_true (by kernel_rfl)) h2 hb (fun x hx => hlt x (List.mem_append_right _ hx))
  have hb : Rows.uptoBulk d0 ≤ 1048576 ∧ Rows.uptoBulk d1 ≤ 1048576 ∧ Rows.uptoBulk d2 ≤ 1048576 := by
    have := of_decide_eq_true hk
    simp only [List.append_nil,Rows.uptoBulkAll] at this
    omega
  obtain ⟨n0, cs0, hc0, hr0⟩ := open_argSB closed3 (by decide) h0 (.inr ⟨bulkOk, hb.1⟩)
  obtain ⟨n1, c1, hc1, hr1⟩ := open_argB closed3 (by decide) o1 h1 (.inr ⟨bulkOk, hb.2.1⟩)
  obtain ⟨n2, cs2, hc2, hr2⟩ := open_argSB closed3 (by decide) h2 (.inr ⟨bulkOk, hb.2.2⟩)
  have hcon := lawTr_spec (by decide) hc0 hc1 hc2
  have hargs : RepVL loc0 dom0 (fun g => g < W.heap.size) W [.agg cs0, .one c1, .agg cs2] [.agg us, v1, .agg us2] := ⟨hr0, RepC.of_repI (ρ := loc0) (dom := dom0) hr1, hr2, trivial⟩
  refine ((hcon.2 (fun g => g < W.heap.size) W #[.agg us, v1, .agg us2] (fun _ h => h) hargs).mono ?_)
  rintro e W' ⟨v, rfl, hB, hv⟩
  have hv : v = .bool true := hv
  subst hv
  exact ⟨_, rfl, law_post (s := Rows.equationTranslationSpec) hW' rfl rfl Tryz.underlying4 rfl (by rw [List.append_assoc p0 p1 p2]; exact trodAll_mk3 (s0 W' hB) (s1 W' hB) (s2 W' hB)) rfl hB⟩
theorem equationTranslation_holds : Rows.EquationTranslationUptoSaid :=
  OpenClaim.holds_of_cond 3 Tryz.f3 rfl rfl rfl rfl rfl rfl rfl ⟨rfl, rfl, rfl, rfl, rfl⟩ rfl rfl rfl rfl rfl (by kernel_rfl) Tryz.func3 (by kernel_rfl)
    (of_decide_eq_true (by kernel_rfl)) (by unfold Func.isWrapper; first | (rw [if_pos (by decide +kernel)]; kernel_rfl) | (rw [if_neg (by decide +kernel)]; exact ⟨rfl, rfl⟩))
    (fun os started H enc _ F => equationTranslation_lifted os started H enc F)
end Go.Proofs.YtpogdlmhmafjlaaGreat
