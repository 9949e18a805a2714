/-
  EquationOf, where what it reads is of bulk at most 1048576: the law returns true, and its argument reads afterwards as it read before. No condition beyond the given row's own cells.
  (Text 8 of 9; made by a program out of smaller texts.)
-/
import Derived.Test.YtllnmicmblbfaaaGreatP7
set_option linter.unusedSimpArgs false
set_option linter.unusedVariables false
set_option maxHeartbeats 16000000
set_option maxRecDepth 10000
open Nat renaming reduceAdd → J1, reduceMul → J2, reduceSub → J3, reduceEqDiff → J4, reduceLT → J5, reduceLeDiff → J6, reduceBEq → J7, reduceDiv → J8, reduceMod → J9, reducePow → J0
open Int renaming reduceToNat → K1, reduceLE → K2, reduceLT → K3, reduceEq → K4, reducePow → K5, reduceSub → K6, reduceNeg → K7, natCast_add → X2, natCast_one → X3, natCast_zero → X4
open List renaming getD_cons_zero → X0, getD_cons_succ → X1, length_take → X5, length_append → X6, getD_eq_getElem?_getD → X7, getElem?_eq_getElem → X8
namespace Go.Proofs.YtllnmicmblbfaaaGreat
open Go Go.Eng
def zB (s t : Bool) (xs ys : List Int) : Bool := !s && !t && decide (xs.length = 0) && decide (ys.length = 0)
def shB (d z : Bool) (op : Int) (nm : ByteArray) (m : Nat) : Bool :=
  if op = 1 then d && (strEq nm ⟨#[]⟩ || nameB nm) && decide (m = 0)
  else if op = 2 then z && nameB nm && decide (m = 0)
  else if op = 3 then z && strEq nm ⟨#[]⟩ && decide (m = 1)
  else if op = 4 ∨ op = 5 ∨ op = 6 ∨ op = 7 then z && strEq nm ⟨#[]⟩ && decide (m = 2)
  else false
theorem shape_spec (op : Int) (s t : Bool) (xs ys : List Int) (nm : ByteArray) (m : Nat) (f : Nat → Nat → C) (hnm : nm.size < 2 ^ 62) {S : ByteArray} {d : Bool} (hd : Pr Tryz.prog 149 [.agg [.bool s, .ints .u32 xs, .bool t, .ints .u32 ys]] (.tup [.one (.str S), .one (.bool d)])) :
    Pr Tryz.prog 114 [.agg [.int .i64 op, .bool s, .ints .u32 xs, .bool t, .ints .u32 ys, .str nm, .rows 7 m f]] (.one (.bool (shB d (zB s t xs ys) op nm m))) := by
  have hn := IsName_spec nm hnm
  obtain ⟨z, hz⟩ : ∃ z, z = zB s t xs ys := ⟨_, rfl⟩
  rw [← hz]
  refine pv T_ok mixed Tryz.func114 rfl (by decide) _ (by simp [Tryz.ntmps114]) ⟨[0, 1, 2, 3, 5, 35, 36, 61, 75, 89], []⟩ (by kernel_rfl) _ ?_
  show vc T _ _ (Option.get! Tryz.f114.body) _ _
  simp only [Tryz.f114,Tryz.ntmps114,Option.get!,iS,iM,eO,J1]
  simp only [vx,T,K5,J0,K6,K7,↓reduceIte,J1,J2,J3,J4,J5,J6,J7,J8,J9,reduceCtorEq,K1,K2,K3,K4]
  refine ⟨fun g1 => Lg ?_, fun g1 => Lg ?_⟩
  · simp only [vx,T,K5,J0,K6,K7,↓reduceIte,J1,J2,J3,J4,J5,J6,J7,J8,J9,reduceCtorEq,K1,K2,K3,K4]
    refine ⟨fun g2 => Lg ?_, fun g2 => Lg ?_⟩
    · simp only [vx,T,K5,J0,K6,K7,↓reduceIte,J1,J2,J3,J4,J5,J6,J7,J8,J9,reduceCtorEq,K1,K2,K3,K4]
      refine ⟨fun g3 => Lg ?_, fun g3 => Lg ?_⟩
      · simp only [vx,T,K5,J0,K6,K7,↓reduceIte,J1,J2,J3,J4,J5,J6,J7,J8,J9,reduceCtorEq,K1,K2,K3,K4]
        have e : decide ((ys.length : Int) = 0) = z := by rw [hz]; simp [zB] at g1 g2 g3 ⊢; simp [g1, g2, g3]
        simp only [e]
        refine ⟨fun o1 => Lg ?_, fun o1 => Lg ?_⟩
        · simp only [vx,T,K5,J0,K6,K7,↓reduceIte,J1,J2,J3,J4,J5,J6,J7,J8,J9,reduceCtorEq,K1,K2,K3,K4]
          refine Cg hd ?_
          simp only [vx,T,K5,J0,K6,K7,↓reduceIte,J1,J2,J3,J4,J5,J6,J7,J8,J9,reduceCtorEq,K1,K2,K3,K4]
          refine ⟨fun k1 => Lg ?_, fun k1 => Lg ?_⟩
          · simp only [vx,T,K5,J0,K6,K7,↓reduceIte,J1,J2,J3,J4,J5,J6,J7,J8,J9,reduceCtorEq,K1,K2,K3,K4]
            refine ⟨fun k2 => Lg ?_, fun k2 => Lg ?_⟩
            · simp only [vx,T,K5,J0,K6,K7,↓reduceIte,J1,J2,J3,J4,J5,J6,J7,J8,J9,reduceCtorEq,K1,K2,K3,K4]
              exact vb (by simp [shB, o1, k1, k2] <;> omega)
            · simp only [vx,T,K5,J0,K6,K7,↓reduceIte,J1,J2,J3,J4,J5,J6,J7,J8,J9,reduceCtorEq,K1,K2,K3,K4]
              refine Cg hn ?_
              simp only [vx,T,K5,J0,K6,K7,↓reduceIte,J1,J2,J3,J4,J5,J6,J7,J8,J9,reduceCtorEq,K1,K2,K3,K4]
              refine ⟨fun k3 => Lg ?_, fun k3 => Lg ?_⟩
              · simp only [vx,T,K5,J0,K6,K7,↓reduceIte,J1,J2,J3,J4,J5,J6,J7,J8,J9,reduceCtorEq,K1,K2,K3,K4]
                exact vb (by simp [shB, o1, k1, k2, k3] <;> omega)
              · simp only [vx,T,K5,J0,K6,K7,↓reduceIte,J1,J2,J3,J4,J5,J6,J7,J8,J9,reduceCtorEq,K1,K2,K3,K4]
                exact vb (by simp [shB, o1, k1, k2, k3] <;> omega)
          · simp only [vx,T,K5,J0,K6,K7,↓reduceIte,J1,J2,J3,J4,J5,J6,J7,J8,J9,reduceCtorEq,K1,K2,K3,K4]
            exact vb (by simp [shB, o1, k1] <;> omega)
        · simp only [vx,T,K5,J0,K6,K7,↓reduceIte,J1,J2,J3,J4,J5,J6,J7,J8,J9,reduceCtorEq,K1,K2,K3,K4]
          refine ⟨fun o2 => Lg ?_, fun o2 => Lg ?_⟩
          · simp only [vx,T,K5,J0,K6,K7,↓reduceIte,J1,J2,J3,J4,J5,J6,J7,J8,J9,reduceCtorEq,K1,K2,K3,K4]
            refine ⟨fun k1 => Lg ?_, fun k1 => Lg ?_⟩
            · simp only [vx,T,K5,J0,K6,K7,↓reduceIte,J1,J2,J3,J4,J5,J6,J7,J8,J9,reduceCtorEq,K1,K2,K3,K4]
              refine Cg hn ?_
              simp only [vx,T,K5,J0,K6,K7,↓reduceIte,J1,J2,J3,J4,J5,J6,J7,J8,J9,reduceCtorEq,K1,K2,K3,K4]
              refine ⟨fun k2 => Lg ?_, fun k2 => Lg ?_⟩
              · simp only [vx,T,K5,J0,K6,K7,↓reduceIte,J1,J2,J3,J4,J5,J6,J7,J8,J9,reduceCtorEq,K1,K2,K3,K4]
                exact vb (by simp [shB, o1, o2, k1, k2] <;> omega)
              · simp only [vx,T,K5,J0,K6,K7,↓reduceIte,J1,J2,J3,J4,J5,J6,J7,J8,J9,reduceCtorEq,K1,K2,K3,K4]
                exact vb (by simp [shB, o1, o2, k1, k2] <;> omega)
            · simp only [vx,T,K5,J0,K6,K7,↓reduceIte,J1,J2,J3,J4,J5,J6,J7,J8,J9,reduceCtorEq,K1,K2,K3,K4]
              exact vb (by simp [shB, o1, o2, k1] <;> omega)
          · simp only [vx,T,K5,J0,K6,K7,↓reduceIte,J1,J2,J3,J4,J5,J6,J7,J8,J9,reduceCtorEq,K1,K2,K3,K4]
            refine ⟨fun o3 => Lg ?_, fun o3 => Lg ?_⟩
            · simp only [vx,T,K5,J0,K6,K7,↓reduceIte,J1,J2,J3,J4,J5,J6,J7,J8,J9,reduceCtorEq,K1,K2,K3,K4]
              refine ⟨fun k1 => Lg ?_, fun k1 => Lg ?_⟩
              · simp only [vx,T,K5,J0,K6,K7,↓reduceIte,J1,J2,J3,J4,J5,J6,J7,J8,J9,reduceCtorEq,K1,K2,K3,K4]
                refine ⟨fun k2 => Lg ?_, fun k2 => Lg ?_⟩
                · simp only [vx,T,K5,J0,K6,K7,↓reduceIte,J1,J2,J3,J4,J5,J6,J7,J8,J9,reduceCtorEq,K1,K2,K3,K4]
                  exact vb (by simp [shB, o1, o2, o3, k1, k2] <;> omega)
                · simp only [vx,T,K5,J0,K6,K7,↓reduceIte,J1,J2,J3,J4,J5,J6,J7,J8,J9,reduceCtorEq,K1,K2,K3,K4]
                  exact vb (by simp [shB, o1, o2, o3, k1, k2] <;> omega)
              · simp only [vx,T,K5,J0,K6,K7,↓reduceIte,J1,J2,J3,J4,J5,J6,J7,J8,J9,reduceCtorEq,K1,K2,K3,K4]
                exact vb (by simp [shB, o1, o2, o3, k1] <;> omega)
            · simp only [vx,T,K5,J0,K6,K7,↓reduceIte,J1,J2,J3,J4,J5,J6,J7,J8,J9,reduceCtorEq,K1,K2,K3,K4]
              refine ⟨fun o4 => Lg ?_, fun o4 => Lg ?_⟩
              · simp only [vx,T,K5,J0,K6,K7,↓reduceIte,J1,J2,J3,J4,J5,J6,J7,J8,J9,reduceCtorEq,K1,K2,K3,K4]
                refine ⟨fun _ => Lg ?_, fun h => absurd o4 h⟩
                simp only [vx,T,K5,J0,K6,K7,↓reduceIte,J1,J2,J3,J4,J5,J6,J7,J8,J9,reduceCtorEq,K1,K2,K3,K4]
                refine ⟨fun k1 => Lg ?_, fun k1 => Lg ?_⟩
                · simp only [vx,T,K5,J0,K6,K7,↓reduceIte,J1,J2,J3,J4,J5,J6,J7,J8,J9,reduceCtorEq,K1,K2,K3,K4]
                  refine ⟨fun k2 => Lg ?_, fun k2 => Lg ?_⟩
                  · simp only [vx,T,K5,J0,K6,K7,↓reduceIte,J1,J2,J3,J4,J5,J6,J7,J8,J9,reduceCtorEq,K1,K2,K3,K4]
                    exact vb (by simp [shB, o1, o2, o3, o4, k1, k2] <;> omega)
                  · simp only [vx,T,K5,J0,K6,K7,↓reduceIte,J1,J2,J3,J4,J5,J6,J7,J8,J9,reduceCtorEq,K1,K2,K3,K4]
                    exact vb (by simp [shB, o1, o2, o3, o4, k1, k2] <;> omega)
                · simp only [vx,T,K5,J0,K6,K7,↓reduceIte,J1,J2,J3,J4,J5,J6,J7,J8,J9,reduceCtorEq,K1,K2,K3,K4]
                  exact vb (by simp [shB, o1, o2, o3, o4, k1] <;> omega)
              · simp only [vx,T,K5,J0,K6,K7,↓reduceIte,J1,J2,J3,J4,J5,J6,J7,J8,J9,reduceCtorEq,K1,K2,K3,K4]
                refine ⟨fun o5 => Lg ?_, fun o5 => Lg ?_⟩
                · simp only [vx,T,K5,J0,K6,K7,↓reduceIte,J1,J2,J3,J4,J5,J6,J7,J8,J9,reduceCtorEq,K1,K2,K3,K4]
                  refine ⟨fun _ => Lg ?_, fun h => absurd o5 h⟩
                  simp only [vx,T,K5,J0,K6,K7,↓reduceIte,J1,J2,J3,J4,J5,J6,J7,J8,J9,reduceCtorEq,K1,K2,K3,K4]
                  refine ⟨fun k1 => Lg ?_, fun k1 => Lg ?_⟩
                  · simp only [vx,T,K5,J0,K6,K7,↓reduceIte,J1,J2,J3,J4,J5,J6,J7,J8,J9,reduceCtorEq,K1,K2,K3,K4]
                    refine ⟨fun k2 => Lg ?_, fun k2 => Lg ?_⟩
                    · simp only [vx,T,K5,J0,K6,K7,↓reduceIte,J1,J2,J3,J4,J5,J6,J7,J8,J9,reduceCtorEq,K1,K2,K3,K4]
                      exact vb (by simp [shB, o1, o2, o3, o4, o5, k1, k2] <;> omega)
                    · simp only [vx,T,K5,J0,K6,K7,↓reduceIte,J1,J2,J3,J4,J5,J6,J7,J8,J9,reduceCtorEq,K1,K2,K3,K4]
                      exact vb (by simp [shB, o1, o2, o3, o4, o5, k1, k2] <;> omega)
                  · simp only [vx,T,K5,J0,K6,K7,↓reduceIte,J1,J2,J3,J4,J5,J6,J7,J8,J9,reduceCtorEq,K1,K2,K3,K4]
                    exact vb (by simp [shB, o1, o2, o3, o4, o5, k1] <;> omega)
                · simp only [vx,T,K5,J0,K6,K7,↓reduceIte,J1,J2,J3,J4,J5,J6,J7,J8,J9,reduceCtorEq,K1,K2,K3,K4]
                  refine ⟨fun o6 => Lg ?_, fun o6 => Lg ?_⟩
                  · simp only [vx,T,K5,J0,K6,K7,↓reduceIte,J1,J2,J3,J4,J5,J6,J7,J8,J9,reduceCtorEq,K1,K2,K3,K4]
                    refine ⟨fun _ => Lg ?_, fun h => absurd o6 h⟩
                    simp only [vx,T,K5,J0,K6,K7,↓reduceIte,J1,J2,J3,J4,J5,J6,J7,J8,J9,reduceCtorEq,K1,K2,K3,K4]
                    refine ⟨fun k1 => Lg ?_, fun k1 => Lg ?_⟩
                    · simp only [vx,T,K5,J0,K6,K7,↓reduceIte,J1,J2,J3,J4,J5,J6,J7,J8,J9,reduceCtorEq,K1,K2,K3,K4]
                      refine ⟨fun k2 => Lg ?_, fun k2 => Lg ?_⟩
                      · simp only [vx,T,K5,J0,K6,K7,↓reduceIte,J1,J2,J3,J4,J5,J6,J7,J8,J9,reduceCtorEq,K1,K2,K3,K4]
                        exact vb (by simp [shB, o1, o2, o3, o4, o5, o6, k1, k2] <;> omega)
                      · simp only [vx,T,K5,J0,K6,K7,↓reduceIte,J1,J2,J3,J4,J5,J6,J7,J8,J9,reduceCtorEq,K1,K2,K3,K4]
                        exact vb (by simp [shB, o1, o2, o3, o4, o5, o6, k1, k2] <;> omega)
                    · simp only [vx,T,K5,J0,K6,K7,↓reduceIte,J1,J2,J3,J4,J5,J6,J7,J8,J9,reduceCtorEq,K1,K2,K3,K4]
                      exact vb (by simp [shB, o1, o2, o3, o4, o5, o6, k1] <;> omega)
                  · simp only [vx,T,K5,J0,K6,K7,↓reduceIte,J1,J2,J3,J4,J5,J6,J7,J8,J9,reduceCtorEq,K1,K2,K3,K4]
                    refine ⟨fun o7 => Lg ?_, fun o7 => Lg ?_⟩
                    · simp only [vx,T,K5,J0,K6,K7,↓reduceIte,J1,J2,J3,J4,J5,J6,J7,J8,J9,reduceCtorEq,K1,K2,K3,K4]
                      refine ⟨fun k1 => Lg ?_, fun k1 => Lg ?_⟩
                      · simp only [vx,T,K5,J0,K6,K7,↓reduceIte,J1,J2,J3,J4,J5,J6,J7,J8,J9,reduceCtorEq,K1,K2,K3,K4]
                        refine ⟨fun k2 => Lg ?_, fun k2 => Lg ?_⟩
                        · simp only [vx,T,K5,J0,K6,K7,↓reduceIte,J1,J2,J3,J4,J5,J6,J7,J8,J9,reduceCtorEq,K1,K2,K3,K4]
                          exact vb (by simp [shB, o1, o2, o3, o4, o5, o6, o7, k1, k2] <;> omega)
                        · simp only [vx,T,K5,J0,K6,K7,↓reduceIte,J1,J2,J3,J4,J5,J6,J7,J8,J9,reduceCtorEq,K1,K2,K3,K4]
                          exact vb (by simp [shB, o1, o2, o3, o4, o5, o6, o7, k1, k2] <;> omega)
                      · simp only [vx,T,K5,J0,K6,K7,↓reduceIte,J1,J2,J3,J4,J5,J6,J7,J8,J9,reduceCtorEq,K1,K2,K3,K4]
                        exact vb (by simp [shB, o1, o2, o3, o4, o5, o6, o7, k1] <;> omega)
                    · simp only [vx,T,K5,J0,K6,K7,↓reduceIte,J1,J2,J3,J4,J5,J6,J7,J8,J9,reduceCtorEq,K1,K2,K3,K4]
                      exact vb (by simp [shB, o1, o2, o3, o4, o5, o6, o7] <;> omega)
      · have e : z = false := by rw [hz]; simp [zB] at g3 ⊢; simp [g3]
        subst e
        simp only [vx,T,K5,J0,K6,K7,↓reduceIte,J1,J2,J3,J4,J5,J6,J7,J8,J9,reduceCtorEq,K1,K2,K3,K4]
        refine ⟨fun o1 => Lg ?_, fun o1 => Lg ?_⟩
        · simp only [vx,T,K5,J0,K6,K7,↓reduceIte,J1,J2,J3,J4,J5,J6,J7,J8,J9,reduceCtorEq,K1,K2,K3,K4]
          refine Cg hd ?_
          simp only [vx,T,K5,J0,K6,K7,↓reduceIte,J1,J2,J3,J4,J5,J6,J7,J8,J9,reduceCtorEq,K1,K2,K3,K4]
          refine ⟨fun k1 => Lg ?_, fun k1 => Lg ?_⟩
          · simp only [vx,T,K5,J0,K6,K7,↓reduceIte,J1,J2,J3,J4,J5,J6,J7,J8,J9,reduceCtorEq,K1,K2,K3,K4]
            refine ⟨fun k2 => Lg ?_, fun k2 => Lg ?_⟩
            · simp only [vx,T,K5,J0,K6,K7,↓reduceIte,J1,J2,J3,J4,J5,J6,J7,J8,J9,reduceCtorEq,K1,K2,K3,K4]
              exact vb (by simp [shB, o1, k1, k2] <;> omega)
            · simp only [vx,T,K5,J0,K6,K7,↓reduceIte,J1,J2,J3,J4,J5,J6,J7,J8,J9,reduceCtorEq,K1,K2,K3,K4]
              refine Cg hn ?_
              simp only [vx,T,K5,J0,K6,K7,↓reduceIte,J1,J2,J3,J4,J5,J6,J7,J8,J9,reduceCtorEq,K1,K2,K3,K4]
              refine ⟨fun k3 => Lg ?_, fun k3 => Lg ?_⟩
              · simp only [vx,T,K5,J0,K6,K7,↓reduceIte,J1,J2,J3,J4,J5,J6,J7,J8,J9,reduceCtorEq,K1,K2,K3,K4]
                exact vb (by simp [shB, o1, k1, k2, k3] <;> omega)
              · simp only [vx,T,K5,J0,K6,K7,↓reduceIte,J1,J2,J3,J4,J5,J6,J7,J8,J9,reduceCtorEq,K1,K2,K3,K4]
                exact vb (by simp [shB, o1, k1, k2, k3] <;> omega)
          · simp only [vx,T,K5,J0,K6,K7,↓reduceIte,J1,J2,J3,J4,J5,J6,J7,J8,J9,reduceCtorEq,K1,K2,K3,K4]
            exact vb (by simp [shB, o1, k1] <;> omega)
        · simp only [vx,T,K5,J0,K6,K7,↓reduceIte,J1,J2,J3,J4,J5,J6,J7,J8,J9,reduceCtorEq,K1,K2,K3,K4]
          refine ⟨fun o2 => Lg ?_, fun o2 => Lg ?_⟩
          · simp only [vx,T,K5,J0,K6,K7,↓reduceIte,J1,J2,J3,J4,J5,J6,J7,J8,J9,reduceCtorEq,K1,K2,K3,K4]
            exact vb (by simp [shB, o1, o2] <;> omega)
          · simp only [vx,T,K5,J0,K6,K7,↓reduceIte,J1,J2,J3,J4,J5,J6,J7,J8,J9,reduceCtorEq,K1,K2,K3,K4]
            refine ⟨fun o3 => Lg ?_, fun o3 => Lg ?_⟩
            · simp only [vx,T,K5,J0,K6,K7,↓reduceIte,J1,J2,J3,J4,J5,J6,J7,J8,J9,reduceCtorEq,K1,K2,K3,K4]
              exact vb (by simp [shB, o1, o2, o3] <;> omega)
            · simp only [vx,T,K5,J0,K6,K7,↓reduceIte,J1,J2,J3,J4,J5,J6,J7,J8,J9,reduceCtorEq,K1,K2,K3,K4]
              refine ⟨fun o4 => Lg ?_, fun o4 => Lg ?_⟩
              · simp only [vx,T,K5,J0,K6,K7,↓reduceIte,J1,J2,J3,J4,J5,J6,J7,J8,J9,reduceCtorEq,K1,K2,K3,K4]
                refine ⟨fun _ => Lg ?_, fun h => absurd o4 h⟩
                simp only [vx,T,K5,J0,K6,K7,↓reduceIte,J1,J2,J3,J4,J5,J6,J7,J8,J9,reduceCtorEq,K1,K2,K3,K4]
                exact vb (by simp [shB, o1, o2, o3, o4] <;> omega)
              · simp only [vx,T,K5,J0,K6,K7,↓reduceIte,J1,J2,J3,J4,J5,J6,J7,J8,J9,reduceCtorEq,K1,K2,K3,K4]
                refine ⟨fun o5 => Lg ?_, fun o5 => Lg ?_⟩
                · simp only [vx,T,K5,J0,K6,K7,↓reduceIte,J1,J2,J3,J4,J5,J6,J7,J8,J9,reduceCtorEq,K1,K2,K3,K4]
                  refine ⟨fun _ => Lg ?_, fun h => absurd o5 h⟩
                  simp only [vx,T,K5,J0,K6,K7,↓reduceIte,J1,J2,J3,J4,J5,J6,J7,J8,J9,reduceCtorEq,K1,K2,K3,K4]
                  exact vb (by simp [shB, o1, o2, o3, o4, o5] <;> omega)
                · simp only [vx,T,K5,J0,K6,K7,↓reduceIte,J1,J2,J3,J4,J5,J6,J7,J8,J9,reduceCtorEq,K1,K2,K3,K4]
                  refine ⟨fun o6 => Lg ?_, fun o6 => Lg ?_⟩
                  · simp only [vx,T,K5,J0,K6,K7,↓reduceIte,J1,J2,J3,J4,J5,J6,J7,J8,J9,reduceCtorEq,K1,K2,K3,K4]
                    refine ⟨fun _ => Lg ?_, fun h => absurd o6 h⟩
                    simp only [vx,T,K5,J0,K6,K7,↓reduceIte,J1,J2,J3,J4,J5,J6,J7,J8,J9,reduceCtorEq,K1,K2,K3,K4]
                    exact vb (by simp [shB, o1, o2, o3, o4, o5, o6] <;> omega)
                  · simp only [vx,T,K5,J0,K6,K7,↓reduceIte,J1,J2,J3,J4,J5,J6,J7,J8,J9,reduceCtorEq,K1,K2,K3,K4]
                    refine ⟨fun o7 => Lg ?_, fun o7 => Lg ?_⟩
                    · simp only [vx,T,K5,J0,K6,K7,↓reduceIte,J1,J2,J3,J4,J5,J6,J7,J8,J9,reduceCtorEq,K1,K2,K3,K4]
                      exact vb (by simp [shB, o1, o2, o3, o4, o5, o6, o7] <;> omega)
                    · simp only [vx,T,K5,J0,K6,K7,↓reduceIte,J1,J2,J3,J4,J5,J6,J7,J8,J9,reduceCtorEq,K1,K2,K3,K4]
                      exact vb (by simp [shB, o1, o2, o3, o4, o5, o6, o7] <;> omega)
    · have e : z = false := by rw [hz]; simp [zB] at g2 ⊢; simp [g2]
      subst e
      simp only [vx,T,K5,J0,K6,K7,↓reduceIte,J1,J2,J3,J4,J5,J6,J7,J8,J9,reduceCtorEq,K1,K2,K3,K4]
      refine ⟨fun o1 => Lg ?_, fun o1 => Lg ?_⟩
      · simp only [vx,T,K5,J0,K6,K7,↓reduceIte,J1,J2,J3,J4,J5,J6,J7,J8,J9,reduceCtorEq,K1,K2,K3,K4]
        refine Cg hd ?_
        simp only [vx,T,K5,J0,K6,K7,↓reduceIte,J1,J2,J3,J4,J5,J6,J7,J8,J9,reduceCtorEq,K1,K2,K3,K4]
        refine ⟨fun k1 => Lg ?_, fun k1 => Lg ?_⟩
        · simp only [vx,T,K5,J0,K6,K7,↓reduceIte,J1,J2,J3,J4,J5,J6,J7,J8,J9,reduceCtorEq,K1,K2,K3,K4]
          refine ⟨fun k2 => Lg ?_, fun k2 => Lg ?_⟩
          · simp only [vx,T,K5,J0,K6,K7,↓reduceIte,J1,J2,J3,J4,J5,J6,J7,J8,J9,reduceCtorEq,K1,K2,K3,K4]
            exact vb (by simp [shB, o1, k1, k2] <;> omega)
          · simp only [vx,T,K5,J0,K6,K7,↓reduceIte,J1,J2,J3,J4,J5,J6,J7,J8,J9,reduceCtorEq,K1,K2,K3,K4]
            refine Cg hn ?_
            simp only [vx,T,K5,J0,K6,K7,↓reduceIte,J1,J2,J3,J4,J5,J6,J7,J8,J9,reduceCtorEq,K1,K2,K3,K4]
            refine ⟨fun k3 => Lg ?_, fun k3 => Lg ?_⟩
            · simp only [vx,T,K5,J0,K6,K7,↓reduceIte,J1,J2,J3,J4,J5,J6,J7,J8,J9,reduceCtorEq,K1,K2,K3,K4]
              exact vb (by simp [shB, o1, k1, k2, k3] <;> omega)
            · simp only [vx,T,K5,J0,K6,K7,↓reduceIte,J1,J2,J3,J4,J5,J6,J7,J8,J9,reduceCtorEq,K1,K2,K3,K4]
              exact vb (by simp [shB, o1, k1, k2, k3] <;> omega)
        · simp only [vx,T,K5,J0,K6,K7,↓reduceIte,J1,J2,J3,J4,J5,J6,J7,J8,J9,reduceCtorEq,K1,K2,K3,K4]
          exact vb (by simp [shB, o1, k1] <;> omega)
      · simp only [vx,T,K5,J0,K6,K7,↓reduceIte,J1,J2,J3,J4,J5,J6,J7,J8,J9,reduceCtorEq,K1,K2,K3,K4]
        refine ⟨fun o2 => Lg ?_, fun o2 => Lg ?_⟩
        · simp only [vx,T,K5,J0,K6,K7,↓reduceIte,J1,J2,J3,J4,J5,J6,J7,J8,J9,reduceCtorEq,K1,K2,K3,K4]
          exact vb (by simp [shB, o1, o2] <;> omega)
        · simp only [vx,T,K5,J0,K6,K7,↓reduceIte,J1,J2,J3,J4,J5,J6,J7,J8,J9,reduceCtorEq,K1,K2,K3,K4]
          refine ⟨fun o3 => Lg ?_, fun o3 => Lg ?_⟩
          · simp only [vx,T,K5,J0,K6,K7,↓reduceIte,J1,J2,J3,J4,J5,J6,J7,J8,J9,reduceCtorEq,K1,K2,K3,K4]
            exact vb (by simp [shB, o1, o2, o3] <;> omega)
          · simp only [vx,T,K5,J0,K6,K7,↓reduceIte,J1,J2,J3,J4,J5,J6,J7,J8,J9,reduceCtorEq,K1,K2,K3,K4]
            refine ⟨fun o4 => Lg ?_, fun o4 => Lg ?_⟩
            · simp only [vx,T,K5,J0,K6,K7,↓reduceIte,J1,J2,J3,J4,J5,J6,J7,J8,J9,reduceCtorEq,K1,K2,K3,K4]
              refine ⟨fun _ => Lg ?_, fun h => absurd o4 h⟩
              simp only [vx,T,K5,J0,K6,K7,↓reduceIte,J1,J2,J3,J4,J5,J6,J7,J8,J9,reduceCtorEq,K1,K2,K3,K4]
              exact vb (by simp [shB, o1, o2, o3, o4] <;> omega)
            · simp only [vx,T,K5,J0,K6,K7,↓reduceIte,J1,J2,J3,J4,J5,J6,J7,J8,J9,reduceCtorEq,K1,K2,K3,K4]
              refine ⟨fun o5 => Lg ?_, fun o5 => Lg ?_⟩
              · simp only [vx,T,K5,J0,K6,K7,↓reduceIte,J1,J2,J3,J4,J5,J6,J7,J8,J9,reduceCtorEq,K1,K2,K3,K4]
                refine ⟨fun _ => Lg ?_, fun h => absurd o5 h⟩
                simp only [vx,T,K5,J0,K6,K7,↓reduceIte,J1,J2,J3,J4,J5,J6,J7,J8,J9,reduceCtorEq,K1,K2,K3,K4]
                exact vb (by simp [shB, o1, o2, o3, o4, o5] <;> omega)
              · simp only [vx,T,K5,J0,K6,K7,↓reduceIte,J1,J2,J3,J4,J5,J6,J7,J8,J9,reduceCtorEq,K1,K2,K3,K4]
                refine ⟨fun o6 => Lg ?_, fun o6 => Lg ?_⟩
                · simp only [vx,T,K5,J0,K6,K7,↓reduceIte,J1,J2,J3,J4,J5,J6,J7,J8,J9,reduceCtorEq,K1,K2,K3,K4]
                  refine ⟨fun _ => Lg ?_, fun h => absurd o6 h⟩
                  simp only [vx,T,K5,J0,K6,K7,↓reduceIte,J1,J2,J3,J4,J5,J6,J7,J8,J9,reduceCtorEq,K1,K2,K3,K4]
                  exact vb (by simp [shB, o1, o2, o3, o4, o5, o6] <;> omega)
                · simp only [vx,T,K5,J0,K6,K7,↓reduceIte,J1,J2,J3,J4,J5,J6,J7,J8,J9,reduceCtorEq,K1,K2,K3,K4]
                  refine ⟨fun o7 => Lg ?_, fun o7 => Lg ?_⟩
                  · simp only [vx,T,K5,J0,K6,K7,↓reduceIte,J1,J2,J3,J4,J5,J6,J7,J8,J9,reduceCtorEq,K1,K2,K3,K4]
                    exact vb (by simp [shB, o1, o2, o3, o4, o5, o6, o7] <;> omega)
                  · simp only [vx,T,K5,J0,K6,K7,↓reduceIte,J1,J2,J3,J4,J5,J6,J7,J8,J9,reduceCtorEq,K1,K2,K3,K4]
                    exact vb (by simp [shB, o1, o2, o3, o4, o5, o6, o7] <;> omega)
  · have e : z = false := by rw [hz]; simp [zB] at g1 ⊢; simp [g1]
    subst e
    simp only [vx,T,K5,J0,K6,K7,↓reduceIte,J1,J2,J3,J4,J5,J6,J7,J8,J9,reduceCtorEq,K1,K2,K3,K4]
    refine ⟨fun o1 => Lg ?_, fun o1 => Lg ?_⟩
    · simp only [vx,T,K5,J0,K6,K7,↓reduceIte,J1,J2,J3,J4,J5,J6,J7,J8,J9,reduceCtorEq,K1,K2,K3,K4]
      refine Cg hd ?_
      simp only [vx,T,K5,J0,K6,K7,↓reduceIte,J1,J2,J3,J4,J5,J6,J7,J8,J9,reduceCtorEq,K1,K2,K3,K4]
      refine ⟨fun k1 => Lg ?_, fun k1 => Lg ?_⟩
      · simp only [vx,T,K5,J0,K6,K7,↓reduceIte,J1,J2,J3,J4,J5,J6,J7,J8,J9,reduceCtorEq,K1,K2,K3,K4]
        refine ⟨fun k2 => Lg ?_, fun k2 => Lg ?_⟩
        · simp only [vx,T,K5,J0,K6,K7,↓reduceIte,J1,J2,J3,J4,J5,J6,J7,J8,J9,reduceCtorEq,K1,K2,K3,K4]
          exact vb (by simp [shB, o1, k1, k2] <;> omega)
        · simp only [vx,T,K5,J0,K6,K7,↓reduceIte,J1,J2,J3,J4,J5,J6,J7,J8,J9,reduceCtorEq,K1,K2,K3,K4]
          refine Cg hn ?_
          simp only [vx,T,K5,J0,K6,K7,↓reduceIte,J1,J2,J3,J4,J5,J6,J7,J8,J9,reduceCtorEq,K1,K2,K3,K4]
          refine ⟨fun k3 => Lg ?_, fun k3 => Lg ?_⟩
          · simp only [vx,T,K5,J0,K6,K7,↓reduceIte,J1,J2,J3,J4,J5,J6,J7,J8,J9,reduceCtorEq,K1,K2,K3,K4]
            exact vb (by simp [shB, o1, k1, k2, k3] <;> omega)
          · simp only [vx,T,K5,J0,K6,K7,↓reduceIte,J1,J2,J3,J4,J5,J6,J7,J8,J9,reduceCtorEq,K1,K2,K3,K4]
            exact vb (by simp [shB, o1, k1, k2, k3] <;> omega)
      · simp only [vx,T,K5,J0,K6,K7,↓reduceIte,J1,J2,J3,J4,J5,J6,J7,J8,J9,reduceCtorEq,K1,K2,K3,K4]
        exact vb (by simp [shB, o1, k1] <;> omega)
    · simp only [vx,T,K5,J0,K6,K7,↓reduceIte,J1,J2,J3,J4,J5,J6,J7,J8,J9,reduceCtorEq,K1,K2,K3,K4]
      refine ⟨fun o2 => Lg ?_, fun o2 => Lg ?_⟩
      · simp only [vx,T,K5,J0,K6,K7,↓reduceIte,J1,J2,J3,J4,J5,J6,J7,J8,J9,reduceCtorEq,K1,K2,K3,K4]
        exact vb (by simp [shB, o1, o2] <;> omega)
      · simp only [vx,T,K5,J0,K6,K7,↓reduceIte,J1,J2,J3,J4,J5,J6,J7,J8,J9,reduceCtorEq,K1,K2,K3,K4]
        refine ⟨fun o3 => Lg ?_, fun o3 => Lg ?_⟩
        · simp only [vx,T,K5,J0,K6,K7,↓reduceIte,J1,J2,J3,J4,J5,J6,J7,J8,J9,reduceCtorEq,K1,K2,K3,K4]
          exact vb (by simp [shB, o1, o2, o3] <;> omega)
        · simp only [vx,T,K5,J0,K6,K7,↓reduceIte,J1,J2,J3,J4,J5,J6,J7,J8,J9,reduceCtorEq,K1,K2,K3,K4]
          refine ⟨fun o4 => Lg ?_, fun o4 => Lg ?_⟩
          · simp only [vx,T,K5,J0,K6,K7,↓reduceIte,J1,J2,J3,J4,J5,J6,J7,J8,J9,reduceCtorEq,K1,K2,K3,K4]
            refine ⟨fun _ => Lg ?_, fun h => absurd o4 h⟩
            simp only [vx,T,K5,J0,K6,K7,↓reduceIte,J1,J2,J3,J4,J5,J6,J7,J8,J9,reduceCtorEq,K1,K2,K3,K4]
            exact vb (by simp [shB, o1, o2, o3, o4] <;> omega)
          · simp only [vx,T,K5,J0,K6,K7,↓reduceIte,J1,J2,J3,J4,J5,J6,J7,J8,J9,reduceCtorEq,K1,K2,K3,K4]
            refine ⟨fun o5 => Lg ?_, fun o5 => Lg ?_⟩
            · simp only [vx,T,K5,J0,K6,K7,↓reduceIte,J1,J2,J3,J4,J5,J6,J7,J8,J9,reduceCtorEq,K1,K2,K3,K4]
              refine ⟨fun _ => Lg ?_, fun h => absurd o5 h⟩
              simp only [vx,T,K5,J0,K6,K7,↓reduceIte,J1,J2,J3,J4,J5,J6,J7,J8,J9,reduceCtorEq,K1,K2,K3,K4]
              exact vb (by simp [shB, o1, o2, o3, o4, o5] <;> omega)
            · simp only [vx,T,K5,J0,K6,K7,↓reduceIte,J1,J2,J3,J4,J5,J6,J7,J8,J9,reduceCtorEq,K1,K2,K3,K4]
              refine ⟨fun o6 => Lg ?_, fun o6 => Lg ?_⟩
              · simp only [vx,T,K5,J0,K6,K7,↓reduceIte,J1,J2,J3,J4,J5,J6,J7,J8,J9,reduceCtorEq,K1,K2,K3,K4]
                refine ⟨fun _ => Lg ?_, fun h => absurd o6 h⟩
                simp only [vx,T,K5,J0,K6,K7,↓reduceIte,J1,J2,J3,J4,J5,J6,J7,J8,J9,reduceCtorEq,K1,K2,K3,K4]
                exact vb (by simp [shB, o1, o2, o3, o4, o5, o6] <;> omega)
              · simp only [vx,T,K5,J0,K6,K7,↓reduceIte,J1,J2,J3,J4,J5,J6,J7,J8,J9,reduceCtorEq,K1,K2,K3,K4]
                refine ⟨fun o7 => Lg ?_, fun o7 => Lg ?_⟩
                · simp only [vx,T,K5,J0,K6,K7,↓reduceIte,J1,J2,J3,J4,J5,J6,J7,J8,J9,reduceCtorEq,K1,K2,K3,K4]
                  exact vb (by simp [shB, o1, o2, o3, o4, o5, o6, o7] <;> omega)
                · simp only [vx,T,K5,J0,K6,K7,↓reduceIte,J1,J2,J3,J4,J5,J6,J7,J8,J9,reduceCtorEq,K1,K2,K3,K4]
                  exact vb (by simp [shB, o1, o2, o3, o4, o5, o6, o7] <;> omega)
open Go Go.Eng
section
variable {B n : Nat} {cs : List C}
theorem okb_bool (h : OkC Tryz.prog B n 4 cs) : ∃ b, cs = [.bool b] := by
  cases n with
  | zero => exact h.elim
  | succ n =>
    simp only [OkC,Tryz.underlying4] at h
    exact h
theorem okb_i64 (h : OkC Tryz.prog B n 3 cs) : ∃ x, cs = [.int .i64 x] ∧ -9223372036854775808 ≤ x ∧ x ≤ 9223372036854775807 := by
  cases n with
  | zero => exact h.elim
  | succ n =>
    simp only [OkC,Tryz.underlying3] at h
    exact h
theorem okb_str (h : OkC Tryz.prog B n 9 cs) : ∃ s, cs = [.str s] ∧ s.size ≤ B := by
  cases n with
  | zero => exact h.elim
  | succ n =>
    simp only [OkC,Tryz.underlying9] at h
    exact h
theorem okb_u32s (h : OkC Tryz.prog B n 37 cs) : ∃ xs, cs = [.ints .u32 xs] ∧ InR xs ∧ xs.length ≤ B := by
  cases n with
  | zero => exact h.elim
  | succ n =>
    simp only [OkC,Tryz.underlying37,Tryz.underlying113] at h
    obtain ⟨xs, h1, h3, h2⟩ := h
    refine ⟨xs, h1, fun x hx => ?_, h3⟩
    have := h2 x hx
    have e1 : IntKind.u32.min = 0 := rfl
    have e2 : IntKind.u32.max = 4294967295 := rfl
    rw [e1, e2] at this
    omega
theorem okb_i64s (h : OkC Tryz.prog B n 22 cs) : ∃ xs, cs = [.ints .i64 xs] ∧ xs.length ≤ B := by
  cases n with
  | zero => exact h.elim
  | succ n =>
    simp only [OkC,Tryz.underlying22,Tryz.underlying3] at h
    obtain ⟨xs, h1, h3, h2⟩ := h
    exact ⟨xs, h1, h3⟩
theorem okb_int (h : OkC Tryz.prog B n 39 cs) : ∃ s xs, cs = [.bool s, .ints .u32 xs] ∧ InR xs ∧ xs.length ≤ B := by
  cases n with
  | zero => exact h.elim
  | succ n =>
    simp only [OkC,Tryz.underlying39] at h
    obtain ⟨c1, c2, rfl, h1, h2⟩ := ok_two h
    obtain ⟨s, rfl⟩ := okb_bool h1
    obtain ⟨xs, rfl, h3⟩ := okb_u32s h2
    exact ⟨s, xs, rfl, h3⟩
theorem okb_rat (h : OkC Tryz.prog B n 41 cs) : ∃ s xs t ys, cs = [.bool s, .ints .u32 xs, .bool t, .ints .u32 ys] ∧ (InR xs ∧ xs.length ≤ B) ∧ InR ys ∧ ys.length ≤ B := by
  cases n with
  | zero => exact h.elim
  | succ n =>
    simp only [OkC,Tryz.underlying41] at h
    obtain ⟨c1, c2, rfl, h1, h2⟩ := ok_two h
    obtain ⟨s, xs, rfl, h3⟩ := okb_int h1
    obtain ⟨t, ys, rfl, h4⟩ := okb_int h2
    exact ⟨s, xs, t, ys, rfl, h3, h4⟩
end
def exL (op : Int) (s : Bool) (xs : List Int) (t : Bool) (ys : List Int) (nm : ByteArray) (m : Nat) (f : Nat → Nat → C) : List C := [.int .i64 op, .bool s, .ints .u32 xs, .bool t, .ints .u32 ys, .str nm, .rows 7 m f]
set_option maxRecDepth 100000 in
theorem okb_expr {B n : Nat} {cs : List C} (h : OkC Tryz.prog B n 44 cs) : ∃ op s xs t ys nm m f k, cs = exL op s xs t ys nm m f ∧ (InR xs ∧ xs.length ≤ B) ∧ (InR ys ∧ ys.length ≤ B) ∧ nm.size ≤ B ∧ m ≤ B ∧ k < n ∧
    ∀ i, i < m → OkC Tryz.prog B k 44 [f i 0, f i 1, f i 2, f i 3, f i 4, f i 5, f i 6] := by
  cases n with
  | zero => exact h.elim
  | succ n =>
    simp only [OkC,Tryz.underlying44] at h
    obtain ⟨c1, r1, rfl, h1, c2, r2, rfl, h2, c3, r3, rfl, h3, c4, r4, rfl, h4, h5⟩ := h
    have h5 : r4 = [] := h5
    subst h5
    obtain ⟨op, rfl, _⟩ := okb_i64 h1
    obtain ⟨s, xs, t, ys, rfl, hx, hy⟩ := okb_rat h2
    obtain ⟨nm, rfl, hn⟩ := okb_str h3
    cases n with
    | zero => exact h4.elim
    | succ k =>
      simp only [OkC,Tryz.underlying23,Tryz.underlying44] at h4
      obtain ⟨m, f, rfl, hm, hf⟩ := h4
      have h7 : Tryz.prog.cellsOf 44 = 7 := by kernel_rfl
      rw [h7] at hf ⊢
      exact ⟨op, s, xs, t, ys, nm, m, f, k, rfl, hx, hy, hn, hm, by omega, hf⟩
def ExAt (f : Nat → Nat → C) (i : Nat) : Prop := ∃ op s xs t ys nm m g, [f i 0, f i 1, f i 2, f i 3, f i 4, f i 5, f i 6] = exL op s xs t ys nm m g
theorem ExAt.of {B k : Nat} {f : Nat → Nat → C} {i : Nat} (h : OkC Tryz.prog B k 44 [f i 0, f i 1, f i 2, f i 3, f i 4, f i 5, f i 6]) : ExAt f i := by
  obtain ⟨op, s, xs, t, ys, nm, m, g, _, e, _⟩ := okb_expr h
  exact ⟨op, s, xs, t, ys, nm, m, g, e⟩
theorem Formed_step (op : Int) (s : Bool) (xs : List Int) (t : Bool) (ys : List Int) (nm : ByteArray) (m : Nat) (f : Nat → Nat → C) (hm : m < 2 ^ 40) (b : Bool) (hsh : Pr Tryz.prog 114 [.agg (exL op s xs t ys nm m f)] (.one (.bool b))) (g : Nat → Bool) (hx : ∀ i, i < m → ExAt f i)
    (hg : ∀ i, i < m → Pr Tryz.prog 88 [.agg [f i 0, f i 1, f i 2, f i 3, f i 4, f i 5, f i 6]] (.one (.bool (g i)))) :
    Pr Tryz.prog 88 [.agg (exL op s xs t ys nm m f)] (.one (.bool (b && (List.range m).all g))) := by
  unfold exL at hsh ⊢
  refine pv T_ok mixed Tryz.func88 rfl (by decide) _ (by simp [Tryz.ntmps88]) ⟨[0, 1, 2, 3, 6, 11, 20], []⟩ (by kernel_rfl) _ ?_
  show vc T _ _ (Option.get! Tryz.f88.body) _ _
  simp only [Tryz.f88,Tryz.ntmps88,Option.get!,iS,iM,eO,J1]
  simp only [vx,T,K5,J0,K6,K7,↓reduceIte,J1,J2,J3,J4,J5,J6,J7,J8,J9,reduceCtorEq,K1,K2,K3,K4]
  refine Cg hsh ?_
  simp only [vx,T,K5,J0,K6,K7,↓reduceIte,J1,J2,J3,J4,J5,J6,J7,J8,J9,reduceCtorEq,K1,K2,K3,K4]
  refine ⟨fun h1 => Lg ?_, fun h1 => Lg ?_⟩
  · have h1 : b = false := by simpa using h1
    simp only [vx,T,K5,J0,K6,K7,↓reduceIte,J1,J2,J3,J4,J5,J6,J7,J8,J9,reduceCtorEq,K1,K2,K3,K4]
    exact vb (by rw [h1]; rfl)
  · have h1 : b = true := by simpa using h1
    simp only [vx,T,K5,J0,K6,K7,↓reduceIte,J1,J2,J3,J4,J5,J6,J7,J8,J9,reduceCtorEq,K1,K2,K3,K4]
    refine Lk (fun y : {i : Nat // i ≤ m ∧ ∀ j, j < i → g j = true} => ⟨[(1, .one (.ptr 1 0)), (3, .one (.int .i64 y.1))], [(1, ⟨.var [.int .i64 op, .bool s, .ints .u32 xs, .bool t, .ints .u32 ys, .str nm, .rows 7 m f], true⟩)], 2, 21⟩) (fun y => m - y.1) ⟨0, Nat.zero_le _, fun j h => absurd h (Nat.not_lt_zero _)⟩ ?_ (fun ⟨i, hi, he⟩ => ?_)
    · refine Sa ?_; simp only [rx,Y0,Y1,Y2,Y3,Y4,Y5,Y6,Y7,ren,↓reduceIte,J1,J2,J3,J4,J5,J6,J7,J8,J9,reduceCtorEq,K1,K2,K3,K4,Y8,Y9,X2,X3,X4]
    have i1 := wI i (by omega)
    simp only [vx,T,K5,J0,K6,K7,↓reduceIte,J1,J2,J3,J4,J5,J6,J7,J8,J9,reduceCtorEq,K1,K2,K3,K4]
    refine ⟨fun h2 => Lg ?_, fun h2 => Lg ?_⟩
    · have him : i < m := by omega
      obtain ⟨op', s', xs', t', ys', nm', m', g', hxe⟩ := hx i him
      simp only [exL,List.cons.injEq,and_true] at hxe
      obtain ⟨e0, e1, e2, e3, e4, e5, e6⟩ := hxe
      have hgi := hg i him
      rw [e0, e1, e2, e3, e4, e5, e6] at hgi
      simp only [vx,T,K5,J0,K6,K7,↓reduceIte,J1,J2,J3,J4,J5,J6,J7,J8,J9,reduceCtorEq,K1,K2,K3,K4,e0,e1,e2,e3,e4,e5,e6]
      refine ⟨⟨by omega, by omega⟩, Cg hgi ?_⟩
      simp only [vx,T,K5,J0,K6,K7,↓reduceIte,J1,J2,J3,J4,J5,J6,J7,J8,J9,reduceCtorEq,K1,K2,K3,K4]
      refine ⟨fun h3 => Lg ?_, fun h3 => Lg ?_⟩
      · have h3 : g i = false := by simpa using h3
        simp only [vx,T,K5,J0,K6,K7,↓reduceIte,J1,J2,J3,J4,J5,J6,J7,J8,J9,reduceCtorEq,K1,K2,K3,K4]
        refine vb ?_
        rw [h1, Bool.true_and]
        exact (all_range_f him h3).symm
      · have h3 : g i = true := by simpa using h3
        simp only [vx,T,K5,J0,K6,K7,↓reduceIte,J1,J2,J3,J4,J5,J6,J7,J8,J9,reduceCtorEq,K1,K2,K3,K4]
        simp only [i1]
        refine Lq ⟨i + 1, by omega, fun j hj => ?_⟩ ?_ ?_
        · by_cases hji : j < i
          · exact he j hji
          · rw [show j = i by omega]; exact h3
        · refine Sa ?_; simp only [rx,Y0,Y1,Y2,Y3,Y4,Y5,Y6,Y7,ren,↓reduceIte,J1,J2,J3,J4,J5,J6,J7,J8,J9,reduceCtorEq,K1,K2,K3,K4,Y8,Y9,X2,X3,X4]
        · simp only; omega
    · simp only [vx,T,K5,J0,K6,K7,↓reduceIte,J1,J2,J3,J4,J5,J6,J7,J8,J9,reduceCtorEq,K1,K2,K3,K4]
      refine vb ?_
      rw [h1, Bool.true_and]
      exact (all_range.2 fun j hj => he j (by omega)).symm
def dM (g : Nat → Int) (k : Nat) : Int := (List.range k).foldl (fun a i => if a < g i then g i else a) 0
theorem dM_step (g : Nat → Int) (k : Nat) : dM g (k + 1) = if dM g k < g k then g k else dM g k := by
  unfold dM; rw [List.range_succ, List.foldl_append]; rfl
theorem Depth_step (op : Int) (s : Bool) (xs : List Int) (t : Bool) (ys : List Int) (nm : ByteArray) (m : Nat) (f : Nat → Nat → C) (hm : m < 2 ^ 40) (g : Nat → Int) (hx : ∀ i, i < m → ExAt f i)
    (hg : ∀ i, i < m → Pr Tryz.prog 89 [.agg [f i 0, f i 1, f i 2, f i 3, f i 4, f i 5, f i 6]] (.one (.int .i64 (g i)))) :
    Pr Tryz.prog 89 [.agg (exL op s xs t ys nm m f)] (.one (.int .i64 (IntKind.i64.wrap (dM g m + 1)))) := by
  unfold exL
  refine pv T_ok mixed Tryz.func89 rfl (by decide) _ (by simp [Tryz.ntmps89]) ⟨[0, 1, 2, 3, 4, 9], []⟩ (by kernel_rfl) _ ?_
  show vc T _ _ (Option.get! Tryz.f89.body) _ _
  simp only [Tryz.f89,Tryz.ntmps89,Option.get!,iS,iM,eO,J1]
  simp only [vx,T,K5,J0,K6,K7,↓reduceIte,J1,J2,J3,J4,J5,J6,J7,J8,J9,reduceCtorEq,K1,K2,K3,K4]
  refine Lk (fun y : {i : Nat // i ≤ m} => ⟨[(1, .one (.ptr 1 0)), (3, .one (.int .i64 (dM g y.1))), (4, .one (.int .i64 y.1))], [(1, ⟨.var [.int .i64 op, .bool s, .ints .u32 xs, .bool t, .ints .u32 ys, .str nm, .rows 7 m f], true⟩)], 2, 22⟩) (fun y => m - y.1) ⟨0, Nat.zero_le _⟩ ?_ (fun ⟨i, hi⟩ => ?_)
  · refine Sa ?_; simp only [rx,Y0,Y1,Y2,Y3,Y4,Y5,Y6,Y7,ren,↓reduceIte,J1,J2,J3,J4,J5,J6,J7,J8,J9,reduceCtorEq,K1,K2,K3,K4,Y8,Y9,X2,X3,X4]
    rfl
  have i1 := wI i (by omega)
  have hs := dM_step g i
  simp only [vx,T,K5,J0,K6,K7,↓reduceIte,J1,J2,J3,J4,J5,J6,J7,J8,J9,reduceCtorEq,K1,K2,K3,K4]
  refine ⟨fun h2 => Lg ?_, fun h2 => Lg ?_⟩
  · have him : i < m := by omega
    obtain ⟨op', s', xs', t', ys', nm', m', g', hxe⟩ := hx i him
    simp only [exL,List.cons.injEq,and_true] at hxe
    obtain ⟨e0, e1, e2, e3, e4, e5, e6⟩ := hxe
    have hgi := hg i him
    rw [e0, e1, e2, e3, e4, e5, e6] at hgi
    simp only [vx,T,K5,J0,K6,K7,↓reduceIte,J1,J2,J3,J4,J5,J6,J7,J8,J9,reduceCtorEq,K1,K2,K3,K4,e0,e1,e2,e3,e4,e5,e6]
    refine ⟨⟨by omega, by omega⟩, Cg hgi ?_⟩
    simp only [vx,T,K5,J0,K6,K7,↓reduceIte,J1,J2,J3,J4,J5,J6,J7,J8,J9,reduceCtorEq,K1,K2,K3,K4,maxC]
    simp only [i1]
    refine Lq ⟨i + 1, by omega⟩ ?_ ?_
    · refine Sa ?_; simp only [rx,Y0,Y1,Y2,Y3,Y4,Y5,Y6,Y7,ren,↓reduceIte,J1,J2,J3,J4,J5,J6,J7,J8,J9,reduceCtorEq,K1,K2,K3,K4,Y8,Y9,X2,X3,X4,hs]
    · simp only; omega
  · have him : i = m := by omega
    subst him
    simp only [vx,T,K5,J0,K6,K7,↓reduceIte,J1,J2,J3,J4,J5,J6,J7,J8,J9,reduceCtorEq,K1,K2,K3,K4]
    exact Ve rfl
theorem Formed_ex {B : Nat} (hB : B ≤ 2 ^ 30) : ∀ (n : Nat) (cs : List C), OkC Tryz.prog B n 44 cs → ∃ b, Pr Tryz.prog 88 [.agg cs] (.one (.bool b)) := by
  intro n
  induction n using Nat.strongRecOn with
  | _ n ih =>
    intro cs h
    obtain ⟨op, s, xs, t, ys, nm, m, f, k, rfl, hx, hy, hn, hm, hk, hf⟩ := okb_expr h
    obtain ⟨S, d, hd⟩ := Decimal_ex s t xs ys hx.1 hy.1 (by omega) (by omega)
    have hsh := shape_spec op s t xs ys nm m f (by omega) hd
    obtain ⟨g, hg⟩ := Classical.axiomOfChoice (r := fun (i : Nat) (b : Bool) => i < m → Pr Tryz.prog 88 [.agg [f i 0, f i 1, f i 2, f i 3, f i 4, f i 5, f i 6]] (.one (.bool b))) (fun i => by
      by_cases hi : i < m
      · obtain ⟨b, hb⟩ := ih k hk _ (hf i hi); exact ⟨b, fun _ => hb⟩
      · exact ⟨true, fun h => absurd h hi⟩)
    exact ⟨_, Formed_step op s xs t ys nm m f (by omega) _ hsh g (fun i hi => ExAt.of (hf i hi)) hg⟩
theorem Depth_ex {B : Nat} (hB : B ≤ 2 ^ 30) : ∀ (n : Nat) (cs : List C), OkC Tryz.prog B n 44 cs → ∃ x, Pr Tryz.prog 89 [.agg cs] (.one (.int .i64 x)) := by
  intro n
  induction n using Nat.strongRecOn with
  | _ n ih =>
    intro cs h
    obtain ⟨op, s, xs, t, ys, nm, m, f, k, rfl, hx, hy, hn, hm, hk, hf⟩ := okb_expr h
    obtain ⟨g, hg⟩ := Classical.axiomOfChoice (r := fun (i : Nat) (x : Int) => i < m → Pr Tryz.prog 89 [.agg [f i 0, f i 1, f i 2, f i 3, f i 4, f i 5, f i 6]] (.one (.int .i64 x))) (fun i => by
      by_cases hi : i < m
      · obtain ⟨b, hb⟩ := ih k hk _ (hf i hi); exact ⟨b, fun _ => hb⟩
      · exact ⟨0, fun h => absurd h hi⟩)
    exact ⟨_, Depth_step op s xs t ys nm m f (by omega) g (fun i hi => ExAt.of (hf i hi)) hg⟩
theorem xValid_step (op : Int) (s : Bool) (xs : List Int) (t : Bool) (ys : List Int) (nm : ByteArray) (m : Nat) (f : Nat → Nat → C) (b : Bool) (x : Int) (h1 : Pr Tryz.prog 88 [.agg (exL op s xs t ys nm m f)] (.one (.bool b)))
    (h2 : Pr Tryz.prog 89 [.agg (exL op s xs t ys nm m f)] (.one (.int .i64 x))) : Pr Tryz.prog 55 [.agg (exL op s xs t ys nm m f)] (.one (.int .i64 (if b = true then (if 40 < x then 3 else 0) else 1))) := by
  unfold exL at h1 h2 ⊢
  refine pv T_ok mixed Tryz.func55 rfl (by decide) _ (by simp [Tryz.ntmps55]) ⟨[0, 1, 2, 5, 8], []⟩ (by kernel_rfl) _ ?_
  show vc T _ _ (Option.get! Tryz.f55.body) _ _
  simp only [Tryz.f55,Tryz.ntmps55,Option.get!,iS,iM,eO,J1]
  simp only [vx,T,K5,J0,K6,K7,↓reduceIte,J1,J2,J3,J4,J5,J6,J7,J8,J9,reduceCtorEq,K1,K2,K3,K4]
  refine Cg h1 ?_
  simp only [vx,T,K5,J0,K6,K7,↓reduceIte,J1,J2,J3,J4,J5,J6,J7,J8,J9,reduceCtorEq,K1,K2,K3,K4]
  refine ⟨fun k1 => Lg ?_, fun k1 => Lg ?_⟩
  · have k1 : b = false := by simpa using k1
    simp only [vx,T,K5,J0,K6,K7,↓reduceIte,J1,J2,J3,J4,J5,J6,J7,J8,J9,reduceCtorEq,K1,K2,K3,K4]
    rw [if_neg (by rw [k1]; simp)]
    exact Ve rfl
  · have k1 : b = true := by simpa using k1
    rw [if_pos k1]
    simp only [vx,T,K5,J0,K6,K7,↓reduceIte,J1,J2,J3,J4,J5,J6,J7,J8,J9,reduceCtorEq,K1,K2,K3,K4]
    refine Cg h2 ?_
    simp only [vx,T,K5,J0,K6,K7,↓reduceIte,J1,J2,J3,J4,J5,J6,J7,J8,J9,reduceCtorEq,K1,K2,K3,K4]
    refine ⟨fun k2 => Lg ?_, fun k2 => Lg ?_⟩
    · rw [if_pos k2]
      simp only [vx,T,K5,J0,K6,K7,↓reduceIte,J1,J2,J3,J4,J5,J6,J7,J8,J9,reduceCtorEq,K1,K2,K3,K4]
      exact Ve rfl
    · rw [if_neg k2]
      simp only [vx,T,K5,J0,K6,K7,↓reduceIte,J1,J2,J3,J4,J5,J6,J7,J8,J9,reduceCtorEq,K1,K2,K3,K4]
      exact Ve rfl
theorem xValid_ex {B : Nat} (hB : B ≤ 2 ^ 30) (n : Nat) (cs : List C) (h : OkC Tryz.prog B n 44 cs) : ∃ e, Pr Tryz.prog 55 [.agg cs] (.one (.int .i64 e)) := by
  obtain ⟨b, h1⟩ := Formed_ex hB n cs h
  obtain ⟨x, h2⟩ := Depth_ex hB n cs h
  obtain ⟨op, s, xs, t, ys, nm, m, f, k, rfl, _⟩ := okb_expr h
  exact ⟨_, xValid_step op s xs t ys nm m f b x h1 h2⟩
open Go Go.Eng
def wiB (l : List Int) (n : Int) : Bool := (List.range l.length).all fun i => decide (0 ≤ l.getD i 0) && decide (l.getD i 0 < n)
theorem within_spec (l : List Int) (n : Int) (hl : l.length < 2 ^ 40) : Pr Tryz.prog 54 [.one (.ints .i64 l), .one (.int .i64 n)] (.one (.bool (wiB l n))) := by
  refine pv T_ok mixed Tryz.func54 rfl (by decide) _ (by simp [Tryz.ntmps54]) ⟨[0, 1, 4, 5, 9, 24], []⟩ (by kernel_rfl) _ ?_
  show vc T _ _ (Option.get! Tryz.f54.body) _ _
  simp only [Tryz.f54,Tryz.ntmps54,Option.get!,iS,iM,eO,J1]
  simp only [vx,T,K5,J0,K6,K7,↓reduceIte,J1,J2,J3,J4,J5,J6,J7,J8,J9,reduceCtorEq,K1,K2,K3,K4]
  refine Lk (fun y : {i : Nat // i ≤ l.length ∧ ∀ j, j < i → (decide (0 ≤ l.getD j 0) && decide (l.getD j 0 < n)) = true} => ⟨[(0, .one (.ints .i64 l)), (1, .one (.int .i64 n)), (5, .one (.int .i64 y.1))], [], 1, 25⟩) (fun y => l.length - y.1) ⟨0, Nat.zero_le _, fun j h => absurd h (Nat.not_lt_zero _)⟩ ?_ (fun ⟨i, hi, he⟩ => ?_)
  · refine Sa ?_; simp only [rx,Y0,Y1,Y2,Y3,Y4,Y5,Y6,Y7,ren,↓reduceIte,J1,J2,J3,J4,J5,J6,J7,J8,J9,reduceCtorEq,K1,K2,K3,K4,Y8,Y9,X2,X3,X4]
  have i1 := wI i (by omega)
  simp only [vx,T,K5,J0,K6,K7,↓reduceIte,J1,J2,J3,J4,J5,J6,J7,J8,J9,reduceCtorEq,K1,K2,K3,K4]
  refine ⟨fun h1 => Lg ?_, fun h1 => Lg ?_⟩
  · have hil : i < l.length := by omega
    simp only [vx,T,K5,J0,K6,K7,↓reduceIte,J1,J2,J3,J4,J5,J6,J7,J8,J9,reduceCtorEq,K1,K2,K3,K4]
    refine ⟨⟨by omega, by omega⟩, ?_⟩
    refine ⟨fun h2 => Lg ?_, fun h2 => Lg ?_⟩
    · simp only [vx,T,K5,J0,K6,K7,↓reduceIte,J1,J2,J3,J4,J5,J6,J7,J8,J9,reduceCtorEq,K1,K2,K3,K4]
      exact vb (all_range_f hil (by rw [decide_eq_false (p := 0 ≤ l.getD i 0) (by omega)]; rfl)).symm
    · simp only [vx,T,K5,J0,K6,K7,↓reduceIte,J1,J2,J3,J4,J5,J6,J7,J8,J9,reduceCtorEq,K1,K2,K3,K4]
      refine ⟨⟨by omega, by omega⟩, ?_⟩
      refine ⟨fun h3 => Lg ?_, fun h3 => Lg ?_⟩
      · simp only [vx,T,K5,J0,K6,K7,↓reduceIte,J1,J2,J3,J4,J5,J6,J7,J8,J9,reduceCtorEq,K1,K2,K3,K4]
        exact vb (all_range_f hil (by rw [decide_eq_false (p := l.getD i 0 < n) (by omega), Bool.and_false])).symm
      · simp only [vx,T,K5,J0,K6,K7,↓reduceIte,J1,J2,J3,J4,J5,J6,J7,J8,J9,reduceCtorEq,K1,K2,K3,K4]
        simp only [i1]
        refine Lq ⟨i + 1, by omega, fun j hj => ?_⟩ ?_ ?_
        · by_cases hji : j < i
          · exact he j hji
          · rw [show j = i by omega, decide_eq_true (p := 0 ≤ l.getD i 0) (by omega), decide_eq_true (p := l.getD i 0 < n) (by omega)]; rfl
        · refine Sa ?_; simp only [rx,Y0,Y1,Y2,Y3,Y4,Y5,Y6,Y7,ren,↓reduceIte,J1,J2,J3,J4,J5,J6,J7,J8,J9,reduceCtorEq,K1,K2,K3,K4,Y8,Y9,X2,X3,X4]
        · simp only; omega
  · simp only [vx,T,K5,J0,K6,K7,↓reduceIte,J1,J2,J3,J4,J5,J6,J7,J8,J9,reduceCtorEq,K1,K2,K3,K4]
    exact vb (all_range.2 fun j hj => he j (by omega)).symm
def diB (l : List Int) : Bool := (List.range l.length).all fun i => (List.range i).all fun k => decide (l.getD i 0 ≠ l.getD k 0)
theorem different_spec (l : List Int) (hl : l.length < 2 ^ 40) : Pr Tryz.prog 56 [.one (.ints .i64 l)] (.one (.bool (diB l))) := by
  refine pv T_ok mixed Tryz.func56 rfl (by decide) _ (by simp [Tryz.ntmps56]) ⟨[0, 2, 3, 4, 8, 13, 24], []⟩ (by kernel_rfl) _ ?_
  show vc T _ _ (Option.get! Tryz.f56.body) _ _
  simp only [Tryz.f56,Tryz.ntmps56,Option.get!,iS,iM,eO,J1]
  simp only [vx,T,K5,J0,K6,K7,↓reduceIte,J1,J2,J3,J4,J5,J6,J7,J8,J9,reduceCtorEq,K1,K2,K3,K4]
  refine Lk (fun y : {i : Nat // i ≤ l.length ∧ ∀ j, j < i → ((List.range j).all fun k => decide (l.getD j 0 ≠ l.getD k 0)) = true} => ⟨[(0, .one (.ints .i64 l)), (3, .one (.int .i64 y.1))], [], 1, 25⟩) (fun y => l.length - y.1) ⟨0, Nat.zero_le _, fun j h => absurd h (Nat.not_lt_zero _)⟩ ?_ (fun ⟨i, hi, he⟩ => ?_)
  · refine Sa ?_; simp only [rx,Y0,Y1,Y2,Y3,Y4,Y5,Y6,Y7,ren,↓reduceIte,J1,J2,J3,J4,J5,J6,J7,J8,J9,reduceCtorEq,K1,K2,K3,K4,Y8,Y9,X2,X3,X4]
  have i1 := wI i (by omega)
  simp only [vx,T,K5,J0,K6,K7,↓reduceIte,J1,J2,J3,J4,J5,J6,J7,J8,J9,reduceCtorEq,K1,K2,K3,K4]
  refine ⟨fun h1 => Lg ?_, fun h1 => Lg ?_⟩
  · have hil : i < l.length := by omega
    simp only [vx,T,K5,J0,K6,K7,↓reduceIte,J1,J2,J3,J4,J5,J6,J7,J8,J9,reduceCtorEq,K1,K2,K3,K4]
    refine Lk (fun y : {k : Nat // k ≤ i ∧ ∀ j, j < k → decide (l.getD i 0 ≠ l.getD j 0) = true} => ⟨[(0, .one (.ints .i64 l)), (3, .one (.int .i64 i)), (4, .one (.int .i64 y.1))], [], 1, 25⟩) (fun y => i - y.1) ⟨0, Nat.zero_le _, fun j h => absurd h (Nat.not_lt_zero _)⟩ ?_ (fun ⟨k, hk, hk2⟩ => ?_)
    · refine Sa ?_; simp only [rx,Y0,Y1,Y2,Y3,Y4,Y5,Y6,Y7,ren,↓reduceIte,J1,J2,J3,J4,J5,J6,J7,J8,J9,reduceCtorEq,K1,K2,K3,K4,Y8,Y9,X2,X3,X4]
    have k1 : IntKind.i64.wrap ((k : Int) + 1) = ((k + 1 : Nat) : Int) := by rw [IntWalk.i64_in _ (by omega)]; omega
    simp only [vx,T,K5,J0,K6,K7,↓reduceIte,J1,J2,J3,J4,J5,J6,J7,J8,J9,reduceCtorEq,K1,K2,K3,K4]
    refine ⟨fun h2 => Lg ?_, fun h2 => Lg ?_⟩
    · have hki : k < i := by omega
      simp only [vx,T,K5,J0,K6,K7,↓reduceIte,J1,J2,J3,J4,J5,J6,J7,J8,J9,reduceCtorEq,K1,K2,K3,K4]
      refine ⟨⟨by omega, by omega⟩, ⟨by omega, by omega⟩, ?_⟩
      refine ⟨fun h3 => Lg ?_, fun h3 => Lg ?_⟩
      · simp only [vx,T,K5,J0,K6,K7,↓reduceIte,J1,J2,J3,J4,J5,J6,J7,J8,J9,reduceCtorEq,K1,K2,K3,K4]
        exact vb (all_range_f hil (all_range_f hki (decide_eq_false (fun e => e h3)))).symm
      · simp only [vx,T,K5,J0,K6,K7,↓reduceIte,J1,J2,J3,J4,J5,J6,J7,J8,J9,reduceCtorEq,K1,K2,K3,K4]
        simp only [k1]
        refine Lq ⟨k + 1, by omega, fun j hj => ?_⟩ ?_ ?_
        · by_cases hji : j < k
          · exact hk2 j hji
          · rw [show j = k by omega]; exact decide_eq_true h3
        · refine Sa ?_; simp only [rx,Y0,Y1,Y2,Y3,Y4,Y5,Y6,Y7,ren,↓reduceIte,J1,J2,J3,J4,J5,J6,J7,J8,J9,reduceCtorEq,K1,K2,K3,K4,Y8,Y9,X2,X3,X4]
        · simp only; omega
    · have hki : k = i := by omega
      subst hki
      simp only [vx,T,K5,J0,K6,K7,↓reduceIte,J1,J2,J3,J4,J5,J6,J7,J8,J9,reduceCtorEq,K1,K2,K3,K4]
      simp only [i1]
      refine Lq ⟨k + 1, by omega, fun j hj => ?_⟩ ?_ ?_
      · by_cases hji : j < k
        · exact he j hji
        · rw [show j = k by omega]; exact all_range.2 fun a ha => hk2 a ha
      · refine Sa ?_; simp only [rx,Y0,Y1,Y2,Y3,Y4,Y5,Y6,Y7,ren,↓reduceIte,J1,J2,J3,J4,J5,J6,J7,J8,J9,reduceCtorEq,K1,K2,K3,K4,Y8,Y9,X2,X3,X4]
      · simp only; omega
  · simp only [vx,T,K5,J0,K6,K7,↓reduceIte,J1,J2,J3,J4,J5,J6,J7,J8,J9,reduceCtorEq,K1,K2,K3,K4]
    exact vb (all_range.2 fun j hj => he j (by omega)).symm
theorem Few_spec (s t : Bool) (xs ys : List Int) (n : Int) (hx : InR xs) (hy : InR ys) (hxl : xs.length < 2 ^ 36) (hyl : ys.length < 2 ^ 36) :
    Pr Tryz.prog 14 [.agg [.bool s, .ints .u32 xs, .bool t, .ints .u32 ys], .one (.int .i64 n)] (.one (.bool (decide ((xs.length : Int) ≤ n) && (decide ((ys.length : Int) ≤ n) && okQ s xs t ys)))) := by
  have hv := rQValid_spec s t xs ys hx hy hxl hyl
  refine pv T_ok mixed Tryz.func14 rfl (by decide) _ (by simp [Tryz.ntmps14]) ⟨[0, 1, 2, 4], []⟩ (by kernel_rfl) _ ?_
  show vc T _ _ (Option.get! Tryz.f14.body) _ _
  simp only [Tryz.f14,Tryz.ntmps14,Option.get!,iS,iM,eO,J1]
  simp only [vx,T,K5,J0,K6,K7,↓reduceIte,J1,J2,J3,J4,J5,J6,J7,J8,J9,reduceCtorEq,K1,K2,K3,K4]
  refine ⟨fun h1 => Lg ?_, fun h1 => Lg ?_⟩
  · simp only [vx,T,K5,J0,K6,K7,↓reduceIte,J1,J2,J3,J4,J5,J6,J7,J8,J9,reduceCtorEq,K1,K2,K3,K4]
    refine ⟨fun h2 => Lg ?_, fun h2 => Lg ?_⟩
    · simp only [vx,T,K5,J0,K6,K7,↓reduceIte,J1,J2,J3,J4,J5,J6,J7,J8,J9,reduceCtorEq,K1,K2,K3,K4]
      refine Cg hv ?_
      simp only [vx,T,K5,J0,K6,K7,↓reduceIte,J1,J2,J3,J4,J5,J6,J7,J8,J9,reduceCtorEq,K1,K2,K3,K4]
      exact vb (by rw [decide_eq_true h1, decide_eq_true h2]; rfl)
    · simp only [vx,T,K5,J0,K6,K7,↓reduceIte,J1,J2,J3,J4,J5,J6,J7,J8,J9,reduceCtorEq,K1,K2,K3,K4]
      exact vb (by rw [decide_eq_true h1, decide_eq_false h2]; rfl)
  · simp only [vx,T,K5,J0,K6,K7,↓reduceIte,J1,J2,J3,J4,J5,J6,J7,J8,J9,reduceCtorEq,K1,K2,K3,K4]
    exact vb (by rw [decide_eq_false h1]; rfl)
open Go Go.Eng
def rowT : List (List C) := [
  [.str ⟨#[102, 105, 120]⟩, .int .i64 1, .int .i64 0, .int .i64 2, .int .i64 1, .int .i64 2, .bool false],
  [.str ⟨#[100, 105, 115, 116, 97, 110, 99, 101]⟩, .int .i64 2, .int .i64 0, .int .i64 1, .int .i64 2, .int .i64 1, .bool false],
  [.str ⟨#[105, 110, 99, 105, 100, 101, 110, 116]⟩, .int .i64 3, .int .i64 0, .int .i64 0, .int .i64 0, .int .i64 1, .bool false],
  [.str ⟨#[111, 102, 102, 115, 101, 116]⟩, .int .i64 3, .int .i64 0, .int .i64 1, .int .i64 2, .int .i64 1, .bool true],
  [.str ⟨#[97, 110, 103, 108, 101]⟩, .int .i64 4, .int .i64 0, .int .i64 1, .int .i64 3, .int .i64 1, .bool false],
  [.str ⟨#[112, 97, 114, 97, 108, 108, 101, 108]⟩, .int .i64 4, .int .i64 0, .int .i64 0, .int .i64 0, .int .i64 1, .bool false],
  [.str ⟨#[112, 101, 114, 112, 101, 110, 100, 105, 99, 117, 108, 97, 114]⟩, .int .i64 4, .int .i64 0, .int .i64 0, .int .i64 0, .int .i64 1, .bool false],
  [.str ⟨#[101, 113, 117, 97, 108]⟩, .int .i64 4, .int .i64 0, .int .i64 0, .int .i64 0, .int .i64 1, .bool false],
  [.str ⟨#[109, 105, 100, 112, 111, 105, 110, 116]⟩, .int .i64 3, .int .i64 0, .int .i64 0, .int .i64 0, .int .i64 2, .bool false],
  [.str ⟨#[115, 121, 109, 109, 101, 116, 114, 105, 99]⟩, .int .i64 4, .int .i64 0, .int .i64 0, .int .i64 0, .int .i64 2, .bool false],
  [.str ⟨#[104, 111, 114, 105, 122, 111, 110, 116, 97, 108]⟩, .int .i64 2, .int .i64 0, .int .i64 0, .int .i64 0, .int .i64 1, .bool false],
  [.str ⟨#[118, 101, 114, 116, 105, 99, 97, 108]⟩, .int .i64 2, .int .i64 0, .int .i64 0, .int .i64 0, .int .i64 1, .bool false],
  [.str ⟨#[111, 110, 99, 105, 114, 99, 108, 101]⟩, .int .i64 1, .int .i64 1, .int .i64 0, .int .i64 0, .int .i64 1, .bool false],
  [.str ⟨#[114, 97, 100, 105, 117, 115]⟩, .int .i64 0, .int .i64 1, .int .i64 1, .int .i64 2, .int .i64 1, .bool false],
  [.str ⟨#[115, 97, 109, 101, 114, 97, 100, 105, 117, 115]⟩, .int .i64 0, .int .i64 2, .int .i64 0, .int .i64 0, .int .i64 1, .bool false],
  [.str ⟨#[116, 97, 110, 103, 101, 110, 116, 108, 105, 110, 101]⟩, .int .i64 2, .int .i64 1, .int .i64 0, .int .i64 0, .int .i64 1, .bool true],
  [.str ⟨#[116, 97, 110, 103, 101, 110, 116, 99, 105, 114, 99, 108, 101]⟩, .int .i64 0, .int .i64 2, .int .i64 0, .int .i64 0, .int .i64 1, .bool true]]
theorem flat_getD {k : Nat} : ∀ {l : List (List C)}, (∀ r ∈ l, r.length = k) → ∀ {i j : Nat}, i < l.length → j < k → l.flatten.getD (i * k + j) .any = (l.getD i []).getD j .any
  | [], _, i, j, hi, _ => absurd hi (Nat.not_lt_zero _)
  | r :: l, h, 0, j, _, hj => by
    rw [Nat.zero_mul, Nat.zero_add, List.flatten_cons, X7, List.getElem?_append_left (by rw [h r (by simp)]; exact hj), ← X7]; rfl
  | r :: l, h, i + 1, j, hi, hj => by
    have hr := h r (by simp)
    rw [List.flatten_cons, X7, List.getElem?_append_right (by rw [hr, Nat.add_mul]; omega), ← X7, hr, show (i + 1) * k + j - k = i * k + j by rw [Nat.add_mul]; omega]
    rw [flat_getD (fun r' hr' => h r' (by simp [hr'])) (by simpa using hi) hj]; rfl
theorem rowT_len : ∀ r ∈ rowT, r.length = 7 := by
  intro r hr
  simp only [rowT,List.mem_cons,List.not_mem_nil,or_false] at hr
  rcases hr with rfl | rfl | rfl | rfl | rfl | rfl | rfl | rfl | rfl | rfl | rfl | rfl | rfl | rfl | rfl | rfl | rfl <;> rfl
def RowsC : C := .rows 7 17 (fun i j => (rowT.getD i []).getD j .any)
theorem Rows_spec : Pr Tryz.prog 87 [] (.one RowsC) := by
  refine pv T_ok mixed Tryz.func87 rfl (by decide) _ (by simp [Tryz.ntmps87]) ⟨[0], []⟩ (by kernel_rfl) _ ?_
  show vc T _ _ (Option.get! Tryz.f87.body) _ _
  simp only [Tryz.f87,Tryz.ntmps87,Option.get!,iS,iM,eO,J1]
  simp only [vx,T,K5,J0,K6,K7,↓reduceIte,J1,J2,J3,J4,J5,J6,J7,J8,J9,reduceCtorEq,K1,K2,K3,K4]
  refine Va ⟨rfl, rfl, fun i j hi hj => ?_⟩
  refine Eq.trans ?_ (flat_getD rowT_len (i := i) (j := j) hi hj)
  rfl
def rowF (s : ByteArray) (p c n v e : Int) (b : Bool) : List C := [.str s, .int .i64 p, .int .i64 c, .int .i64 n, .int .i64 v, .int .i64 e, .bool b]
theorem kOf_spec (k : Nat) (h1 : 1 ≤ k) (h2 : k ≤ 17) {s : ByteArray} {p c n v e : Int} {b : Bool} (h : rowT.getD (k - 1) [] = rowF s p c n v e b) : Pr Tryz.prog 53 [.one (.int .i64 k)] (.tup [.agg (rowF s p c n v e b), .one (.bool true)]) := by
  unfold rowF at h ⊢
  have w : IntKind.i64.wrap ((k : Int) - 1) = ((k - 1 : Nat) : Int) := by rw [IntWalk.i64_in _ (by omega)]; omega
  refine pv T_ok mixed Tryz.func53 rfl (by decide) _ (by simp [Tryz.ntmps53]) ⟨[0, 2, 3, 11], []⟩ (by kernel_rfl) _ ?_
  show vc T _ _ (Option.get! Tryz.f53.body) _ _
  simp only [Tryz.f53,Tryz.ntmps53,Option.get!,iS,iM,eO,J1]
  simp only [vx,T,K5,J0,K6,K7,↓reduceIte,J1,J2,J3,J4,J5,J6,J7,J8,J9,reduceCtorEq,K1,K2,K3,K4]
  refine ⟨fun h => absurd h (by omega), fun _ => Lg ?_⟩
  simp only [vx,T,K5,J0,K6,K7,↓reduceIte,J1,J2,J3,J4,J5,J6,J7,J8,J9,reduceCtorEq,K1,K2,K3,K4]
  refine Cg Rows_spec ?_
  simp only [vx,T,K5,J0,K6,K7,↓reduceIte,J1,J2,J3,J4,J5,J6,J7,J8,J9,reduceCtorEq,K1,K2,K3,K4,RowsC]
  refine ⟨fun h => absurd h (by omega), fun _ => Lg ?_⟩
  simp only [vx,T,K5,J0,K6,K7,↓reduceIte,J1,J2,J3,J4,J5,J6,J7,J8,J9,reduceCtorEq,K1,K2,K3,K4,RowsC]
  refine Cg Rows_spec ?_
  simp only [vx,T,K5,J0,K6,K7,↓reduceIte,J1,J2,J3,J4,J5,J6,J7,J8,J9,reduceCtorEq,K1,K2,K3,K4,RowsC,w,h,X0,X1]
  refine ⟨⟨by omega, by omega⟩, ?_⟩
  exact Ve rfl
theorem kOf_out (k : Int) (h : k < 1 ∨ 17 < k) : Pr Tryz.prog 53 [.one (.int .i64 k)] (.tup [.agg (rowF ⟨#[]⟩ 0 0 0 0 0 false), .one (.bool false)]) := by
  unfold rowF
  refine pv T_ok mixed Tryz.func53 rfl (by decide) _ (by simp [Tryz.ntmps53]) ⟨[0, 2, 3, 11], []⟩ (by kernel_rfl) _ ?_
  show vc T _ _ (Option.get! Tryz.f53.body) _ _
  simp only [Tryz.f53,Tryz.ntmps53,Option.get!,iS,iM,eO,J1]
  simp only [vx,T,K5,J0,K6,K7,↓reduceIte,J1,J2,J3,J4,J5,J6,J7,J8,J9,reduceCtorEq,K1,K2,K3,K4]
  refine ⟨fun h1 => Lg ?_, fun h1 => Lg ?_⟩
  · simp only [vx,T,K5,J0,K6,K7,↓reduceIte,J1,J2,J3,J4,J5,J6,J7,J8,J9,reduceCtorEq,K1,K2,K3,K4]
    exact Ve rfl
  · have h2 : 17 < k := by omega
    simp only [vx,T,K5,J0,K6,K7,↓reduceIte,J1,J2,J3,J4,J5,J6,J7,J8,J9,reduceCtorEq,K1,K2,K3,K4]
    refine Cg Rows_spec ?_
    simp only [vx,T,K5,J0,K6,K7,↓reduceIte,J1,J2,J3,J4,J5,J6,J7,J8,J9,reduceCtorEq,K1,K2,K3,K4,RowsC]
    refine ⟨fun _ => Lg ?_, fun h => absurd h2 h⟩
    simp only [vx,T,K5,J0,K6,K7,↓reduceIte,J1,J2,J3,J4,J5,J6,J7,J8,J9,reduceCtorEq,K1,K2,K3,K4]
    exact Ve rfl
open Go Go.Eng
def sideB (b : Bool) (s : Int) : Bool := if b = true then (decide (s = 1) || decide (s = -1)) else decide (s = 0)
def finB (k : Nat) (pts cir : List Int) : Bool := if 5 ≤ k ∧ k ≤ 8 then
    (decide (pts.getD 0 0 ≠ pts.getD 1 0) && (decide (pts.getD 2 0 ≠ pts.getD 3 0) && !((decide (pts.getD 0 0 = pts.getD 2 0) && decide (pts.getD 1 0 = pts.getD 3 0)) || (decide (pts.getD 0 0 = pts.getD 3 0) && decide (pts.getD 1 0 = pts.getD 2 0)))))
  else diB pts && diB cir
def cvB (k : Nat) (p c n : Int) (b : Bool) (pts cir : List Int) (m : Nat) (np nc : Int) (e : Nat → Int) (side : Int) : Bool :=
  decide ((pts.length : Int) = p) && (decide ((cir.length : Int) = c) && (decide ((m : Int) = n) && (wiB pts np && (wiB cir nc && ((List.range m).all (fun i => decide (e i = 0)) && (sideB b side && finB k pts cir))))))
theorem cValid_spec (k : Nat) (h1 : 1 ≤ k) (h2 : k ≤ 17) {s : ByteArray} {p c n v e : Int} {b : Bool} (h : rowT.getD (k - 1) [] = rowF s p c n v e b) (hp4 : 5 ≤ k ∧ k ≤ 8 → p = 4 ∧ b = false) (pts cir : List Int) (hpl : pts.length < 2 ^ 40) (hcl : cir.length < 2 ^ 40) (m : Nat) (hm : m < 2 ^ 40) (f : Nat → Nat → C) (side np nc : Int)
    (hx : ∀ i, i < m → ExAt f i) (er : Nat → Int) (he : ∀ i, i < m → Pr Tryz.prog 55 [.agg [f i 0, f i 1, f i 2, f i 3, f i 4, f i 5, f i 6]] (.one (.int .i64 (er i)))) :
    Pr Tryz.prog 15 [.agg [.int .i64 k, .ints .i64 pts, .ints .i64 cir, .rows 7 m f, .int .i64 side], .one (.int .i64 np), .one (.int .i64 nc)] (.one (.bool (cvB k p c n b pts cir m np nc er side))) := by
  have ko := kOf_spec k h1 h2 h
  unfold rowF at ko
  have w1 := within_spec pts np hpl
  have w2 := within_spec cir nc hcl
  have d1 := different_spec pts hpl
  have d2 := different_spec cir hcl
  refine pv T_ok mixed Tryz.func15 rfl (by decide) _ (by simp [Tryz.ntmps15]) ⟨[0, 1, 2, 3, 6, 7, 8, 9, 10, 11, 57, 62, 71, 93, 97, 98], []⟩ (by kernel_rfl) _ ?_
  show vc T _ _ (Option.get! Tryz.f15.body) _ _
  simp only [Tryz.f15,Tryz.ntmps15,Option.get!,iS,iM,eO,J1]
  simp only [vx,T,K5,J0,K6,K7,↓reduceIte,J1,J2,J3,J4,J5,J6,J7,J8,J9,reduceCtorEq,K1,K2,K3,K4]
  refine Cg ko ?_
  simp only [vx,T,K5,J0,K6,K7,↓reduceIte,J1,J2,J3,J4,J5,J6,J7,J8,J9,reduceCtorEq,K1,K2,K3,K4]
  refine ⟨fun g1 => Lg ?_, fun g1 => Lg ?_⟩
  · simp only [vx,T,K5,J0,K6,K7,↓reduceIte,J1,J2,J3,J4,J5,J6,J7,J8,J9,reduceCtorEq,K1,K2,K3,K4]
    exact vb (by unfold cvB; rw [decide_eq_false g1]; rfl)
  · simp only [vx,T,K5,J0,K6,K7,↓reduceIte,J1,J2,J3,J4,J5,J6,J7,J8,J9,reduceCtorEq,K1,K2,K3,K4]
    refine ⟨fun g2 => Lg ?_, fun g2 => Lg ?_⟩
    · simp only [vx,T,K5,J0,K6,K7,↓reduceIte,J1,J2,J3,J4,J5,J6,J7,J8,J9,reduceCtorEq,K1,K2,K3,K4]
      exact vb (by unfold cvB; rw [decide_eq_false g2, Bool.false_and, Bool.and_false])
    · simp only [vx,T,K5,J0,K6,K7,↓reduceIte,J1,J2,J3,J4,J5,J6,J7,J8,J9,reduceCtorEq,K1,K2,K3,K4]
      refine ⟨fun g3 => Lg ?_, fun g3 => Lg ?_⟩
      · simp only [vx,T,K5,J0,K6,K7,↓reduceIte,J1,J2,J3,J4,J5,J6,J7,J8,J9,reduceCtorEq,K1,K2,K3,K4]
        exact vb (by unfold cvB; rw [decide_eq_false g3, Bool.false_and, Bool.and_false, Bool.and_false])
      · simp only [vx,T,K5,J0,K6,K7,↓reduceIte,J1,J2,J3,J4,J5,J6,J7,J8,J9,reduceCtorEq,K1,K2,K3,K4]
        refine Cg w1 ?_
        simp only [vx,T,K5,J0,K6,K7,↓reduceIte,J1,J2,J3,J4,J5,J6,J7,J8,J9,reduceCtorEq,K1,K2,K3,K4]
        refine ⟨fun g4 => Lg ?_, fun g4 => Lg ?_⟩
        · have g4 : wiB pts np = false := by simpa using g4
          simp only [vx,T,K5,J0,K6,K7,↓reduceIte,J1,J2,J3,J4,J5,J6,J7,J8,J9,reduceCtorEq,K1,K2,K3,K4]
          exact vb (by unfold cvB; rw [g4, Bool.false_and, Bool.and_false, Bool.and_false, Bool.and_false])
        · have g4 : wiB pts np = true := by simpa using g4
          simp only [vx,T,K5,J0,K6,K7,↓reduceIte,J1,J2,J3,J4,J5,J6,J7,J8,J9,reduceCtorEq,K1,K2,K3,K4]
          refine Cg w2 ?_
          simp only [vx,T,K5,J0,K6,K7,↓reduceIte,J1,J2,J3,J4,J5,J6,J7,J8,J9,reduceCtorEq,K1,K2,K3,K4]
          refine ⟨fun g5 => Lg ?_, fun g5 => Lg ?_⟩
          · have g5 : wiB cir nc = false := by simpa using g5
            simp only [vx,T,K5,J0,K6,K7,↓reduceIte,J1,J2,J3,J4,J5,J6,J7,J8,J9,reduceCtorEq,K1,K2,K3,K4]
            exact vb (by unfold cvB; rw [g5, Bool.false_and, Bool.and_false, Bool.and_false, Bool.and_false, Bool.and_false])
          · have g5 : wiB cir nc = true := by simpa using g5
            have ecv : cvB k p c n b pts cir m np nc er side = ((List.range m).all (fun i => decide (er i = 0)) && (sideB b side && finB k pts cir)) := by
              unfold cvB
              rw [decide_eq_true g1, decide_eq_true g2, decide_eq_true g3, g4, g5, Bool.true_and, Bool.true_and, Bool.true_and, Bool.true_and, Bool.true_and]
            rw [ecv]
            simp only [vx,T,K5,J0,K6,K7,↓reduceIte,J1,J2,J3,J4,J5,J6,J7,J8,J9,reduceCtorEq,K1,K2,K3,K4]
            refine Lk (fun y : {i : Nat // i ≤ m ∧ ∀ j, j < i → er j = 0} => ⟨[(3, .one (.ptr 1 0)), (7, .one (.ptr 9 0)), (9, .one (.int .i64 y.1))], [(1, ⟨.var [.int .i64 k, .ints .i64 pts, .ints .i64 cir, .rows 7 m f, .int .i64 side], true⟩), (9, ⟨.var [.str s, .int .i64 p, .int .i64 c, .int .i64 n, .int .i64 v, .int .i64 e, .bool b], true⟩)], 52, 164⟩) (fun y => m - y.1) ⟨0, Nat.zero_le _, fun j h => absurd h (Nat.not_lt_zero _)⟩ ?_ (fun ⟨i, hi, hz⟩ => ?_)
            · refine Sa ?_; simp only [rx,Y0,Y1,Y2,Y3,Y4,Y5,Y6,Y7,ren,↓reduceIte,J1,J2,J3,J4,J5,J6,J7,J8,J9,reduceCtorEq,K1,K2,K3,K4,Y8,Y9,X2,X3,X4]
            have i1 := wI i (by omega)
            simp only [vx,T,K5,J0,K6,K7,↓reduceIte,J1,J2,J3,J4,J5,J6,J7,J8,J9,reduceCtorEq,K1,K2,K3,K4]
            refine ⟨fun l1 => Lg ?_, fun l1 => Lg ?_⟩
            · have him : i < m := by omega
              obtain ⟨op', s', xs', t', ys', nm', m', g', hxe⟩ := hx i him
              simp only [exL,List.cons.injEq,and_true] at hxe
              obtain ⟨e0, e1, e2, e3, e4, e5, e6⟩ := hxe
              have hgi := he i him
              rw [e0, e1, e2, e3, e4, e5, e6] at hgi
              simp only [vx,T,K5,J0,K6,K7,↓reduceIte,J1,J2,J3,J4,J5,J6,J7,J8,J9,reduceCtorEq,K1,K2,K3,K4,e0,e1,e2,e3,e4,e5,e6]
              refine ⟨⟨by omega, by omega⟩, Cg hgi ?_⟩
              simp only [vx,T,K5,J0,K6,K7,↓reduceIte,J1,J2,J3,J4,J5,J6,J7,J8,J9,reduceCtorEq,K1,K2,K3,K4]
              refine ⟨fun l2 => Lg ?_, fun l2 => Lg ?_⟩
              · simp only [vx,T,K5,J0,K6,K7,↓reduceIte,J1,J2,J3,J4,J5,J6,J7,J8,J9,reduceCtorEq,K1,K2,K3,K4]
                exact vb (by rw [all_range_f him (decide_eq_false l2), Bool.false_and])
              · simp only [vx,T,K5,J0,K6,K7,↓reduceIte,J1,J2,J3,J4,J5,J6,J7,J8,J9,reduceCtorEq,K1,K2,K3,K4]
                simp only [i1]
                refine Lq ⟨i + 1, by omega, fun j hj => ?_⟩ ?_ ?_
                · by_cases hji : j < i
                  · exact hz j hji
                  · rw [show j = i by omega]; exact l2
                · refine Sa ?_; simp only [rx,Y0,Y1,Y2,Y3,Y4,Y5,Y6,Y7,ren,↓reduceIte,J1,J2,J3,J4,J5,J6,J7,J8,J9,reduceCtorEq,K1,K2,K3,K4,Y8,Y9,X2,X3,X4]
                · simp only; omega
            · have eall : ((List.range m).all fun i => decide (er i = 0)) = true := all_range.2 fun j hj => decide_eq_true (hz j (by omega))
              rw [eall, Bool.true_and]
              simp only [vx,T,K5,J0,K6,K7,↓reduceIte,J1,J2,J3,J4,J5,J6,J7,J8,J9,reduceCtorEq,K1,K2,K3,K4]
              cases b with
              | true =>
                refine ⟨fun _ => Lg ?_, fun h => absurd h (by decide)⟩
                simp only [vx,T,K5,J0,K6,K7,↓reduceIte,J1,J2,J3,J4,J5,J6,J7,J8,J9,reduceCtorEq,K1,K2,K3,K4]
                refine ⟨fun sd => Lg ?_, fun sd => Lg ?_⟩
                · simp only [vx,T,K5,J0,K6,K7,↓reduceIte,J1,J2,J3,J4,J5,J6,J7,J8,J9,reduceCtorEq,K1,K2,K3,K4]
                  refine ⟨fun se => Lg ?_, fun se => Lg ?_⟩
                  · simp only [vx,T,K5,J0,K6,K7,↓reduceIte,J1,J2,J3,J4,J5,J6,J7,J8,J9,reduceCtorEq,K1,K2,K3,K4]
                    exact vb (by unfold sideB; simp [sd, se])
                  · simp only [vx,T,K5,J0,K6,K7,↓reduceIte,J1,J2,J3,J4,J5,J6,J7,J8,J9,reduceCtorEq,K1,K2,K3,K4]
                    have hsb : sideB true side = true := by unfold sideB; first | (simp [sd]; done) | (simp [sd, se]; done)
                    rw [hsb, Bool.true_and]
                    try simp only [vx,T,K5,J0,K6,K7,↓reduceIte,J1,J2,J3,J4,J5,J6,J7,J8,J9,reduceCtorEq,K1,K2,K3,K4]
                    have h58 : ¬(5 ≤ k ∧ k ≤ 8) := fun h => absurd (hp4 h).2 (by decide)
                    refine ⟨fun a5 => (h58 ⟨by omega, by omega⟩).elim, fun a5 => Lg ?_⟩
                    simp only [vx,T,K5,J0,K6,K7,↓reduceIte,J1,J2,J3,J4,J5,J6,J7,J8,J9,reduceCtorEq,K1,K2,K3,K4]
                    refine ⟨fun a6 => (h58 ⟨by omega, by omega⟩).elim, fun a6 => Lg ?_⟩
                    simp only [vx,T,K5,J0,K6,K7,↓reduceIte,J1,J2,J3,J4,J5,J6,J7,J8,J9,reduceCtorEq,K1,K2,K3,K4]
                    refine ⟨fun a7 => (h58 ⟨by omega, by omega⟩).elim, fun a7 => Lg ?_⟩
                    simp only [vx,T,K5,J0,K6,K7,↓reduceIte,J1,J2,J3,J4,J5,J6,J7,J8,J9,reduceCtorEq,K1,K2,K3,K4]
                    refine ⟨fun a8 => (h58 ⟨by omega, by omega⟩).elim, fun a8 => Lg ?_⟩
                    simp only [vx,T,K5,J0,K6,K7,↓reduceIte,J1,J2,J3,J4,J5,J6,J7,J8,J9,reduceCtorEq,K1,K2,K3,K4]
                    obtain ⟨x1, hx1⟩ : ∃ x, x = diB pts := ⟨_, rfl⟩
                    obtain ⟨x2, hx2⟩ : ∃ x, x = diB cir := ⟨_, rfl⟩
                    rw [← hx1] at d1
                    rw [← hx2] at d2
                    have ef : finB k pts cir = (x1 && x2) := by unfold finB; rw [if_neg h58, hx1, hx2]
                    rw [ef]
                    refine Cg d1 ?_
                    cases x1 with
                    | false =>
                      simp only [vx,T,K5,J0,K6,K7,↓reduceIte,J1,J2,J3,J4,J5,J6,J7,J8,J9,reduceCtorEq,K1,K2,K3,K4]
                      exact Ve rfl
                    | true =>
                      simp only [vx,T,K5,J0,K6,K7,↓reduceIte,J1,J2,J3,J4,J5,J6,J7,J8,J9,reduceCtorEq,K1,K2,K3,K4]
                      refine Cg d2 ?_
                      simp only [vx,T,K5,J0,K6,K7,↓reduceIte,J1,J2,J3,J4,J5,J6,J7,J8,J9,reduceCtorEq,K1,K2,K3,K4]
                      exact Ve rfl
                · simp only [vx,T,K5,J0,K6,K7,↓reduceIte,J1,J2,J3,J4,J5,J6,J7,J8,J9,reduceCtorEq,K1,K2,K3,K4]
                  have hsb : sideB true side = true := by unfold sideB; first | (simp [sd]; done) | (simp [sd, se]; done)
                  rw [hsb, Bool.true_and]
                  try simp only [vx,T,K5,J0,K6,K7,↓reduceIte,J1,J2,J3,J4,J5,J6,J7,J8,J9,reduceCtorEq,K1,K2,K3,K4]
                  have h58 : ¬(5 ≤ k ∧ k ≤ 8) := fun h => absurd (hp4 h).2 (by decide)
                  refine ⟨fun a5 => (h58 ⟨by omega, by omega⟩).elim, fun a5 => Lg ?_⟩
                  simp only [vx,T,K5,J0,K6,K7,↓reduceIte,J1,J2,J3,J4,J5,J6,J7,J8,J9,reduceCtorEq,K1,K2,K3,K4]
                  refine ⟨fun a6 => (h58 ⟨by omega, by omega⟩).elim, fun a6 => Lg ?_⟩
                  simp only [vx,T,K5,J0,K6,K7,↓reduceIte,J1,J2,J3,J4,J5,J6,J7,J8,J9,reduceCtorEq,K1,K2,K3,K4]
                  refine ⟨fun a7 => (h58 ⟨by omega, by omega⟩).elim, fun a7 => Lg ?_⟩
                  simp only [vx,T,K5,J0,K6,K7,↓reduceIte,J1,J2,J3,J4,J5,J6,J7,J8,J9,reduceCtorEq,K1,K2,K3,K4]
                  refine ⟨fun a8 => (h58 ⟨by omega, by omega⟩).elim, fun a8 => Lg ?_⟩
                  simp only [vx,T,K5,J0,K6,K7,↓reduceIte,J1,J2,J3,J4,J5,J6,J7,J8,J9,reduceCtorEq,K1,K2,K3,K4]
                  obtain ⟨x1, hx1⟩ : ∃ x, x = diB pts := ⟨_, rfl⟩
                  obtain ⟨x2, hx2⟩ : ∃ x, x = diB cir := ⟨_, rfl⟩
                  rw [← hx1] at d1
                  rw [← hx2] at d2
                  have ef : finB k pts cir = (x1 && x2) := by unfold finB; rw [if_neg h58, hx1, hx2]
                  rw [ef]
                  refine Cg d1 ?_
                  cases x1 with
                  | false =>
                    simp only [vx,T,K5,J0,K6,K7,↓reduceIte,J1,J2,J3,J4,J5,J6,J7,J8,J9,reduceCtorEq,K1,K2,K3,K4]
                    exact Ve rfl
                  | true =>
                    simp only [vx,T,K5,J0,K6,K7,↓reduceIte,J1,J2,J3,J4,J5,J6,J7,J8,J9,reduceCtorEq,K1,K2,K3,K4]
                    refine Cg d2 ?_
                    simp only [vx,T,K5,J0,K6,K7,↓reduceIte,J1,J2,J3,J4,J5,J6,J7,J8,J9,reduceCtorEq,K1,K2,K3,K4]
                    exact Ve rfl
              | false =>
                refine ⟨fun h => absurd h (by decide), fun _ => Lg ?_⟩
                simp only [vx,T,K5,J0,K6,K7,↓reduceIte,J1,J2,J3,J4,J5,J6,J7,J8,J9,reduceCtorEq,K1,K2,K3,K4]
                refine ⟨fun sd => Lg ?_, fun sd => Lg ?_⟩
                · simp only [vx,T,K5,J0,K6,K7,↓reduceIte,J1,J2,J3,J4,J5,J6,J7,J8,J9,reduceCtorEq,K1,K2,K3,K4]
                  exact vb (by unfold sideB; simp [sd])
                · have hsb : sideB false side = true := by unfold sideB; first | (simp [sd]; done) | (simp [sd, se]; done)
                  rw [hsb, Bool.true_and]
                  try simp only [vx,T,K5,J0,K6,K7,↓reduceIte,J1,J2,J3,J4,J5,J6,J7,J8,J9,reduceCtorEq,K1,K2,K3,K4]
                  refine ⟨fun a5 => Lg ?_, fun a5 => Lg ?_⟩
                  · simp only [vx,T,K5,J0,K6,K7,↓reduceIte,J1,J2,J3,J4,J5,J6,J7,J8,J9,reduceCtorEq,K1,K2,K3,K4]
                    refine ⟨fun _ => Lg ?_, fun h => absurd a5 h⟩
                    have h58 : 5 ≤ k ∧ k ≤ 8 := ⟨by omega, by omega⟩
                    have hp := (hp4 h58).1
                    have ef : finB k pts cir = (decide (pts.getD 0 0 ≠ pts.getD 1 0) && (decide (pts.getD 2 0 ≠ pts.getD 3 0) && !((decide (pts.getD 0 0 = pts.getD 2 0) && decide (pts.getD 1 0 = pts.getD 3 0)) || (decide (pts.getD 0 0 = pts.getD 3 0) && decide (pts.getD 1 0 = pts.getD 2 0))))) := by unfold finB; rw [if_pos h58]
                    obtain ⟨q0, ha0⟩ : ∃ a, a = pts.getD 0 0 := ⟨_, rfl⟩
                    obtain ⟨q1, ha1⟩ : ∃ a, a = pts.getD 1 0 := ⟨_, rfl⟩
                    obtain ⟨q2, ha2⟩ : ∃ a, a = pts.getD 2 0 := ⟨_, rfl⟩
                    obtain ⟨q3, ha3⟩ : ∃ a, a = pts.getD 3 0 := ⟨_, rfl⟩
                    rw [ef, ← ha0, ← ha1, ← ha2, ← ha3]
                    clear ef h ko w1 w2 d1 d2 hx he ecv eall hz
                    repeat' (first | (exfalso; omega) | with_reducible exact Ve rfl | with_reducible refine And.intro (by omega) ?_ | with_reducible refine ⟨fun _ => Lg ?_, fun _ => Lg ?_⟩ | with_reducible refine Lg ?_ | (with_reducible refine fun _ => Lg ?_) | simp only [vx,T,K5,J0,K6,K7,↓reduceIte,J1,J2,J3,J4,J5,J6,J7,J8,J9,reduceCtorEq,K1,K2,K3,K4,← ha0,← ha1,← ha2,← ha3])
                    all_goals refine vb ?_
                    all_goals clear ha0 ha1 ha2 ha3 hpl hcl hm g1 g2 g3 i1
                    all_goals grind
                  · simp only [vx,T,K5,J0,K6,K7,↓reduceIte,J1,J2,J3,J4,J5,J6,J7,J8,J9,reduceCtorEq,K1,K2,K3,K4]
                    refine ⟨fun a6 => Lg ?_, fun a6 => Lg ?_⟩
                    · simp only [vx,T,K5,J0,K6,K7,↓reduceIte,J1,J2,J3,J4,J5,J6,J7,J8,J9,reduceCtorEq,K1,K2,K3,K4]
                      have h58 : 5 ≤ k ∧ k ≤ 8 := ⟨by omega, by omega⟩
                      have hp := (hp4 h58).1
                      have ef : finB k pts cir = (decide (pts.getD 0 0 ≠ pts.getD 1 0) && (decide (pts.getD 2 0 ≠ pts.getD 3 0) && !((decide (pts.getD 0 0 = pts.getD 2 0) && decide (pts.getD 1 0 = pts.getD 3 0)) || (decide (pts.getD 0 0 = pts.getD 3 0) && decide (pts.getD 1 0 = pts.getD 2 0))))) := by unfold finB; rw [if_pos h58]
                      obtain ⟨q0, ha0⟩ : ∃ a, a = pts.getD 0 0 := ⟨_, rfl⟩
                      obtain ⟨q1, ha1⟩ : ∃ a, a = pts.getD 1 0 := ⟨_, rfl⟩
                      obtain ⟨q2, ha2⟩ : ∃ a, a = pts.getD 2 0 := ⟨_, rfl⟩
                      obtain ⟨q3, ha3⟩ : ∃ a, a = pts.getD 3 0 := ⟨_, rfl⟩
                      rw [ef, ← ha0, ← ha1, ← ha2, ← ha3]
                      clear ef h ko w1 w2 d1 d2 hx he ecv eall hz
                      repeat' (first | (exfalso; omega) | with_reducible exact Ve rfl | with_reducible refine And.intro (by omega) ?_ | with_reducible refine ⟨fun _ => Lg ?_, fun _ => Lg ?_⟩ | with_reducible refine Lg ?_ | (with_reducible refine fun _ => Lg ?_) | simp only [vx,T,K5,J0,K6,K7,↓reduceIte,J1,J2,J3,J4,J5,J6,J7,J8,J9,reduceCtorEq,K1,K2,K3,K4,← ha0,← ha1,← ha2,← ha3])
                      all_goals refine vb ?_
                      all_goals clear ha0 ha1 ha2 ha3 hpl hcl hm g1 g2 g3 i1
                      all_goals grind
                    · simp only [vx,T,K5,J0,K6,K7,↓reduceIte,J1,J2,J3,J4,J5,J6,J7,J8,J9,reduceCtorEq,K1,K2,K3,K4]
                      refine ⟨fun a7 => Lg ?_, fun a7 => Lg ?_⟩
                      · simp only [vx,T,K5,J0,K6,K7,↓reduceIte,J1,J2,J3,J4,J5,J6,J7,J8,J9,reduceCtorEq,K1,K2,K3,K4]
                        have h58 : 5 ≤ k ∧ k ≤ 8 := ⟨by omega, by omega⟩
                        have hp := (hp4 h58).1
                        have ef : finB k pts cir = (decide (pts.getD 0 0 ≠ pts.getD 1 0) && (decide (pts.getD 2 0 ≠ pts.getD 3 0) && !((decide (pts.getD 0 0 = pts.getD 2 0) && decide (pts.getD 1 0 = pts.getD 3 0)) || (decide (pts.getD 0 0 = pts.getD 3 0) && decide (pts.getD 1 0 = pts.getD 2 0))))) := by unfold finB; rw [if_pos h58]
                        obtain ⟨q0, ha0⟩ : ∃ a, a = pts.getD 0 0 := ⟨_, rfl⟩
                        obtain ⟨q1, ha1⟩ : ∃ a, a = pts.getD 1 0 := ⟨_, rfl⟩
                        obtain ⟨q2, ha2⟩ : ∃ a, a = pts.getD 2 0 := ⟨_, rfl⟩
                        obtain ⟨q3, ha3⟩ : ∃ a, a = pts.getD 3 0 := ⟨_, rfl⟩
                        rw [ef, ← ha0, ← ha1, ← ha2, ← ha3]
                        clear ef h ko w1 w2 d1 d2 hx he ecv eall hz
                        repeat' (first | (exfalso; omega) | with_reducible exact Ve rfl | with_reducible refine And.intro (by omega) ?_ | with_reducible refine ⟨fun _ => Lg ?_, fun _ => Lg ?_⟩ | with_reducible refine Lg ?_ | (with_reducible refine fun _ => Lg ?_) | simp only [vx,T,K5,J0,K6,K7,↓reduceIte,J1,J2,J3,J4,J5,J6,J7,J8,J9,reduceCtorEq,K1,K2,K3,K4,← ha0,← ha1,← ha2,← ha3])
                        all_goals refine vb ?_
                        all_goals clear ha0 ha1 ha2 ha3 hpl hcl hm g1 g2 g3 i1
                        all_goals grind
                      · simp only [vx,T,K5,J0,K6,K7,↓reduceIte,J1,J2,J3,J4,J5,J6,J7,J8,J9,reduceCtorEq,K1,K2,K3,K4]
                        refine ⟨fun a8 => Lg ?_, fun a8 => Lg ?_⟩
                        · simp only [vx,T,K5,J0,K6,K7,↓reduceIte,J1,J2,J3,J4,J5,J6,J7,J8,J9,reduceCtorEq,K1,K2,K3,K4]
                          have h58 : 5 ≤ k ∧ k ≤ 8 := ⟨by omega, by omega⟩
                          have hp := (hp4 h58).1
                          have ef : finB k pts cir = (decide (pts.getD 0 0 ≠ pts.getD 1 0) && (decide (pts.getD 2 0 ≠ pts.getD 3 0) && !((decide (pts.getD 0 0 = pts.getD 2 0) && decide (pts.getD 1 0 = pts.getD 3 0)) || (decide (pts.getD 0 0 = pts.getD 3 0) && decide (pts.getD 1 0 = pts.getD 2 0))))) := by unfold finB; rw [if_pos h58]
                          obtain ⟨q0, ha0⟩ : ∃ a, a = pts.getD 0 0 := ⟨_, rfl⟩
                          obtain ⟨q1, ha1⟩ : ∃ a, a = pts.getD 1 0 := ⟨_, rfl⟩
                          obtain ⟨q2, ha2⟩ : ∃ a, a = pts.getD 2 0 := ⟨_, rfl⟩
                          obtain ⟨q3, ha3⟩ : ∃ a, a = pts.getD 3 0 := ⟨_, rfl⟩
                          rw [ef, ← ha0, ← ha1, ← ha2, ← ha3]
                          clear ef h ko w1 w2 d1 d2 hx he ecv eall hz
                          repeat' (first | (exfalso; omega) | with_reducible exact Ve rfl | with_reducible refine And.intro (by omega) ?_ | with_reducible refine ⟨fun _ => Lg ?_, fun _ => Lg ?_⟩ | with_reducible refine Lg ?_ | (with_reducible refine fun _ => Lg ?_) | simp only [vx,T,K5,J0,K6,K7,↓reduceIte,J1,J2,J3,J4,J5,J6,J7,J8,J9,reduceCtorEq,K1,K2,K3,K4,← ha0,← ha1,← ha2,← ha3])
                          all_goals refine vb ?_
                          all_goals clear ha0 ha1 ha2 ha3 hpl hcl hm g1 g2 g3 i1
                          all_goals grind
                        · simp only [vx,T,K5,J0,K6,K7,↓reduceIte,J1,J2,J3,J4,J5,J6,J7,J8,J9,reduceCtorEq,K1,K2,K3,K4]
                          have h58 : ¬(5 ≤ k ∧ k ≤ 8) := by omega
                          obtain ⟨x1, hx1⟩ : ∃ x, x = diB pts := ⟨_, rfl⟩
                          obtain ⟨x2, hx2⟩ : ∃ x, x = diB cir := ⟨_, rfl⟩
                          rw [← hx1] at d1
                          rw [← hx2] at d2
                          have ef : finB k pts cir = (x1 && x2) := by unfold finB; rw [if_neg h58, hx1, hx2]
                          rw [ef]
                          refine Cg d1 ?_
                          cases x1 with
                          | false =>
                            simp only [vx,T,K5,J0,K6,K7,↓reduceIte,J1,J2,J3,J4,J5,J6,J7,J8,J9,reduceCtorEq,K1,K2,K3,K4]
                            exact Ve rfl
                          | true =>
                            simp only [vx,T,K5,J0,K6,K7,↓reduceIte,J1,J2,J3,J4,J5,J6,J7,J8,J9,reduceCtorEq,K1,K2,K3,K4]
                            refine Cg d2 ?_
                            simp only [vx,T,K5,J0,K6,K7,↓reduceIte,J1,J2,J3,J4,J5,J6,J7,J8,J9,reduceCtorEq,K1,K2,K3,K4]
                            exact Ve rfl
open Go Go.Eng
theorem ofc_spec (cs ci : List Int) (i k : Nat) (hi : i < ci.length) (hk : ci.getD i 0 = (k : Int)) (hk2 : k < cs.length) (g g2 : Nat → Nat → C) (hg : g 0 0 = .ints .i64 cs) (hg2 : g2 0 2 = .ints .i64 ci) :
    Pr Tryz.prog 20 [.one (.int .i64 i), .one (.elt (.rows 1 1 g) 1 0 0), .one (.elt (.rows 5 1 g2) 5 0 0)] (.one (.int .i64 (cs.getD k 0))) := by
  refine pv T_ok mixed Tryz.func20 rfl (by decide) _ (by simp [Tryz.ntmps20]) ⟨[0, 1, 2, 4], []⟩ (by kernel_rfl) _ ?_
  show vc T _ _ (Option.get! Tryz.f20.body) _ _
  simp only [Tryz.f20,Tryz.ntmps20,Option.get!,iS,iM,eO,J1]
  simp only [vx,T,K5,J0,K6,K7,↓reduceIte,J1,J2,J3,J4,J5,J6,J7,J8,J9,reduceCtorEq,K1,K2,K3,K4,hg,hg2]
  refine ⟨⟨by omega, by omega⟩, ?_⟩
  rw [hk]
  simp only [vx,T,K5,J0,K6,K7,↓reduceIte,J1,J2,J3,J4,J5,J6,J7,J8,J9,reduceCtorEq,K1,K2,K3,K4]
  refine ⟨⟨by omega, by omega⟩, ?_⟩
  exact Ve rfl
theorem ofr_spec (n : Nat) (ci : List Int) (i k : Nat) (hi : i < ci.length) (hk : ci.getD i 0 = (k : Int)) (hn : n < 2 ^ 40) (hk2 : k < 2 ^ 40) (g g2 : Nat → Nat → C) (hg : g 0 0 = .int .i64 n) (hg2 : g2 0 2 = .ints .i64 ci) :
    Pr Tryz.prog 18 [.one (.int .i64 i), .one (.elt (.rows 1 1 g) 1 0 0), .one (.elt (.rows 5 1 g2) 5 0 0)] (PV (varM (2 * n + k))) := by
  have w1 : IntKind.i64.wrap (2 * (n : Int)) = 2 * (n : Int) := IntWalk.i64_in _ (by omega)
  have w2 : IntKind.i64.wrap (2 * (n : Int) + k) = 2 * (n : Int) + k := IntWalk.i64_in _ (by omega)
  refine pv T_ok mixed Tryz.func18 rfl (by decide) _ (by simp [Tryz.ntmps18]) ⟨[0, 1, 2, 4], []⟩ (by kernel_rfl) _ ?_
  show vc T _ _ (Option.get! Tryz.f18.body) _ _
  simp only [Tryz.f18,Tryz.ntmps18,Option.get!,iS,iM,eO,J1]
  simp only [vx,T,K5,J0,K6,K7,↓reduceIte,J1,J2,J3,J4,J5,J6,J7,J8,J9,reduceCtorEq,K1,K2,K3,K4,hg,hg2,w1]
  refine ⟨⟨by omega, by omega⟩, ?_⟩
  rw [hk, w2]
  refine Cg (var_spec _) ?_
  simp only [vx,T,K5,J0,K6,K7,↓reduceIte,J1,J2,J3,J4,J5,J6,J7,J8,J9,reduceCtorEq,K1,K2,K3,K4,PV,PC]
  exact Ve rfl
theorem iOf1 (cs : List Int) (n : Nat) (hn : n < 2 ^ 40) (c3 : C) (s : Int) (a : Nat) (ha : a < 2 ^ 40) (q0 : Rat) (hq0 : qm q0 ≤ 4) (q1 : Rat) (hq1 : qm q1 ≤ 4) : Pr Tryz.prog 6 [.agg [.int .i64 1, .ints .i64 [(a : Int)], .ints .i64 [], c3, .int .i64 s], .one (QsC [q0, q1]), .one (.ints .i64 cs), .one (.int .i64 n)] (LV [subM (ptM a).1 (norM [(q0, [])]), subM (ptM a).2 (norM [(q1, [])])]) := by
  have bV0 := NF.num hq0
  have bV1 := NF.num hq1
  have bS0 := NF.sub (NF.var (v := 2 * (a : Int)) (by omega) (by omega)) bV0
  have bS1 := NF.sub (NF.var (v := 2 * (a : Int) + 1) (by omega) (by omega)) bV1
  have cPa := two_pt a ha
  have cS0 := two_sub (NF.var (v := 2 * (a : Int)) (by omega) (by omega)) bV0 (by decide)
  have cS1 := two_sub (NF.var (v := 2 * (a : Int) + 1) (by omega) (by omega)) bV1 (by decide)
  refine pv T_ok mixed Tryz.func6 rfl (by decide) _ (by simp [Tryz.ntmps6]) ⟨[0, 1, 2, 3, 4, 5, 6, 7, 8, 9, 10, 11, 12, 13, 14, 15, 16, 17, 18, 19, 20, 21, 22, 23, 24, 25, 26, 27, 28, 35, 36, 53, 70, 88, 116, 143, 161, 179, 203, 230, 276, 287, 298, 314, 322, 330, 369], []⟩ (by kernel_rfl) _ ?_
  show vc T _ _ (Option.get! Tryz.f6.body) _ _
  simp only [Tryz.f6,Tryz.ntmps6,Option.get!,iS,iM,eO,J1]
  simp only [vx,T,K5,J0,K6,K7,↓reduceIte,J1,J2,J3,J4,J5,J6,J7,J8,J9,reduceCtorEq,K1,K2,K3,K4,QsC]
  (repeat refine ⟨by omega, ?_⟩)
  refine Cg cPa.1 ?_
  simp only [vx,T,K5,J0,K6,K7,↓reduceIte,J1,J2,J3,J4,J5,J6,J7,J8,J9,reduceCtorEq,K1,K2,K3,K4,VV,PV,PC,LV,LC,X0,X1]
  (repeat refine ⟨by omega, ?_⟩)
  refine Cg (ofv_spec [q0, q1] 0 (by simp) (by simp) (B := 4) hq0 (by decide) _ rfl) ?_
  simp only [vx,T,K5,J0,K6,K7,↓reduceIte,J1,J2,J3,J4,J5,J6,J7,J8,J9,reduceCtorEq,K1,K2,K3,K4,VV,PV,PC,LV,LC,X0,X1]
  (repeat refine ⟨by omega, ?_⟩)
  refine Cg cS0.1 ?_
  simp only [vx,T,K5,J0,K6,K7,↓reduceIte,J1,J2,J3,J4,J5,J6,J7,J8,J9,reduceCtorEq,K1,K2,K3,K4,VV,PV,PC,LV,LC,X0,X1]
  (repeat refine ⟨by omega, ?_⟩)
  refine Cg (ofv_spec [q0, q1] 1 (by simp) (by simp) (B := 4) hq1 (by decide) _ rfl) ?_
  simp only [vx,T,K5,J0,K6,K7,↓reduceIte,J1,J2,J3,J4,J5,J6,J7,J8,J9,reduceCtorEq,K1,K2,K3,K4,VV,PV,PC,LV,LC,X0,X1]
  (repeat refine ⟨by omega, ?_⟩)
  refine Cg cS1.1 ?_
  simp only [vx,T,K5,J0,K6,K7,↓reduceIte,J1,J2,J3,J4,J5,J6,J7,J8,J9,reduceCtorEq,K1,K2,K3,K4,VV,PV,PC,LV,LC,X0,X1]
  refine Va ⟨rfl, rfl, fun i' j' hi' hj' => ?_⟩
  obtain rfl : j' = 0 := by omega
  match i', hi' with
  | 0, _ => rfl
  | 1, _ => rfl
theorem iOf2 (cs : List Int) (n : Nat) (hn : n < 2 ^ 40) (c3 : C) (s : Int) (a b : Nat) (ha : a < 2 ^ 40) (hb : b < 2 ^ 40) (q0 : Rat) (hq0 : qm q0 ≤ 4) : Pr Tryz.prog 6 [.agg [.int .i64 2, .ints .i64 [(a : Int), (b : Int)], .ints .i64 [], c3, .int .i64 s], .one (QsC [q0]), .one (.ints .i64 cs), .one (.int .i64 n)] (LV [subM (dotM (wayM a b) (wayM a b)) (mulM (norM [(q0, [])]) (norM [(q0, [])]))]) := by
  have bV0 := NF.num hq0
  have bWab := NW.way a b ha hb
  have bDWabWab := NW.dot bWab bWab
  have bQ := NF.mul bV0 bV0
  have bS := NF.sub bDWabWab bQ
  have cWab := tW a b ha hb
  have cDWabWab := two_dot bWab bWab (by decide) (by decide)
  have cQ := two_sq bV0 (by decide)
  have cS := two_sub bDWabWab bQ (by decide)
  refine pv T_ok mixed Tryz.func6 rfl (by decide) _ (by simp [Tryz.ntmps6]) ⟨[0, 1, 2, 3, 4, 5, 6, 7, 8, 9, 10, 11, 12, 13, 14, 15, 16, 17, 18, 19, 20, 21, 22, 23, 24, 25, 26, 27, 28, 35, 36, 53, 70, 88, 116, 143, 161, 179, 203, 230, 276, 287, 298, 314, 322, 330, 369], []⟩ (by kernel_rfl) _ ?_
  show vc T _ _ (Option.get! Tryz.f6.body) _ _
  simp only [Tryz.f6,Tryz.ntmps6,Option.get!,iS,iM,eO,J1]
  simp only [vx,T,K5,J0,K6,K7,↓reduceIte,J1,J2,J3,J4,J5,J6,J7,J8,J9,reduceCtorEq,K1,K2,K3,K4,QsC]
  (repeat refine ⟨by omega, ?_⟩)
  refine Cg cWab.1 ?_
  simp only [vx,T,K5,J0,K6,K7,↓reduceIte,J1,J2,J3,J4,J5,J6,J7,J8,J9,reduceCtorEq,K1,K2,K3,K4,VV,PV,PC,LV,LC,X0,X1]
  (repeat refine ⟨by omega, ?_⟩)
  refine Cg cDWabWab.1 ?_
  simp only [vx,T,K5,J0,K6,K7,↓reduceIte,J1,J2,J3,J4,J5,J6,J7,J8,J9,reduceCtorEq,K1,K2,K3,K4,VV,PV,PC,LV,LC,X0,X1]
  (repeat refine ⟨by omega, ?_⟩)
  refine Cg (ofv_spec [q0] 0 (by simp) (by simp) (B := 4) hq0 (by decide) _ rfl) ?_
  simp only [vx,T,K5,J0,K6,K7,↓reduceIte,J1,J2,J3,J4,J5,J6,J7,J8,J9,reduceCtorEq,K1,K2,K3,K4,VV,PV,PC,LV,LC,X0,X1]
  (repeat refine ⟨by omega, ?_⟩)
  refine Cg cQ.1 ?_
  simp only [vx,T,K5,J0,K6,K7,↓reduceIte,J1,J2,J3,J4,J5,J6,J7,J8,J9,reduceCtorEq,K1,K2,K3,K4,VV,PV,PC,LV,LC,X0,X1]
  (repeat refine ⟨by omega, ?_⟩)
  refine Cg cS.1 ?_
  simp only [vx,T,K5,J0,K6,K7,↓reduceIte,J1,J2,J3,J4,J5,J6,J7,J8,J9,reduceCtorEq,K1,K2,K3,K4,VV,PV,PC,LV,LC,X0,X1]
  refine Va ⟨rfl, rfl, fun i' j' hi' hj' => ?_⟩
  obtain rfl : j' = 0 := by omega
  obtain rfl : i' = 0 := by omega
  rfl
theorem iOf13 (cs : List Int) (n : Nat) (hn : n < 2 ^ 40) (c3 : C) (s : Int) (a : Nat) (ha : a < 2 ^ 40) (u0 x0 : Nat) (hu0 : u0 < 2 ^ 40) (hl0 : u0 < cs.length) (hx0 : cs.getD u0 0 = (x0 : Int)) (hxl0 : x0 < 2 ^ 40) : Pr Tryz.prog 6 [.agg [.int .i64 13, .ints .i64 [(a : Int)], .ints .i64 [(u0 : Int)], c3, .int .i64 s], .one (QsC []), .one (.ints .i64 cs), .one (.int .i64 n)] (LV [subM (dotM (wayM x0 a) (wayM x0 a)) (mulM (varM (2 * n + u0)) (varM (2 * n + u0)))]) := by
  have bR0 := NF.var (v := 2 * (n : Int) + u0) (by omega) (by omega)
  have bWx0a := NW.way x0 a hxl0 ha
  have bDWx0aWx0a := NW.dot bWx0a bWx0a
  have bQ := NF.mul bR0 bR0
  have bS := NF.sub bDWx0aWx0a bQ
  have cWx0a := tW x0 a hxl0 ha
  have cDWx0aWx0a := two_dot bWx0a bWx0a (by decide) (by decide)
  have cQ := two_sq bR0 (by decide)
  have cS := two_sub bDWx0aWx0a bQ (by decide)
  refine pv T_ok mixed Tryz.func6 rfl (by decide) _ (by simp [Tryz.ntmps6]) ⟨[0, 1, 2, 3, 4, 5, 6, 7, 8, 9, 10, 11, 12, 13, 14, 15, 16, 17, 18, 19, 20, 21, 22, 23, 24, 25, 26, 27, 28, 35, 36, 53, 70, 88, 116, 143, 161, 179, 203, 230, 276, 287, 298, 314, 322, 330, 369], []⟩ (by kernel_rfl) _ ?_
  show vc T _ _ (Option.get! Tryz.f6.body) _ _
  simp only [Tryz.f6,Tryz.ntmps6,Option.get!,iS,iM,eO,J1]
  simp only [vx,T,K5,J0,K6,K7,↓reduceIte,J1,J2,J3,J4,J5,J6,J7,J8,J9,reduceCtorEq,K1,K2,K3,K4,QsC]
  (repeat refine ⟨by omega, ?_⟩)
  refine Cg (ofc_spec cs [(u0 : Int)] 0 u0 (by simp) rfl hl0 _ _ rfl rfl) ?_
  rw [hx0]
  simp only [vx,T,K5,J0,K6,K7,↓reduceIte,J1,J2,J3,J4,J5,J6,J7,J8,J9,reduceCtorEq,K1,K2,K3,K4,VV,PV,PC,LV,LC,X0,X1]
  (repeat refine ⟨by omega, ?_⟩)
  refine Cg cWx0a.1 ?_
  simp only [vx,T,K5,J0,K6,K7,↓reduceIte,J1,J2,J3,J4,J5,J6,J7,J8,J9,reduceCtorEq,K1,K2,K3,K4,VV,PV,PC,LV,LC,X0,X1]
  (repeat refine ⟨by omega, ?_⟩)
  refine Cg cDWx0aWx0a.1 ?_
  simp only [vx,T,K5,J0,K6,K7,↓reduceIte,J1,J2,J3,J4,J5,J6,J7,J8,J9,reduceCtorEq,K1,K2,K3,K4,VV,PV,PC,LV,LC,X0,X1]
  (repeat refine ⟨by omega, ?_⟩)
  refine Cg (ofr_spec n [(u0 : Int)] 0 u0 (by simp) rfl hn hu0 _ _ rfl rfl) ?_
  simp only [vx,T,K5,J0,K6,K7,↓reduceIte,J1,J2,J3,J4,J5,J6,J7,J8,J9,reduceCtorEq,K1,K2,K3,K4,VV,PV,PC,LV,LC,X0,X1]
  (repeat refine ⟨by omega, ?_⟩)
  refine Cg cQ.1 ?_
  simp only [vx,T,K5,J0,K6,K7,↓reduceIte,J1,J2,J3,J4,J5,J6,J7,J8,J9,reduceCtorEq,K1,K2,K3,K4,VV,PV,PC,LV,LC,X0,X1]
  (repeat refine ⟨by omega, ?_⟩)
  refine Cg cS.1 ?_
  simp only [vx,T,K5,J0,K6,K7,↓reduceIte,J1,J2,J3,J4,J5,J6,J7,J8,J9,reduceCtorEq,K1,K2,K3,K4,VV,PV,PC,LV,LC,X0,X1]
  refine Va ⟨rfl, rfl, fun i' j' hi' hj' => ?_⟩
  obtain rfl : j' = 0 := by omega
  obtain rfl : i' = 0 := by omega
  rfl
open Go Go.Eng
theorem iOf3 (cs : List Int) (n : Nat) (hn : n < 2 ^ 40) (c3 : C) (s : Int) (a b c : Nat) (ha : a < 2 ^ 40) (hb : b < 2 ^ 40) (hc : c < 2 ^ 40) : Pr Tryz.prog 6 [.agg [.int .i64 3, .ints .i64 [(a : Int), (b : Int), (c : Int)], .ints .i64 [], c3, .int .i64 s], .one (QsC []), .one (.ints .i64 cs), .one (.int .i64 n)] (LV [crossM (wayM b c) (wayM b a)]) := by
  have bWbc := NW.way b c hb hc
  have bWba := NW.way b a hb ha
  have bCWbcWba := NW.cross bWbc bWba
  have cWbc := tW b c hb hc
  have cWba := tW b a hb ha
  have cCWbcWba := two_cross bWbc bWba (by decide) (by decide)
  refine pv T_ok mixed Tryz.func6 rfl (by decide) _ (by simp [Tryz.ntmps6]) ⟨[0, 1, 2, 3, 4, 5, 6, 7, 8, 9, 10, 11, 12, 13, 14, 15, 16, 17, 18, 19, 20, 21, 22, 23, 24, 25, 26, 27, 28, 35, 36, 53, 70, 88, 116, 143, 161, 179, 203, 230, 276, 287, 298, 314, 322, 330, 369], []⟩ (by kernel_rfl) _ ?_
  show vc T _ _ (Option.get! Tryz.f6.body) _ _
  simp only [Tryz.f6,Tryz.ntmps6,Option.get!,iS,iM,eO,J1]
  simp only [vx,T,K5,J0,K6,K7,↓reduceIte,J1,J2,J3,J4,J5,J6,J7,J8,J9,reduceCtorEq,K1,K2,K3,K4,QsC]
  (repeat refine ⟨by omega, ?_⟩)
  refine Cg cWbc.1 ?_
  simp only [vx,T,K5,J0,K6,K7,↓reduceIte,J1,J2,J3,J4,J5,J6,J7,J8,J9,reduceCtorEq,K1,K2,K3,K4,VV,PV,PC,LV,LC,X0,X1]
  (repeat refine ⟨by omega, ?_⟩)
  refine Cg cWba.1 ?_
  simp only [vx,T,K5,J0,K6,K7,↓reduceIte,J1,J2,J3,J4,J5,J6,J7,J8,J9,reduceCtorEq,K1,K2,K3,K4,VV,PV,PC,LV,LC,X0,X1]
  (repeat refine ⟨by omega, ?_⟩)
  refine Cg cCWbcWba.1 ?_
  simp only [vx,T,K5,J0,K6,K7,↓reduceIte,J1,J2,J3,J4,J5,J6,J7,J8,J9,reduceCtorEq,K1,K2,K3,K4,VV,PV,PC,LV,LC,X0,X1]
  refine Va ⟨rfl, rfl, fun i' j' hi' hj' => ?_⟩
  obtain rfl : j' = 0 := by omega
  obtain rfl : i' = 0 := by omega
  rfl
theorem iOf4 (cs : List Int) (n : Nat) (hn : n < 2 ^ 40) (c3 : C) (s : Int) (a b c : Nat) (ha : a < 2 ^ 40) (hb : b < 2 ^ 40) (hc : c < 2 ^ 40) (q0 : Rat) (hq0 : qm q0 ≤ 4) : Pr Tryz.prog 6 [.agg [.int .i64 4, .ints .i64 [(a : Int), (b : Int), (c : Int)], .ints .i64 [], c3, .int .i64 s], .one (QsC [q0]), .one (.ints .i64 cs), .one (.int .i64 n)] (LV [subM (mulM (crossM (wayM b c) (wayM b a)) (crossM (wayM b c) (wayM b a))) (mulM (mulM (norM [(q0, [])]) (norM [(q0, [])])) (dotM (wayM b c) (wayM b c)))]) := by
  have bV0 := NF.num hq0
  have bWbc := NW.way b c hb hc
  have bWba := NW.way b a hb ha
  have bCWbcWba := NW.cross bWbc bWba
  have bQ := NF.mul bCWbcWba bCWbcWba
  have bQ2 := NF.mul bV0 bV0
  have bDWbcWbc := NW.dot bWbc bWbc
  have bM := NF.mul bQ2 bDWbcWbc
  have bS := NF.sub bQ bM
  have cWbc := tW b c hb hc
  have cWba := tW b a hb ha
  have cCWbcWba := two_cross bWbc bWba (by decide) (by decide)
  have cQ := two_sq bCWbcWba (by decide)
  have cQ2 := two_sq bV0 (by decide)
  have cDWbcWbc := two_dot bWbc bWbc (by decide) (by decide)
  have cM := two_mul bQ2 bDWbcWbc (by decide)
  have cS := two_sub bQ bM (by decide)
  refine pv T_ok mixed Tryz.func6 rfl (by decide) _ (by simp [Tryz.ntmps6]) ⟨[0, 1, 2, 3, 4, 5, 6, 7, 8, 9, 10, 11, 12, 13, 14, 15, 16, 17, 18, 19, 20, 21, 22, 23, 24, 25, 26, 27, 28, 35, 36, 53, 70, 88, 116, 143, 161, 179, 203, 230, 276, 287, 298, 314, 322, 330, 369], []⟩ (by kernel_rfl) _ ?_
  show vc T _ _ (Option.get! Tryz.f6.body) _ _
  simp only [Tryz.f6,Tryz.ntmps6,Option.get!,iS,iM,eO,J1]
  simp only [vx,T,K5,J0,K6,K7,↓reduceIte,J1,J2,J3,J4,J5,J6,J7,J8,J9,reduceCtorEq,K1,K2,K3,K4,QsC]
  (repeat refine ⟨by omega, ?_⟩)
  refine Cg cWbc.1 ?_
  simp only [vx,T,K5,J0,K6,K7,↓reduceIte,J1,J2,J3,J4,J5,J6,J7,J8,J9,reduceCtorEq,K1,K2,K3,K4,VV,PV,PC,LV,LC,X0,X1]
  (repeat refine ⟨by omega, ?_⟩)
  refine Cg cWba.1 ?_
  simp only [vx,T,K5,J0,K6,K7,↓reduceIte,J1,J2,J3,J4,J5,J6,J7,J8,J9,reduceCtorEq,K1,K2,K3,K4,VV,PV,PC,LV,LC,X0,X1]
  (repeat refine ⟨by omega, ?_⟩)
  refine Cg cCWbcWba.1 ?_
  simp only [vx,T,K5,J0,K6,K7,↓reduceIte,J1,J2,J3,J4,J5,J6,J7,J8,J9,reduceCtorEq,K1,K2,K3,K4,VV,PV,PC,LV,LC,X0,X1]
  (repeat refine ⟨by omega, ?_⟩)
  refine Cg cQ.1 ?_
  simp only [vx,T,K5,J0,K6,K7,↓reduceIte,J1,J2,J3,J4,J5,J6,J7,J8,J9,reduceCtorEq,K1,K2,K3,K4,VV,PV,PC,LV,LC,X0,X1]
  (repeat refine ⟨by omega, ?_⟩)
  refine Cg (ofv_spec [q0] 0 (by simp) (by simp) (B := 4) hq0 (by decide) _ rfl) ?_
  simp only [vx,T,K5,J0,K6,K7,↓reduceIte,J1,J2,J3,J4,J5,J6,J7,J8,J9,reduceCtorEq,K1,K2,K3,K4,VV,PV,PC,LV,LC,X0,X1]
  (repeat refine ⟨by omega, ?_⟩)
  refine Cg cQ2.1 ?_
  simp only [vx,T,K5,J0,K6,K7,↓reduceIte,J1,J2,J3,J4,J5,J6,J7,J8,J9,reduceCtorEq,K1,K2,K3,K4,VV,PV,PC,LV,LC,X0,X1]
  (repeat refine ⟨by omega, ?_⟩)
  refine Cg cDWbcWbc.1 ?_
  simp only [vx,T,K5,J0,K6,K7,↓reduceIte,J1,J2,J3,J4,J5,J6,J7,J8,J9,reduceCtorEq,K1,K2,K3,K4,VV,PV,PC,LV,LC,X0,X1]
  (repeat refine ⟨by omega, ?_⟩)
  refine Cg cM.1 ?_
  simp only [vx,T,K5,J0,K6,K7,↓reduceIte,J1,J2,J3,J4,J5,J6,J7,J8,J9,reduceCtorEq,K1,K2,K3,K4,VV,PV,PC,LV,LC,X0,X1]
  (repeat refine ⟨by omega, ?_⟩)
  refine Cg cS.1 ?_
  simp only [vx,T,K5,J0,K6,K7,↓reduceIte,J1,J2,J3,J4,J5,J6,J7,J8,J9,reduceCtorEq,K1,K2,K3,K4,VV,PV,PC,LV,LC,X0,X1]
  refine Va ⟨rfl, rfl, fun i' j' hi' hj' => ?_⟩
  obtain rfl : j' = 0 := by omega
  obtain rfl : i' = 0 := by omega
  rfl
theorem iOf5 (cs : List Int) (n : Nat) (hn : n < 2 ^ 40) (c3 : C) (s : Int) (a b c d : Nat) (ha : a < 2 ^ 40) (hb : b < 2 ^ 40) (hc : c < 2 ^ 40) (hd : d < 2 ^ 40) (q0 : Rat) (hq0 : qm q0 ≤ 4) : Pr Tryz.prog 6 [.agg [.int .i64 5, .ints .i64 [(a : Int), (b : Int), (c : Int), (d : Int)], .ints .i64 [], c3, .int .i64 s], .one (QsC [q0]), .one (.ints .i64 cs), .one (.int .i64 n)] (LV [subM (crossM (wayM a b) (wayM c d)) (mulM (norM [(q0, [])]) (dotM (wayM a b) (wayM c d)))]) := by
  have bV0 := NF.num hq0
  have bWab := NW.way a b ha hb
  have bWcd := NW.way c d hc hd
  have bCWabWcd := NW.cross bWab bWcd
  have bDWabWcd := NW.dot bWab bWcd
  have bM := NF.mul bV0 bDWabWcd
  have bS := NF.sub bCWabWcd bM
  have cWab := tW a b ha hb
  have cWcd := tW c d hc hd
  have cCWabWcd := two_cross bWab bWcd (by decide) (by decide)
  have cDWabWcd := two_dot bWab bWcd (by decide) (by decide)
  have cM := two_mul bV0 bDWabWcd (by decide)
  have cS := two_sub bCWabWcd bM (by decide)
  refine pv T_ok mixed Tryz.func6 rfl (by decide) _ (by simp [Tryz.ntmps6]) ⟨[0, 1, 2, 3, 4, 5, 6, 7, 8, 9, 10, 11, 12, 13, 14, 15, 16, 17, 18, 19, 20, 21, 22, 23, 24, 25, 26, 27, 28, 35, 36, 53, 70, 88, 116, 143, 161, 179, 203, 230, 276, 287, 298, 314, 322, 330, 369], []⟩ (by kernel_rfl) _ ?_
  show vc T _ _ (Option.get! Tryz.f6.body) _ _
  simp only [Tryz.f6,Tryz.ntmps6,Option.get!,iS,iM,eO,J1]
  simp only [vx,T,K5,J0,K6,K7,↓reduceIte,J1,J2,J3,J4,J5,J6,J7,J8,J9,reduceCtorEq,K1,K2,K3,K4,QsC]
  (repeat refine ⟨by omega, ?_⟩)
  refine Cg cWab.1 ?_
  simp only [vx,T,K5,J0,K6,K7,↓reduceIte,J1,J2,J3,J4,J5,J6,J7,J8,J9,reduceCtorEq,K1,K2,K3,K4,VV,PV,PC,LV,LC,X0,X1]
  (repeat refine ⟨by omega, ?_⟩)
  refine Cg cWcd.1 ?_
  simp only [vx,T,K5,J0,K6,K7,↓reduceIte,J1,J2,J3,J4,J5,J6,J7,J8,J9,reduceCtorEq,K1,K2,K3,K4,VV,PV,PC,LV,LC,X0,X1]
  (repeat refine ⟨by omega, ?_⟩)
  refine Cg cCWabWcd.1 ?_
  simp only [vx,T,K5,J0,K6,K7,↓reduceIte,J1,J2,J3,J4,J5,J6,J7,J8,J9,reduceCtorEq,K1,K2,K3,K4,VV,PV,PC,LV,LC,X0,X1]
  (repeat refine ⟨by omega, ?_⟩)
  refine Cg (ofv_spec [q0] 0 (by simp) (by simp) (B := 4) hq0 (by decide) _ rfl) ?_
  simp only [vx,T,K5,J0,K6,K7,↓reduceIte,J1,J2,J3,J4,J5,J6,J7,J8,J9,reduceCtorEq,K1,K2,K3,K4,VV,PV,PC,LV,LC,X0,X1]
  (repeat refine ⟨by omega, ?_⟩)
  refine Cg cDWabWcd.1 ?_
  simp only [vx,T,K5,J0,K6,K7,↓reduceIte,J1,J2,J3,J4,J5,J6,J7,J8,J9,reduceCtorEq,K1,K2,K3,K4,VV,PV,PC,LV,LC,X0,X1]
  (repeat refine ⟨by omega, ?_⟩)
  refine Cg cM.1 ?_
  simp only [vx,T,K5,J0,K6,K7,↓reduceIte,J1,J2,J3,J4,J5,J6,J7,J8,J9,reduceCtorEq,K1,K2,K3,K4,VV,PV,PC,LV,LC,X0,X1]
  (repeat refine ⟨by omega, ?_⟩)
  refine Cg cS.1 ?_
  simp only [vx,T,K5,J0,K6,K7,↓reduceIte,J1,J2,J3,J4,J5,J6,J7,J8,J9,reduceCtorEq,K1,K2,K3,K4,VV,PV,PC,LV,LC,X0,X1]
  refine Va ⟨rfl, rfl, fun i' j' hi' hj' => ?_⟩
  obtain rfl : j' = 0 := by omega
  obtain rfl : i' = 0 := by omega
  rfl
theorem iOf6 (cs : List Int) (n : Nat) (hn : n < 2 ^ 40) (c3 : C) (s : Int) (a b c d : Nat) (ha : a < 2 ^ 40) (hb : b < 2 ^ 40) (hc : c < 2 ^ 40) (hd : d < 2 ^ 40) : Pr Tryz.prog 6 [.agg [.int .i64 6, .ints .i64 [(a : Int), (b : Int), (c : Int), (d : Int)], .ints .i64 [], c3, .int .i64 s], .one (QsC []), .one (.ints .i64 cs), .one (.int .i64 n)] (LV [crossM (wayM a b) (wayM c d)]) := by
  have bWab := NW.way a b ha hb
  have bWcd := NW.way c d hc hd
  have bCWabWcd := NW.cross bWab bWcd
  have cWab := tW a b ha hb
  have cWcd := tW c d hc hd
  have cCWabWcd := two_cross bWab bWcd (by decide) (by decide)
  refine pv T_ok mixed Tryz.func6 rfl (by decide) _ (by simp [Tryz.ntmps6]) ⟨[0, 1, 2, 3, 4, 5, 6, 7, 8, 9, 10, 11, 12, 13, 14, 15, 16, 17, 18, 19, 20, 21, 22, 23, 24, 25, 26, 27, 28, 35, 36, 53, 70, 88, 116, 143, 161, 179, 203, 230, 276, 287, 298, 314, 322, 330, 369], []⟩ (by kernel_rfl) _ ?_
  show vc T _ _ (Option.get! Tryz.f6.body) _ _
  simp only [Tryz.f6,Tryz.ntmps6,Option.get!,iS,iM,eO,J1]
  simp only [vx,T,K5,J0,K6,K7,↓reduceIte,J1,J2,J3,J4,J5,J6,J7,J8,J9,reduceCtorEq,K1,K2,K3,K4,QsC]
  (repeat refine ⟨by omega, ?_⟩)
  refine Cg cWab.1 ?_
  simp only [vx,T,K5,J0,K6,K7,↓reduceIte,J1,J2,J3,J4,J5,J6,J7,J8,J9,reduceCtorEq,K1,K2,K3,K4,VV,PV,PC,LV,LC,X0,X1]
  (repeat refine ⟨by omega, ?_⟩)
  refine Cg cWcd.1 ?_
  simp only [vx,T,K5,J0,K6,K7,↓reduceIte,J1,J2,J3,J4,J5,J6,J7,J8,J9,reduceCtorEq,K1,K2,K3,K4,VV,PV,PC,LV,LC,X0,X1]
  (repeat refine ⟨by omega, ?_⟩)
  refine Cg cCWabWcd.1 ?_
  simp only [vx,T,K5,J0,K6,K7,↓reduceIte,J1,J2,J3,J4,J5,J6,J7,J8,J9,reduceCtorEq,K1,K2,K3,K4,VV,PV,PC,LV,LC,X0,X1]
  refine Va ⟨rfl, rfl, fun i' j' hi' hj' => ?_⟩
  obtain rfl : j' = 0 := by omega
  obtain rfl : i' = 0 := by omega
  rfl
theorem iOf7 (cs : List Int) (n : Nat) (hn : n < 2 ^ 40) (c3 : C) (s : Int) (a b c d : Nat) (ha : a < 2 ^ 40) (hb : b < 2 ^ 40) (hc : c < 2 ^ 40) (hd : d < 2 ^ 40) : Pr Tryz.prog 6 [.agg [.int .i64 7, .ints .i64 [(a : Int), (b : Int), (c : Int), (d : Int)], .ints .i64 [], c3, .int .i64 s], .one (QsC []), .one (.ints .i64 cs), .one (.int .i64 n)] (LV [dotM (wayM a b) (wayM c d)]) := by
  have bWab := NW.way a b ha hb
  have bWcd := NW.way c d hc hd
  have bDWabWcd := NW.dot bWab bWcd
  have cWab := tW a b ha hb
  have cWcd := tW c d hc hd
  have cDWabWcd := two_dot bWab bWcd (by decide) (by decide)
  refine pv T_ok mixed Tryz.func6 rfl (by decide) _ (by simp [Tryz.ntmps6]) ⟨[0, 1, 2, 3, 4, 5, 6, 7, 8, 9, 10, 11, 12, 13, 14, 15, 16, 17, 18, 19, 20, 21, 22, 23, 24, 25, 26, 27, 28, 35, 36, 53, 70, 88, 116, 143, 161, 179, 203, 230, 276, 287, 298, 314, 322, 330, 369], []⟩ (by kernel_rfl) _ ?_
  show vc T _ _ (Option.get! Tryz.f6.body) _ _
  simp only [Tryz.f6,Tryz.ntmps6,Option.get!,iS,iM,eO,J1]
  simp only [vx,T,K5,J0,K6,K7,↓reduceIte,J1,J2,J3,J4,J5,J6,J7,J8,J9,reduceCtorEq,K1,K2,K3,K4,QsC]
  (repeat refine ⟨by omega, ?_⟩)
  refine Cg cWab.1 ?_
  simp only [vx,T,K5,J0,K6,K7,↓reduceIte,J1,J2,J3,J4,J5,J6,J7,J8,J9,reduceCtorEq,K1,K2,K3,K4,VV,PV,PC,LV,LC,X0,X1]
  (repeat refine ⟨by omega, ?_⟩)
  refine Cg cWcd.1 ?_
  simp only [vx,T,K5,J0,K6,K7,↓reduceIte,J1,J2,J3,J4,J5,J6,J7,J8,J9,reduceCtorEq,K1,K2,K3,K4,VV,PV,PC,LV,LC,X0,X1]
  (repeat refine ⟨by omega, ?_⟩)
  refine Cg cDWabWcd.1 ?_
  simp only [vx,T,K5,J0,K6,K7,↓reduceIte,J1,J2,J3,J4,J5,J6,J7,J8,J9,reduceCtorEq,K1,K2,K3,K4,VV,PV,PC,LV,LC,X0,X1]
  refine Va ⟨rfl, rfl, fun i' j' hi' hj' => ?_⟩
  obtain rfl : j' = 0 := by omega
  obtain rfl : i' = 0 := by omega
  rfl
open Go Go.Eng
theorem iOf8 (cs : List Int) (n : Nat) (hn : n < 2 ^ 40) (c3 : C) (s : Int) (a b c d : Nat) (ha : a < 2 ^ 40) (hb : b < 2 ^ 40) (hc : c < 2 ^ 40) (hd : d < 2 ^ 40) : Pr Tryz.prog 6 [.agg [.int .i64 8, .ints .i64 [(a : Int), (b : Int), (c : Int), (d : Int)], .ints .i64 [], c3, .int .i64 s], .one (QsC []), .one (.ints .i64 cs), .one (.int .i64 n)] (LV [subM (dotM (wayM a b) (wayM a b)) (dotM (wayM c d) (wayM c d))]) := by
  have bWab := NW.way a b ha hb
  have bWcd := NW.way c d hc hd
  have bDWabWab := NW.dot bWab bWab
  have bDWcdWcd := NW.dot bWcd bWcd
  have bS := NF.sub bDWabWab bDWcdWcd
  have cWab := tW a b ha hb
  have cWcd := tW c d hc hd
  have cDWabWab := two_dot bWab bWab (by decide) (by decide)
  have cDWcdWcd := two_dot bWcd bWcd (by decide) (by decide)
  have cS := two_sub bDWabWab bDWcdWcd (by decide)
  refine pv T_ok mixed Tryz.func6 rfl (by decide) _ (by simp [Tryz.ntmps6]) ⟨[0, 1, 2, 3, 4, 5, 6, 7, 8, 9, 10, 11, 12, 13, 14, 15, 16, 17, 18, 19, 20, 21, 22, 23, 24, 25, 26, 27, 28, 35, 36, 53, 70, 88, 116, 143, 161, 179, 203, 230, 276, 287, 298, 314, 322, 330, 369], []⟩ (by kernel_rfl) _ ?_
  show vc T _ _ (Option.get! Tryz.f6.body) _ _
  simp only [Tryz.f6,Tryz.ntmps6,Option.get!,iS,iM,eO,J1]
  simp only [vx,T,K5,J0,K6,K7,↓reduceIte,J1,J2,J3,J4,J5,J6,J7,J8,J9,reduceCtorEq,K1,K2,K3,K4,QsC]
  (repeat refine ⟨by omega, ?_⟩)
  refine Cg cWab.1 ?_
  simp only [vx,T,K5,J0,K6,K7,↓reduceIte,J1,J2,J3,J4,J5,J6,J7,J8,J9,reduceCtorEq,K1,K2,K3,K4,VV,PV,PC,LV,LC,X0,X1]
  (repeat refine ⟨by omega, ?_⟩)
  refine Cg cWcd.1 ?_
  simp only [vx,T,K5,J0,K6,K7,↓reduceIte,J1,J2,J3,J4,J5,J6,J7,J8,J9,reduceCtorEq,K1,K2,K3,K4,VV,PV,PC,LV,LC,X0,X1]
  (repeat refine ⟨by omega, ?_⟩)
  refine Cg cDWabWab.1 ?_
  simp only [vx,T,K5,J0,K6,K7,↓reduceIte,J1,J2,J3,J4,J5,J6,J7,J8,J9,reduceCtorEq,K1,K2,K3,K4,VV,PV,PC,LV,LC,X0,X1]
  (repeat refine ⟨by omega, ?_⟩)
  refine Cg cDWcdWcd.1 ?_
  simp only [vx,T,K5,J0,K6,K7,↓reduceIte,J1,J2,J3,J4,J5,J6,J7,J8,J9,reduceCtorEq,K1,K2,K3,K4,VV,PV,PC,LV,LC,X0,X1]
  (repeat refine ⟨by omega, ?_⟩)
  refine Cg cS.1 ?_
  simp only [vx,T,K5,J0,K6,K7,↓reduceIte,J1,J2,J3,J4,J5,J6,J7,J8,J9,reduceCtorEq,K1,K2,K3,K4,VV,PV,PC,LV,LC,X0,X1]
  refine Va ⟨rfl, rfl, fun i' j' hi' hj' => ?_⟩
  obtain rfl : j' = 0 := by omega
  obtain rfl : i' = 0 := by omega
  rfl
theorem iOf9 (cs : List Int) (n : Nat) (hn : n < 2 ^ 40) (c3 : C) (s : Int) (a b c : Nat) (ha : a < 2 ^ 40) (hb : b < 2 ^ 40) (hc : c < 2 ^ 40) : Pr Tryz.prog 6 [.agg [.int .i64 9, .ints .i64 [(a : Int), (b : Int), (c : Int)], .ints .i64 [], c3, .int .i64 s], .one (QsC []), .one (.ints .i64 cs), .one (.int .i64 n)] (LV [norM ((wayM b a).1 ++ (wayM c a).1), norM ((wayM b a).2 ++ (wayM c a).2)]) := by
  have bWba := NW.way b a hb ha
  have bWca := NW.way c a hc ha
  have bA1 := NF.add bWba.1 bWca.1
  have bA2 := NF.add bWba.2 bWca.2
  have cWba := tW b a hb ha
  have cWca := tW c a hc ha
  have cA1 := two_add bWba.1 bWca.1 (by decide)
  have cA2 := two_add bWba.2 bWca.2 (by decide)
  refine pv T_ok mixed Tryz.func6 rfl (by decide) _ (by simp [Tryz.ntmps6]) ⟨[0, 1, 2, 3, 4, 5, 6, 7, 8, 9, 10, 11, 12, 13, 14, 15, 16, 17, 18, 19, 20, 21, 22, 23, 24, 25, 26, 27, 28, 35, 36, 53, 70, 88, 116, 143, 161, 179, 203, 230, 276, 287, 298, 314, 322, 330, 369], []⟩ (by kernel_rfl) _ ?_
  show vc T _ _ (Option.get! Tryz.f6.body) _ _
  simp only [Tryz.f6,Tryz.ntmps6,Option.get!,iS,iM,eO,J1]
  simp only [vx,T,K5,J0,K6,K7,↓reduceIte,J1,J2,J3,J4,J5,J6,J7,J8,J9,reduceCtorEq,K1,K2,K3,K4,QsC]
  (repeat refine ⟨by omega, ?_⟩)
  refine Cg cWba.1 ?_
  simp only [vx,T,K5,J0,K6,K7,↓reduceIte,J1,J2,J3,J4,J5,J6,J7,J8,J9,reduceCtorEq,K1,K2,K3,K4,VV,PV,PC,LV,LC,X0,X1]
  (repeat refine ⟨by omega, ?_⟩)
  refine Cg cWca.1 ?_
  simp only [vx,T,K5,J0,K6,K7,↓reduceIte,J1,J2,J3,J4,J5,J6,J7,J8,J9,reduceCtorEq,K1,K2,K3,K4,VV,PV,PC,LV,LC,X0,X1]
  (repeat refine ⟨by omega, ?_⟩)
  refine Cg cA1.1 ?_
  simp only [vx,T,K5,J0,K6,K7,↓reduceIte,J1,J2,J3,J4,J5,J6,J7,J8,J9,reduceCtorEq,K1,K2,K3,K4,VV,PV,PC,LV,LC,X0,X1]
  (repeat refine ⟨by omega, ?_⟩)
  refine Cg cA2.1 ?_
  simp only [vx,T,K5,J0,K6,K7,↓reduceIte,J1,J2,J3,J4,J5,J6,J7,J8,J9,reduceCtorEq,K1,K2,K3,K4,VV,PV,PC,LV,LC,X0,X1]
  refine Va ⟨rfl, rfl, fun i' j' hi' hj' => ?_⟩
  obtain rfl : j' = 0 := by omega
  match i', hi' with
  | 0, _ => rfl
  | 1, _ => rfl
theorem iOf10 (cs : List Int) (n : Nat) (hn : n < 2 ^ 40) (c3 : C) (s : Int) (a b c d : Nat) (ha : a < 2 ^ 40) (hb : b < 2 ^ 40) (hc : c < 2 ^ 40) (hd : d < 2 ^ 40) : Pr Tryz.prog 6 [.agg [.int .i64 10, .ints .i64 [(a : Int), (b : Int), (c : Int), (d : Int)], .ints .i64 [], c3, .int .i64 s], .one (QsC []), .one (.ints .i64 cs), .one (.int .i64 n)] (LV [crossM (norM ((wayM c a).1 ++ (wayM c b).1), norM ((wayM c a).2 ++ (wayM c b).2)) (wayM c d), dotM (wayM a b) (wayM c d)]) := by
  have bWca := NW.way c a hc ha
  have bWcb := NW.way c b hc hb
  have bWcd := NW.way c d hc hd
  have bWab := NW.way a b ha hb
  have bA1 := NF.add bWca.1 bWcb.1
  have bA2 := NF.add bWca.2 bWcb.2
  have bU := NW.plus bWca bWcb
  have bCUWcd := NW.cross bU bWcd
  have bDWabWcd := NW.dot bWab bWcd
  have cWca := tW c a hc ha
  have cWcb := tW c b hc hb
  have cWcd := tW c d hc hd
  have cWab := tW a b ha hb
  have cA1 := two_add bWca.1 bWcb.1 (by decide)
  have cA2 := two_add bWca.2 bWcb.2 (by decide)
  have cCUWcd := two_cross bU bWcd (by decide) (by decide)
  have cDWabWcd := two_dot bWab bWcd (by decide) (by decide)
  refine pv T_ok mixed Tryz.func6 rfl (by decide) _ (by simp [Tryz.ntmps6]) ⟨[0, 1, 2, 3, 4, 5, 6, 7, 8, 9, 10, 11, 12, 13, 14, 15, 16, 17, 18, 19, 20, 21, 22, 23, 24, 25, 26, 27, 28, 35, 36, 53, 70, 88, 116, 143, 161, 179, 203, 230, 276, 287, 298, 314, 322, 330, 369], []⟩ (by kernel_rfl) _ ?_
  show vc T _ _ (Option.get! Tryz.f6.body) _ _
  simp only [Tryz.f6,Tryz.ntmps6,Option.get!,iS,iM,eO,J1]
  simp only [vx,T,K5,J0,K6,K7,↓reduceIte,J1,J2,J3,J4,J5,J6,J7,J8,J9,reduceCtorEq,K1,K2,K3,K4,QsC]
  (repeat refine ⟨by omega, ?_⟩)
  refine Cg cWca.1 ?_
  simp only [vx,T,K5,J0,K6,K7,↓reduceIte,J1,J2,J3,J4,J5,J6,J7,J8,J9,reduceCtorEq,K1,K2,K3,K4,VV,PV,PC,LV,LC,X0,X1]
  (repeat refine ⟨by omega, ?_⟩)
  refine Cg cWcb.1 ?_
  simp only [vx,T,K5,J0,K6,K7,↓reduceIte,J1,J2,J3,J4,J5,J6,J7,J8,J9,reduceCtorEq,K1,K2,K3,K4,VV,PV,PC,LV,LC,X0,X1]
  (repeat refine ⟨by omega, ?_⟩)
  refine Cg cWcd.1 ?_
  simp only [vx,T,K5,J0,K6,K7,↓reduceIte,J1,J2,J3,J4,J5,J6,J7,J8,J9,reduceCtorEq,K1,K2,K3,K4,VV,PV,PC,LV,LC,X0,X1]
  (repeat refine ⟨by omega, ?_⟩)
  refine Cg cA1.1 ?_
  simp only [vx,T,K5,J0,K6,K7,↓reduceIte,J1,J2,J3,J4,J5,J6,J7,J8,J9,reduceCtorEq,K1,K2,K3,K4,VV,PV,PC,LV,LC,X0,X1]
  (repeat refine ⟨by omega, ?_⟩)
  refine Cg cA2.1 ?_
  simp only [vx,T,K5,J0,K6,K7,↓reduceIte,J1,J2,J3,J4,J5,J6,J7,J8,J9,reduceCtorEq,K1,K2,K3,K4,VV,PV,PC,LV,LC,X0,X1]
  (repeat refine ⟨by omega, ?_⟩)
  refine Cg cCUWcd.1 ?_
  simp only [vx,T,K5,J0,K6,K7,↓reduceIte,J1,J2,J3,J4,J5,J6,J7,J8,J9,reduceCtorEq,K1,K2,K3,K4,VV,PV,PC,LV,LC,X0,X1]
  (repeat refine ⟨by omega, ?_⟩)
  refine Cg cWab.1 ?_
  simp only [vx,T,K5,J0,K6,K7,↓reduceIte,J1,J2,J3,J4,J5,J6,J7,J8,J9,reduceCtorEq,K1,K2,K3,K4,VV,PV,PC,LV,LC,X0,X1]
  (repeat refine ⟨by omega, ?_⟩)
  refine Cg cDWabWcd.1 ?_
  simp only [vx,T,K5,J0,K6,K7,↓reduceIte,J1,J2,J3,J4,J5,J6,J7,J8,J9,reduceCtorEq,K1,K2,K3,K4,VV,PV,PC,LV,LC,X0,X1]
  refine Va ⟨rfl, rfl, fun i' j' hi' hj' => ?_⟩
  obtain rfl : j' = 0 := by omega
  match i', hi' with
  | 0, _ => rfl
  | 1, _ => rfl
theorem iOf11 (cs : List Int) (n : Nat) (hn : n < 2 ^ 40) (c3 : C) (s : Int) (a b : Nat) (ha : a < 2 ^ 40) (hb : b < 2 ^ 40) : Pr Tryz.prog 6 [.agg [.int .i64 11, .ints .i64 [(a : Int), (b : Int)], .ints .i64 [], c3, .int .i64 s], .one (QsC []), .one (.ints .i64 cs), .one (.int .i64 n)] (LV [(wayM b a).2]) := by
  have bWba := NW.way b a hb ha
  have bS := NF.sub (NF.var (v := 2 * (a : Int) + 1) (by omega) (by omega)) (NF.var (v := 2 * (b : Int) + 1) (by omega) (by omega))
  have cWba := tW b a hb ha
  refine pv T_ok mixed Tryz.func6 rfl (by decide) _ (by simp [Tryz.ntmps6]) ⟨[0, 1, 2, 3, 4, 5, 6, 7, 8, 9, 10, 11, 12, 13, 14, 15, 16, 17, 18, 19, 20, 21, 22, 23, 24, 25, 26, 27, 28, 35, 36, 53, 70, 88, 116, 143, 161, 179, 203, 230, 276, 287, 298, 314, 322, 330, 369], []⟩ (by kernel_rfl) _ ?_
  show vc T _ _ (Option.get! Tryz.f6.body) _ _
  simp only [Tryz.f6,Tryz.ntmps6,Option.get!,iS,iM,eO,J1]
  simp only [vx,T,K5,J0,K6,K7,↓reduceIte,J1,J2,J3,J4,J5,J6,J7,J8,J9,reduceCtorEq,K1,K2,K3,K4,QsC]
  (repeat refine ⟨by omega, ?_⟩)
  refine Cg cWba.1 ?_
  simp only [vx,T,K5,J0,K6,K7,↓reduceIte,J1,J2,J3,J4,J5,J6,J7,J8,J9,reduceCtorEq,K1,K2,K3,K4,VV,PV,PC,LV,LC,X0,X1]
  refine Va ⟨rfl, rfl, fun i' j' hi' hj' => ?_⟩
  obtain rfl : j' = 0 := by omega
  obtain rfl : i' = 0 := by omega
  rfl
theorem iOf12 (cs : List Int) (n : Nat) (hn : n < 2 ^ 40) (c3 : C) (s : Int) (a b : Nat) (ha : a < 2 ^ 40) (hb : b < 2 ^ 40) : Pr Tryz.prog 6 [.agg [.int .i64 12, .ints .i64 [(a : Int), (b : Int)], .ints .i64 [], c3, .int .i64 s], .one (QsC []), .one (.ints .i64 cs), .one (.int .i64 n)] (LV [(wayM b a).1]) := by
  have bWba := NW.way b a hb ha
  have bS := NF.sub (NF.var (v := 2 * (a : Int)) (by omega) (by omega)) (NF.var (v := 2 * (b : Int)) (by omega) (by omega))
  have cWba := tW b a hb ha
  refine pv T_ok mixed Tryz.func6 rfl (by decide) _ (by simp [Tryz.ntmps6]) ⟨[0, 1, 2, 3, 4, 5, 6, 7, 8, 9, 10, 11, 12, 13, 14, 15, 16, 17, 18, 19, 20, 21, 22, 23, 24, 25, 26, 27, 28, 35, 36, 53, 70, 88, 116, 143, 161, 179, 203, 230, 276, 287, 298, 314, 322, 330, 369], []⟩ (by kernel_rfl) _ ?_
  show vc T _ _ (Option.get! Tryz.f6.body) _ _
  simp only [Tryz.f6,Tryz.ntmps6,Option.get!,iS,iM,eO,J1]
  simp only [vx,T,K5,J0,K6,K7,↓reduceIte,J1,J2,J3,J4,J5,J6,J7,J8,J9,reduceCtorEq,K1,K2,K3,K4,QsC]
  (repeat refine ⟨by omega, ?_⟩)
  refine Cg cWba.1 ?_
  simp only [vx,T,K5,J0,K6,K7,↓reduceIte,J1,J2,J3,J4,J5,J6,J7,J8,J9,reduceCtorEq,K1,K2,K3,K4,VV,PV,PC,LV,LC,X0,X1]
  refine Va ⟨rfl, rfl, fun i' j' hi' hj' => ?_⟩
  obtain rfl : j' = 0 := by omega
  obtain rfl : i' = 0 := by omega
  rfl
open Go Go.Eng
theorem iOf14 (cs : List Int) (n : Nat) (hn : n < 2 ^ 40) (c3 : C) (s : Int) (q0 : Rat) (hq0 : qm q0 ≤ 4) (u0 x0 : Nat) (hu0 : u0 < 2 ^ 40) (hl0 : u0 < cs.length) (hx0 : cs.getD u0 0 = (x0 : Int)) (hxl0 : x0 < 2 ^ 40) : Pr Tryz.prog 6 [.agg [.int .i64 14, .ints .i64 [], .ints .i64 [(u0 : Int)], c3, .int .i64 s], .one (QsC [q0]), .one (.ints .i64 cs), .one (.int .i64 n)] (LV [subM (varM (2 * n + u0)) (norM [(q0, [])])]) := by
  have bR0 := NF.var (v := 2 * (n : Int) + u0) (by omega) (by omega)
  have bV0 := NF.num hq0
  have bS := NF.sub bR0 bV0
  have cS := two_sub bR0 bV0 (by decide)
  refine pv T_ok mixed Tryz.func6 rfl (by decide) _ (by simp [Tryz.ntmps6]) ⟨[0, 1, 2, 3, 4, 5, 6, 7, 8, 9, 10, 11, 12, 13, 14, 15, 16, 17, 18, 19, 20, 21, 22, 23, 24, 25, 26, 27, 28, 35, 36, 53, 70, 88, 116, 143, 161, 179, 203, 230, 276, 287, 298, 314, 322, 330, 369], []⟩ (by kernel_rfl) _ ?_
  show vc T _ _ (Option.get! Tryz.f6.body) _ _
  simp only [Tryz.f6,Tryz.ntmps6,Option.get!,iS,iM,eO,J1]
  simp only [vx,T,K5,J0,K6,K7,↓reduceIte,J1,J2,J3,J4,J5,J6,J7,J8,J9,reduceCtorEq,K1,K2,K3,K4,QsC]
  (repeat refine ⟨by omega, ?_⟩)
  refine Cg (ofr_spec n [(u0 : Int)] 0 u0 (by simp) rfl hn hu0 _ _ rfl rfl) ?_
  simp only [vx,T,K5,J0,K6,K7,↓reduceIte,J1,J2,J3,J4,J5,J6,J7,J8,J9,reduceCtorEq,K1,K2,K3,K4,VV,PV,PC,LV,LC,X0,X1]
  (repeat refine ⟨by omega, ?_⟩)
  refine Cg (ofv_spec [q0] 0 (by simp) (by simp) (B := 4) hq0 (by decide) _ rfl) ?_
  simp only [vx,T,K5,J0,K6,K7,↓reduceIte,J1,J2,J3,J4,J5,J6,J7,J8,J9,reduceCtorEq,K1,K2,K3,K4,VV,PV,PC,LV,LC,X0,X1]
  (repeat refine ⟨by omega, ?_⟩)
  refine Cg cS.1 ?_
  simp only [vx,T,K5,J0,K6,K7,↓reduceIte,J1,J2,J3,J4,J5,J6,J7,J8,J9,reduceCtorEq,K1,K2,K3,K4,VV,PV,PC,LV,LC,X0,X1]
  refine Va ⟨rfl, rfl, fun i' j' hi' hj' => ?_⟩
  obtain rfl : j' = 0 := by omega
  obtain rfl : i' = 0 := by omega
  rfl
theorem iOf15 (cs : List Int) (n : Nat) (hn : n < 2 ^ 40) (c3 : C) (s : Int) (u0 x0 : Nat) (hu0 : u0 < 2 ^ 40) (hl0 : u0 < cs.length) (hx0 : cs.getD u0 0 = (x0 : Int)) (hxl0 : x0 < 2 ^ 40) (u1 x1 : Nat) (hu1 : u1 < 2 ^ 40) (hl1 : u1 < cs.length) (hx1 : cs.getD u1 0 = (x1 : Int)) (hxl1 : x1 < 2 ^ 40) : Pr Tryz.prog 6 [.agg [.int .i64 15, .ints .i64 [], .ints .i64 [(u0 : Int), (u1 : Int)], c3, .int .i64 s], .one (QsC []), .one (.ints .i64 cs), .one (.int .i64 n)] (LV [subM (varM (2 * n + u0)) (varM (2 * n + u1))]) := by
  have bR0 := NF.var (v := 2 * (n : Int) + u0) (by omega) (by omega)
  have bR1 := NF.var (v := 2 * (n : Int) + u1) (by omega) (by omega)
  have bS := NF.sub bR0 bR1
  have cS := two_sub bR0 bR1 (by decide)
  refine pv T_ok mixed Tryz.func6 rfl (by decide) _ (by simp [Tryz.ntmps6]) ⟨[0, 1, 2, 3, 4, 5, 6, 7, 8, 9, 10, 11, 12, 13, 14, 15, 16, 17, 18, 19, 20, 21, 22, 23, 24, 25, 26, 27, 28, 35, 36, 53, 70, 88, 116, 143, 161, 179, 203, 230, 276, 287, 298, 314, 322, 330, 369], []⟩ (by kernel_rfl) _ ?_
  show vc T _ _ (Option.get! Tryz.f6.body) _ _
  simp only [Tryz.f6,Tryz.ntmps6,Option.get!,iS,iM,eO,J1]
  simp only [vx,T,K5,J0,K6,K7,↓reduceIte,J1,J2,J3,J4,J5,J6,J7,J8,J9,reduceCtorEq,K1,K2,K3,K4,QsC]
  (repeat refine ⟨by omega, ?_⟩)
  refine Cg (ofr_spec n [(u0 : Int), (u1 : Int)] 0 u0 (by simp) rfl hn hu0 _ _ rfl rfl) ?_
  simp only [vx,T,K5,J0,K6,K7,↓reduceIte,J1,J2,J3,J4,J5,J6,J7,J8,J9,reduceCtorEq,K1,K2,K3,K4,VV,PV,PC,LV,LC,X0,X1]
  (repeat refine ⟨by omega, ?_⟩)
  refine Cg (ofr_spec n [(u0 : Int), (u1 : Int)] 1 u1 (by simp) rfl hn hu1 _ _ rfl rfl) ?_
  simp only [vx,T,K5,J0,K6,K7,↓reduceIte,J1,J2,J3,J4,J5,J6,J7,J8,J9,reduceCtorEq,K1,K2,K3,K4,VV,PV,PC,LV,LC,X0,X1]
  (repeat refine ⟨by omega, ?_⟩)
  refine Cg cS.1 ?_
  simp only [vx,T,K5,J0,K6,K7,↓reduceIte,J1,J2,J3,J4,J5,J6,J7,J8,J9,reduceCtorEq,K1,K2,K3,K4,VV,PV,PC,LV,LC,X0,X1]
  refine Va ⟨rfl, rfl, fun i' j' hi' hj' => ?_⟩
  obtain rfl : j' = 0 := by omega
  obtain rfl : i' = 0 := by omega
  rfl
theorem iOf16 (cs : List Int) (n : Nat) (hn : n < 2 ^ 40) (c3 : C) (s : Int) (a b : Nat) (ha : a < 2 ^ 40) (hb : b < 2 ^ 40) (u0 x0 : Nat) (hu0 : u0 < 2 ^ 40) (hl0 : u0 < cs.length) (hx0 : cs.getD u0 0 = (x0 : Int)) (hxl0 : x0 < 2 ^ 40) : Pr Tryz.prog 6 [.agg [.int .i64 16, .ints .i64 [(a : Int), (b : Int)], .ints .i64 [(u0 : Int)], c3, .int .i64 s], .one (QsC []), .one (.ints .i64 cs), .one (.int .i64 n)] (LV [subM (mulM (crossM (wayM a b) (wayM a x0)) (crossM (wayM a b) (wayM a x0))) (mulM (mulM (varM (2 * n + u0)) (varM (2 * n + u0))) (dotM (wayM a b) (wayM a b)))]) := by
  have bR0 := NF.var (v := 2 * (n : Int) + u0) (by omega) (by omega)
  have bWab := NW.way a b ha hb
  have bWax0 := NW.way a x0 ha hxl0
  have bCWabWax0 := NW.cross bWab bWax0
  have bQ := NF.mul bCWabWax0 bCWabWax0
  have bQ2 := NF.mul bR0 bR0
  have bDWabWab := NW.dot bWab bWab
  have bM := NF.mul bQ2 bDWabWab
  have bS := NF.sub bQ bM
  have cWab := tW a b ha hb
  have cWax0 := tW a x0 ha hxl0
  have cCWabWax0 := two_cross bWab bWax0 (by decide) (by decide)
  have cQ := two_sq bCWabWax0 (by decide)
  have cQ2 := two_sq bR0 (by decide)
  have cDWabWab := two_dot bWab bWab (by decide) (by decide)
  have cM := two_mul bQ2 bDWabWab (by decide)
  have cS := two_sub bQ bM (by decide)
  refine pv T_ok mixed Tryz.func6 rfl (by decide) _ (by simp [Tryz.ntmps6]) ⟨[0, 1, 2, 3, 4, 5, 6, 7, 8, 9, 10, 11, 12, 13, 14, 15, 16, 17, 18, 19, 20, 21, 22, 23, 24, 25, 26, 27, 28, 35, 36, 53, 70, 88, 116, 143, 161, 179, 203, 230, 276, 287, 298, 314, 322, 330, 369], []⟩ (by kernel_rfl) _ ?_
  show vc T _ _ (Option.get! Tryz.f6.body) _ _
  simp only [Tryz.f6,Tryz.ntmps6,Option.get!,iS,iM,eO,J1]
  simp only [vx,T,K5,J0,K6,K7,↓reduceIte,J1,J2,J3,J4,J5,J6,J7,J8,J9,reduceCtorEq,K1,K2,K3,K4,QsC]
  (repeat refine ⟨by omega, ?_⟩)
  refine Cg cWab.1 ?_
  simp only [vx,T,K5,J0,K6,K7,↓reduceIte,J1,J2,J3,J4,J5,J6,J7,J8,J9,reduceCtorEq,K1,K2,K3,K4,VV,PV,PC,LV,LC,X0,X1]
  (repeat refine ⟨by omega, ?_⟩)
  refine Cg (ofc_spec cs [(u0 : Int)] 0 u0 (by simp) rfl hl0 _ _ rfl rfl) ?_
  rw [hx0]
  simp only [vx,T,K5,J0,K6,K7,↓reduceIte,J1,J2,J3,J4,J5,J6,J7,J8,J9,reduceCtorEq,K1,K2,K3,K4,VV,PV,PC,LV,LC,X0,X1]
  (repeat refine ⟨by omega, ?_⟩)
  refine Cg cWax0.1 ?_
  simp only [vx,T,K5,J0,K6,K7,↓reduceIte,J1,J2,J3,J4,J5,J6,J7,J8,J9,reduceCtorEq,K1,K2,K3,K4,VV,PV,PC,LV,LC,X0,X1]
  (repeat refine ⟨by omega, ?_⟩)
  refine Cg cCWabWax0.1 ?_
  simp only [vx,T,K5,J0,K6,K7,↓reduceIte,J1,J2,J3,J4,J5,J6,J7,J8,J9,reduceCtorEq,K1,K2,K3,K4,VV,PV,PC,LV,LC,X0,X1]
  (repeat refine ⟨by omega, ?_⟩)
  refine Cg cQ.1 ?_
  simp only [vx,T,K5,J0,K6,K7,↓reduceIte,J1,J2,J3,J4,J5,J6,J7,J8,J9,reduceCtorEq,K1,K2,K3,K4,VV,PV,PC,LV,LC,X0,X1]
  (repeat refine ⟨by omega, ?_⟩)
  refine Cg (ofr_spec n [(u0 : Int)] 0 u0 (by simp) rfl hn hu0 _ _ rfl rfl) ?_
  simp only [vx,T,K5,J0,K6,K7,↓reduceIte,J1,J2,J3,J4,J5,J6,J7,J8,J9,reduceCtorEq,K1,K2,K3,K4,VV,PV,PC,LV,LC,X0,X1]
  (repeat refine ⟨by omega, ?_⟩)
  refine Cg cQ2.1 ?_
  simp only [vx,T,K5,J0,K6,K7,↓reduceIte,J1,J2,J3,J4,J5,J6,J7,J8,J9,reduceCtorEq,K1,K2,K3,K4,VV,PV,PC,LV,LC,X0,X1]
  (repeat refine ⟨by omega, ?_⟩)
  refine Cg cDWabWab.1 ?_
  simp only [vx,T,K5,J0,K6,K7,↓reduceIte,J1,J2,J3,J4,J5,J6,J7,J8,J9,reduceCtorEq,K1,K2,K3,K4,VV,PV,PC,LV,LC,X0,X1]
  (repeat refine ⟨by omega, ?_⟩)
  refine Cg cM.1 ?_
  simp only [vx,T,K5,J0,K6,K7,↓reduceIte,J1,J2,J3,J4,J5,J6,J7,J8,J9,reduceCtorEq,K1,K2,K3,K4,VV,PV,PC,LV,LC,X0,X1]
  (repeat refine ⟨by omega, ?_⟩)
  refine Cg cS.1 ?_
  simp only [vx,T,K5,J0,K6,K7,↓reduceIte,J1,J2,J3,J4,J5,J6,J7,J8,J9,reduceCtorEq,K1,K2,K3,K4,VV,PV,PC,LV,LC,X0,X1]
  refine Va ⟨rfl, rfl, fun i' j' hi' hj' => ?_⟩
  obtain rfl : j' = 0 := by omega
  obtain rfl : i' = 0 := by omega
  rfl
theorem iOf17p (cs : List Int) (n : Nat) (hn : n < 2 ^ 40) (c3 : C) (u0 x0 : Nat) (hu0 : u0 < 2 ^ 40) (hl0 : u0 < cs.length) (hx0 : cs.getD u0 0 = (x0 : Int)) (hxl0 : x0 < 2 ^ 40) (u1 x1 : Nat) (hu1 : u1 < 2 ^ 40) (hl1 : u1 < cs.length) (hx1 : cs.getD u1 0 = (x1 : Int)) (hxl1 : x1 < 2 ^ 40) : Pr Tryz.prog 6 [.agg [.int .i64 17, .ints .i64 [], .ints .i64 [(u0 : Int), (u1 : Int)], c3, .int .i64 1], .one (QsC []), .one (.ints .i64 cs), .one (.int .i64 n)] (LV [subM (dotM (wayM x0 x1) (wayM x0 x1)) (mulM (norM ((varM (2 * n + u0)) ++ (varM (2 * n + u1)))) (norM ((varM (2 * n + u0)) ++ (varM (2 * n + u1)))))]) := by
  have bR0 := NF.var (v := 2 * (n : Int) + u0) (by omega) (by omega)
  have bR1 := NF.var (v := 2 * (n : Int) + u1) (by omega) (by omega)
  have bWxx := NW.way x0 x1 hxl0 hxl1
  have bA := NF.add bR0 bR1
  have bDWxxWxx := NW.dot bWxx bWxx
  have bQ := NF.mul bA bA
  have bS := NF.sub bDWxxWxx bQ
  have cWxx := tW x0 x1 hxl0 hxl1
  have cA := two_add bR0 bR1 (by decide)
  have cDWxxWxx := two_dot bWxx bWxx (by decide) (by decide)
  have cQ := two_sq bA (by decide)
  have cS := two_sub bDWxxWxx bQ (by decide)
  refine pv T_ok mixed Tryz.func6 rfl (by decide) _ (by simp [Tryz.ntmps6]) ⟨[0, 1, 2, 3, 4, 5, 6, 7, 8, 9, 10, 11, 12, 13, 14, 15, 16, 17, 18, 19, 20, 21, 22, 23, 24, 25, 26, 27, 28, 35, 36, 53, 70, 88, 116, 143, 161, 179, 203, 230, 276, 287, 298, 314, 322, 330, 369], []⟩ (by kernel_rfl) _ ?_
  show vc T _ _ (Option.get! Tryz.f6.body) _ _
  simp only [Tryz.f6,Tryz.ntmps6,Option.get!,iS,iM,eO,J1]
  simp only [vx,T,K5,J0,K6,K7,↓reduceIte,J1,J2,J3,J4,J5,J6,J7,J8,J9,reduceCtorEq,K1,K2,K3,K4,QsC]
  (repeat refine ⟨by omega, ?_⟩)
  refine Cg (ofc_spec cs [(u0 : Int), (u1 : Int)] 0 u0 (by simp) rfl hl0 _ _ rfl rfl) ?_
  rw [hx0]
  simp only [vx,T,K5,J0,K6,K7,↓reduceIte,J1,J2,J3,J4,J5,J6,J7,J8,J9,reduceCtorEq,K1,K2,K3,K4,VV,PV,PC,LV,LC,X0,X1]
  (repeat refine ⟨by omega, ?_⟩)
  refine Cg (ofc_spec cs [(u0 : Int), (u1 : Int)] 1 u1 (by simp) rfl hl1 _ _ rfl rfl) ?_
  rw [hx1]
  simp only [vx,T,K5,J0,K6,K7,↓reduceIte,J1,J2,J3,J4,J5,J6,J7,J8,J9,reduceCtorEq,K1,K2,K3,K4,VV,PV,PC,LV,LC,X0,X1]
  (repeat refine ⟨by omega, ?_⟩)
  refine Cg cWxx.1 ?_
  simp only [vx,T,K5,J0,K6,K7,↓reduceIte,J1,J2,J3,J4,J5,J6,J7,J8,J9,reduceCtorEq,K1,K2,K3,K4,VV,PV,PC,LV,LC,X0,X1]
  (repeat refine ⟨by omega, ?_⟩)
  refine Cg (ofr_spec n [(u0 : Int), (u1 : Int)] 0 u0 (by simp) rfl hn hu0 _ _ rfl rfl) ?_
  simp only [vx,T,K5,J0,K6,K7,↓reduceIte,J1,J2,J3,J4,J5,J6,J7,J8,J9,reduceCtorEq,K1,K2,K3,K4,VV,PV,PC,LV,LC,X0,X1]
  (repeat refine ⟨by omega, ?_⟩)
  refine Cg (ofr_spec n [(u0 : Int), (u1 : Int)] 1 u1 (by simp) rfl hn hu1 _ _ rfl rfl) ?_
  simp only [vx,T,K5,J0,K6,K7,↓reduceIte,J1,J2,J3,J4,J5,J6,J7,J8,J9,reduceCtorEq,K1,K2,K3,K4,VV,PV,PC,LV,LC,X0,X1]
  (repeat refine ⟨by omega, ?_⟩)
  refine Cg cA.1 ?_
  simp only [vx,T,K5,J0,K6,K7,↓reduceIte,J1,J2,J3,J4,J5,J6,J7,J8,J9,reduceCtorEq,K1,K2,K3,K4,VV,PV,PC,LV,LC,X0,X1]
  (repeat refine ⟨by omega, ?_⟩)
  refine Cg cDWxxWxx.1 ?_
  simp only [vx,T,K5,J0,K6,K7,↓reduceIte,J1,J2,J3,J4,J5,J6,J7,J8,J9,reduceCtorEq,K1,K2,K3,K4,VV,PV,PC,LV,LC,X0,X1]
  (repeat refine ⟨by omega, ?_⟩)
  refine Cg cQ.1 ?_
  simp only [vx,T,K5,J0,K6,K7,↓reduceIte,J1,J2,J3,J4,J5,J6,J7,J8,J9,reduceCtorEq,K1,K2,K3,K4,VV,PV,PC,LV,LC,X0,X1]
  (repeat refine ⟨by omega, ?_⟩)
  refine Cg cS.1 ?_
  simp only [vx,T,K5,J0,K6,K7,↓reduceIte,J1,J2,J3,J4,J5,J6,J7,J8,J9,reduceCtorEq,K1,K2,K3,K4,VV,PV,PC,LV,LC,X0,X1]
  refine Va ⟨rfl, rfl, fun i' j' hi' hj' => ?_⟩
  obtain rfl : j' = 0 := by omega
  obtain rfl : i' = 0 := by omega
  rfl
theorem iOf17m (cs : List Int) (n : Nat) (hn : n < 2 ^ 40) (c3 : C) (u0 x0 : Nat) (hu0 : u0 < 2 ^ 40) (hl0 : u0 < cs.length) (hx0 : cs.getD u0 0 = (x0 : Int)) (hxl0 : x0 < 2 ^ 40) (u1 x1 : Nat) (hu1 : u1 < 2 ^ 40) (hl1 : u1 < cs.length) (hx1 : cs.getD u1 0 = (x1 : Int)) (hxl1 : x1 < 2 ^ 40) : Pr Tryz.prog 6 [.agg [.int .i64 17, .ints .i64 [], .ints .i64 [(u0 : Int), (u1 : Int)], c3, .int .i64 (-1)], .one (QsC []), .one (.ints .i64 cs), .one (.int .i64 n)] (LV [subM (dotM (wayM x0 x1) (wayM x0 x1)) (mulM (subM (varM (2 * n + u0)) (varM (2 * n + u1))) (subM (varM (2 * n + u0)) (varM (2 * n + u1))))]) := by
  have bR0 := NF.var (v := 2 * (n : Int) + u0) (by omega) (by omega)
  have bR1 := NF.var (v := 2 * (n : Int) + u1) (by omega) (by omega)
  have bWxx := NW.way x0 x1 hxl0 hxl1
  have bA := NF.add bR0 bR1
  have bZ := NF.sub bR0 bR1
  have bDWxxWxx := NW.dot bWxx bWxx
  have bQ := NF.mul bZ bZ
  have bS := NF.sub bDWxxWxx bQ
  have cWxx := tW x0 x1 hxl0 hxl1
  have cA := two_add bR0 bR1 (by decide)
  have cZ := two_sub bR0 bR1 (by decide)
  have cDWxxWxx := two_dot bWxx bWxx (by decide) (by decide)
  have cQ := two_sq bZ (by decide)
  have cS := two_sub bDWxxWxx bQ (by decide)
  refine pv T_ok mixed Tryz.func6 rfl (by decide) _ (by simp [Tryz.ntmps6]) ⟨[0, 1, 2, 3, 4, 5, 6, 7, 8, 9, 10, 11, 12, 13, 14, 15, 16, 17, 18, 19, 20, 21, 22, 23, 24, 25, 26, 27, 28, 35, 36, 53, 70, 88, 116, 143, 161, 179, 203, 230, 276, 287, 298, 314, 322, 330, 369], []⟩ (by kernel_rfl) _ ?_
  show vc T _ _ (Option.get! Tryz.f6.body) _ _
  simp only [Tryz.f6,Tryz.ntmps6,Option.get!,iS,iM,eO,J1]
  simp only [vx,T,K5,J0,K6,K7,↓reduceIte,J1,J2,J3,J4,J5,J6,J7,J8,J9,reduceCtorEq,K1,K2,K3,K4,QsC]
  (repeat refine ⟨by omega, ?_⟩)
  refine Cg (ofc_spec cs [(u0 : Int), (u1 : Int)] 0 u0 (by simp) rfl hl0 _ _ rfl rfl) ?_
  rw [hx0]
  simp only [vx,T,K5,J0,K6,K7,↓reduceIte,J1,J2,J3,J4,J5,J6,J7,J8,J9,reduceCtorEq,K1,K2,K3,K4,VV,PV,PC,LV,LC,X0,X1]
  (repeat refine ⟨by omega, ?_⟩)
  refine Cg (ofc_spec cs [(u0 : Int), (u1 : Int)] 1 u1 (by simp) rfl hl1 _ _ rfl rfl) ?_
  rw [hx1]
  simp only [vx,T,K5,J0,K6,K7,↓reduceIte,J1,J2,J3,J4,J5,J6,J7,J8,J9,reduceCtorEq,K1,K2,K3,K4,VV,PV,PC,LV,LC,X0,X1]
  (repeat refine ⟨by omega, ?_⟩)
  refine Cg cWxx.1 ?_
  simp only [vx,T,K5,J0,K6,K7,↓reduceIte,J1,J2,J3,J4,J5,J6,J7,J8,J9,reduceCtorEq,K1,K2,K3,K4,VV,PV,PC,LV,LC,X0,X1]
  (repeat refine ⟨by omega, ?_⟩)
  refine Cg (ofr_spec n [(u0 : Int), (u1 : Int)] 0 u0 (by simp) rfl hn hu0 _ _ rfl rfl) ?_
  simp only [vx,T,K5,J0,K6,K7,↓reduceIte,J1,J2,J3,J4,J5,J6,J7,J8,J9,reduceCtorEq,K1,K2,K3,K4,VV,PV,PC,LV,LC,X0,X1]
  (repeat refine ⟨by omega, ?_⟩)
  refine Cg (ofr_spec n [(u0 : Int), (u1 : Int)] 1 u1 (by simp) rfl hn hu1 _ _ rfl rfl) ?_
  simp only [vx,T,K5,J0,K6,K7,↓reduceIte,J1,J2,J3,J4,J5,J6,J7,J8,J9,reduceCtorEq,K1,K2,K3,K4,VV,PV,PC,LV,LC,X0,X1]
  (repeat refine ⟨by omega, ?_⟩)
  refine Cg cA.1 ?_
  simp only [vx,T,K5,J0,K6,K7,↓reduceIte,J1,J2,J3,J4,J5,J6,J7,J8,J9,reduceCtorEq,K1,K2,K3,K4,VV,PV,PC,LV,LC,X0,X1]
  (repeat refine ⟨by omega, ?_⟩)
  refine Cg (ofr_spec n [(u0 : Int), (u1 : Int)] 0 u0 (by simp) rfl hn hu0 _ _ rfl rfl) ?_
  simp only [vx,T,K5,J0,K6,K7,↓reduceIte,J1,J2,J3,J4,J5,J6,J7,J8,J9,reduceCtorEq,K1,K2,K3,K4,VV,PV,PC,LV,LC,X0,X1]
  (repeat refine ⟨by omega, ?_⟩)
  refine Cg (ofr_spec n [(u0 : Int), (u1 : Int)] 1 u1 (by simp) rfl hn hu1 _ _ rfl rfl) ?_
  simp only [vx,T,K5,J0,K6,K7,↓reduceIte,J1,J2,J3,J4,J5,J6,J7,J8,J9,reduceCtorEq,K1,K2,K3,K4,VV,PV,PC,LV,LC,X0,X1]
  (repeat refine ⟨by omega, ?_⟩)
  refine Cg cZ.1 ?_
  simp only [vx,T,K5,J0,K6,K7,↓reduceIte,J1,J2,J3,J4,J5,J6,J7,J8,J9,reduceCtorEq,K1,K2,K3,K4,VV,PV,PC,LV,LC,X0,X1]
  (repeat refine ⟨by omega, ?_⟩)
  refine Cg cDWxxWxx.1 ?_
  simp only [vx,T,K5,J0,K6,K7,↓reduceIte,J1,J2,J3,J4,J5,J6,J7,J8,J9,reduceCtorEq,K1,K2,K3,K4,VV,PV,PC,LV,LC,X0,X1]
  (repeat refine ⟨by omega, ?_⟩)
  refine Cg cQ.1 ?_
  simp only [vx,T,K5,J0,K6,K7,↓reduceIte,J1,J2,J3,J4,J5,J6,J7,J8,J9,reduceCtorEq,K1,K2,K3,K4,VV,PV,PC,LV,LC,X0,X1]
  (repeat refine ⟨by omega, ?_⟩)
  refine Cg cS.1 ?_
  simp only [vx,T,K5,J0,K6,K7,↓reduceIte,J1,J2,J3,J4,J5,J6,J7,J8,J9,reduceCtorEq,K1,K2,K3,K4,VV,PV,PC,LV,LC,X0,X1]
  refine Va ⟨rfl, rfl, fun i' j' hi' hj' => ?_⟩
  obtain rfl : j' = 0 := by omega
  obtain rfl : i' = 0 := by omega
  rfl
open Go Go.Eng
theorem rOf1 (cs : List Int) (n : Nat) (hn : n < 2 ^ 40) (c3 : C) (s : Int) (a : Nat) (ha : a < 2 ^ 40) (q0 : Rat) (hq0 : qm q0 ≤ 4) (q1 : Rat) (hq1 : qm q1 ≤ 4) : Pr Tryz.prog 9 [.agg [.int .i64 1, .ints .i64 [(a : Int)], .ints .i64 [], c3, .int .i64 s], .one (QsC [q0, q1]), .one (.ints .i64 cs), .one (.int .i64 n)] (LV [subM (ptM a).1 (norM [(q0, [])]), subM (ptM a).2 (norM [(q1, [])])]) := by
  have bV0 := NF.num hq0
  have bV1 := NF.num hq1
  have bS0 := NF.sub (NF.var (v := 2 * (a : Int)) (by omega) (by omega)) bV0
  have bS1 := NF.sub (NF.var (v := 2 * (a : Int) + 1) (by omega) (by omega)) bV1
  have cPa := two_pt a ha
  have cS0 := two_sub (NF.var (v := 2 * (a : Int)) (by omega) (by omega)) bV0 (by decide)
  have cS1 := two_sub (NF.var (v := 2 * (a : Int) + 1) (by omega) (by omega)) bV1 (by decide)
  refine pv T_ok mixed Tryz.func9 rfl (by decide) _ (by simp [Tryz.ntmps9]) ⟨[0, 1, 2, 3, 4, 8, 9, 10, 11, 12, 13, 14, 15, 16, 17, 18, 19, 20, 21, 31, 69, 88, 105, 106, 126, 135, 141, 155, 167, 173, 179, 189, 211, 234, 248, 262, 276, 282, 288, 311], [(9, .nil), (11, .nil)]⟩ (by kernel_rfl) _ ?_
  show vc T _ _ (Option.get! Tryz.f9.body) _ _
  simp only [Tryz.f9,Tryz.ntmps9,Option.get!,iS,iM,eO,J1]
  simp only [vx,T,K5,J0,K6,K7,↓reduceIte,J1,J2,J3,J4,J5,J6,J7,J8,J9,reduceCtorEq,K1,K2,K3,K4,QsC,qC]
  refine ⟨fun _ => Lg ?_, fun h => absurd (by simp) h⟩
  simp only [vx,T,K5,J0,K6,K7,↓reduceIte,J1,J2,J3,J4,J5,J6,J7,J8,J9,reduceCtorEq,K1,K2,K3,K4,VV,PV,PC,LV,LC,X0,X1,QV,QC,qC]
  (repeat refine ⟨by omega, ?_⟩)
  refine Cg (two_num q0 hq0 (by decide)).2 ?_
  simp only [vx,T,K5,J0,K6,K7,↓reduceIte,J1,J2,J3,J4,J5,J6,J7,J8,J9,reduceCtorEq,K1,K2,K3,K4,VV,PV,PC,LV,LC,X0,X1,QV,QC,qC]
  (repeat refine ⟨by omega, ?_⟩)
  refine Cg (tW a 0 ha (by decide)).2 ?_
  simp only [vx,T,K5,J0,K6,K7,↓reduceIte,J1,J2,J3,J4,J5,J6,J7,J8,J9,reduceCtorEq,K1,K2,K3,K4,VV,PV,PC,LV,LC,X0,X1,QV,QC,qC]
  (repeat refine ⟨by omega, ?_⟩)
  refine Cg (tW 0 0 (by decide) (by decide)).2 ?_
  simp only [vx,T,K5,J0,K6,K7,↓reduceIte,J1,J2,J3,J4,J5,J6,J7,J8,J9,reduceCtorEq,K1,K2,K3,K4,VV,PV,PC,LV,LC,X0,X1,QV,QC,qC]
  (repeat refine ⟨by omega, ?_⟩)
  refine Cg (tW 0 a (by decide) ha).2 ?_
  simp only [vx,T,K5,J0,K6,K7,↓reduceIte,J1,J2,J3,J4,J5,J6,J7,J8,J9,reduceCtorEq,K1,K2,K3,K4,VV,PV,PC,LV,LC,X0,X1,QV,QC,qC]
  (repeat refine ⟨by omega, ?_⟩)
  refine Cg (tW 0 0 (by decide) (by decide)).2 ?_
  simp only [vx,T,K5,J0,K6,K7,↓reduceIte,J1,J2,J3,J4,J5,J6,J7,J8,J9,reduceCtorEq,K1,K2,K3,K4,VV,PV,PC,LV,LC,X0,X1,QV,QC,qC]
  refine ⟨fun h => absurd h (by simp), fun _ => Lg ?_⟩
  simp only [vx,T,K5,J0,K6,K7,↓reduceIte,J1,J2,J3,J4,J5,J6,J7,J8,J9,reduceCtorEq,K1,K2,K3,K4,VV,PV,PC,LV,LC,X0,X1,QV,QC,qC]
  refine ⟨fun h => absurd h (by simp), fun _ => Lg ?_⟩
  simp only [vx,T,K5,J0,K6,K7,↓reduceIte,J1,J2,J3,J4,J5,J6,J7,J8,J9,reduceCtorEq,K1,K2,K3,K4,VV,PV,PC,LV,LC,X0,X1,QV,QC,qC]
  (repeat refine ⟨by omega, ?_⟩)
  refine Cg cPa.2 ?_
  simp only [vx,T,K5,J0,K6,K7,↓reduceIte,J1,J2,J3,J4,J5,J6,J7,J8,J9,reduceCtorEq,K1,K2,K3,K4,VV,PV,PC,LV,LC,X0,X1,QV,QC,qC]
  (repeat refine ⟨by omega, ?_⟩)
  refine Cg cS0.2 ?_
  simp only [vx,T,K5,J0,K6,K7,↓reduceIte,J1,J2,J3,J4,J5,J6,J7,J8,J9,reduceCtorEq,K1,K2,K3,K4,VV,PV,PC,LV,LC,X0,X1,QV,QC,qC]
  (repeat refine ⟨by omega, ?_⟩)
  refine Cg cPa.2 ?_
  simp only [vx,T,K5,J0,K6,K7,↓reduceIte,J1,J2,J3,J4,J5,J6,J7,J8,J9,reduceCtorEq,K1,K2,K3,K4,VV,PV,PC,LV,LC,X0,X1,QV,QC,qC]
  (repeat refine ⟨by omega, ?_⟩)
  refine Cg (two_num q1 hq1 (by decide)).2 ?_
  simp only [vx,T,K5,J0,K6,K7,↓reduceIte,J1,J2,J3,J4,J5,J6,J7,J8,J9,reduceCtorEq,K1,K2,K3,K4,VV,PV,PC,LV,LC,X0,X1,QV,QC,qC]
  (repeat refine ⟨by omega, ?_⟩)
  refine Cg cS1.2 ?_
  simp only [vx,T,K5,J0,K6,K7,↓reduceIte,J1,J2,J3,J4,J5,J6,J7,J8,J9,reduceCtorEq,K1,K2,K3,K4,VV,PV,PC,LV,LC,X0,X1,QV,QC,qC]
  refine Va ⟨rfl, rfl, fun i' j' hi' hj' => ?_⟩
  obtain rfl : j' = 0 := by omega
  match i', hi' with
  | 0, _ => rfl
  | 1, _ => rfl
theorem rOf2 (cs : List Int) (n : Nat) (hn : n < 2 ^ 40) (c3 : C) (s : Int) (a b : Nat) (ha : a < 2 ^ 40) (hb : b < 2 ^ 40) (q0 : Rat) (hq0 : qm q0 ≤ 4) : Pr Tryz.prog 9 [.agg [.int .i64 2, .ints .i64 [(a : Int), (b : Int)], .ints .i64 [], c3, .int .i64 s], .one (QsC [q0]), .one (.ints .i64 cs), .one (.int .i64 n)] (LV [subM (dotM (wayM a b) (wayM a b)) (mulM (norM [(q0, [])]) (norM [(q0, [])]))]) := by
  have bV0 := NF.num hq0
  have bWab := NW.way a b ha hb
  have bDWabWab := NW.dot bWab bWab
  have bQ := NF.mul bV0 bV0
  have bS := NF.sub bDWabWab bQ
  have cDWabWab := two_dot bWab bWab (by decide) (by decide)
  have cQ := two_sq bV0 (by decide)
  have cS := two_sub bDWabWab bQ (by decide)
  refine pv T_ok mixed Tryz.func9 rfl (by decide) _ (by simp [Tryz.ntmps9]) ⟨[0, 1, 2, 3, 4, 8, 9, 10, 11, 12, 13, 14, 15, 16, 17, 18, 19, 20, 21, 31, 69, 88, 105, 106, 126, 135, 141, 155, 167, 173, 179, 189, 211, 234, 248, 262, 276, 282, 288, 311], [(9, .nil), (11, .nil)]⟩ (by kernel_rfl) _ ?_
  show vc T _ _ (Option.get! Tryz.f9.body) _ _
  simp only [Tryz.f9,Tryz.ntmps9,Option.get!,iS,iM,eO,J1]
  simp only [vx,T,K5,J0,K6,K7,↓reduceIte,J1,J2,J3,J4,J5,J6,J7,J8,J9,reduceCtorEq,K1,K2,K3,K4,QsC,qC]
  refine ⟨fun _ => Lg ?_, fun h => absurd (by simp) h⟩
  simp only [vx,T,K5,J0,K6,K7,↓reduceIte,J1,J2,J3,J4,J5,J6,J7,J8,J9,reduceCtorEq,K1,K2,K3,K4,VV,PV,PC,LV,LC,X0,X1,QV,QC,qC]
  (repeat refine ⟨by omega, ?_⟩)
  refine Cg (two_num q0 hq0 (by decide)).2 ?_
  simp only [vx,T,K5,J0,K6,K7,↓reduceIte,J1,J2,J3,J4,J5,J6,J7,J8,J9,reduceCtorEq,K1,K2,K3,K4,VV,PV,PC,LV,LC,X0,X1,QV,QC,qC]
  (repeat refine ⟨by omega, ?_⟩)
  refine Cg (tW a b ha hb).2 ?_
  simp only [vx,T,K5,J0,K6,K7,↓reduceIte,J1,J2,J3,J4,J5,J6,J7,J8,J9,reduceCtorEq,K1,K2,K3,K4,VV,PV,PC,LV,LC,X0,X1,QV,QC,qC]
  (repeat refine ⟨by omega, ?_⟩)
  refine Cg (tW b 0 hb (by decide)).2 ?_
  simp only [vx,T,K5,J0,K6,K7,↓reduceIte,J1,J2,J3,J4,J5,J6,J7,J8,J9,reduceCtorEq,K1,K2,K3,K4,VV,PV,PC,LV,LC,X0,X1,QV,QC,qC]
  (repeat refine ⟨by omega, ?_⟩)
  refine Cg (tW b a hb ha).2 ?_
  simp only [vx,T,K5,J0,K6,K7,↓reduceIte,J1,J2,J3,J4,J5,J6,J7,J8,J9,reduceCtorEq,K1,K2,K3,K4,VV,PV,PC,LV,LC,X0,X1,QV,QC,qC]
  (repeat refine ⟨by omega, ?_⟩)
  refine Cg (tW 0 0 (by decide) (by decide)).2 ?_
  simp only [vx,T,K5,J0,K6,K7,↓reduceIte,J1,J2,J3,J4,J5,J6,J7,J8,J9,reduceCtorEq,K1,K2,K3,K4,VV,PV,PC,LV,LC,X0,X1,QV,QC,qC]
  refine ⟨fun h => absurd h (by simp), fun _ => Lg ?_⟩
  simp only [vx,T,K5,J0,K6,K7,↓reduceIte,J1,J2,J3,J4,J5,J6,J7,J8,J9,reduceCtorEq,K1,K2,K3,K4,VV,PV,PC,LV,LC,X0,X1,QV,QC,qC]
  refine ⟨fun h => absurd h (by simp), fun _ => Lg ?_⟩
  simp only [vx,T,K5,J0,K6,K7,↓reduceIte,J1,J2,J3,J4,J5,J6,J7,J8,J9,reduceCtorEq,K1,K2,K3,K4,VV,PV,PC,LV,LC,X0,X1,QV,QC,qC]
  (repeat refine ⟨by omega, ?_⟩)
  refine Cg cDWabWab.2 ?_
  simp only [vx,T,K5,J0,K6,K7,↓reduceIte,J1,J2,J3,J4,J5,J6,J7,J8,J9,reduceCtorEq,K1,K2,K3,K4,VV,PV,PC,LV,LC,X0,X1,QV,QC,qC]
  (repeat refine ⟨by omega, ?_⟩)
  refine Cg cQ.2 ?_
  simp only [vx,T,K5,J0,K6,K7,↓reduceIte,J1,J2,J3,J4,J5,J6,J7,J8,J9,reduceCtorEq,K1,K2,K3,K4,VV,PV,PC,LV,LC,X0,X1,QV,QC,qC]
  (repeat refine ⟨by omega, ?_⟩)
  refine Cg cS.2 ?_
  simp only [vx,T,K5,J0,K6,K7,↓reduceIte,J1,J2,J3,J4,J5,J6,J7,J8,J9,reduceCtorEq,K1,K2,K3,K4,VV,PV,PC,LV,LC,X0,X1,QV,QC,qC]
  refine Va ⟨rfl, rfl, fun i' j' hi' hj' => ?_⟩
  obtain rfl : j' = 0 := by omega
  obtain rfl : i' = 0 := by omega
  rfl
theorem rOf3 (cs : List Int) (n : Nat) (hn : n < 2 ^ 40) (c3 : C) (s : Int) (a b c : Nat) (ha : a < 2 ^ 40) (hb : b < 2 ^ 40) (hc : c < 2 ^ 40) : Pr Tryz.prog 9 [.agg [.int .i64 3, .ints .i64 [(a : Int), (b : Int), (c : Int)], .ints .i64 [], c3, .int .i64 s], .one (QsC []), .one (.ints .i64 cs), .one (.int .i64 n)] (LV [crossM (wayM b c) (wayM b a)]) := by
  have bWbc := NW.way b c hb hc
  have bWba := NW.way b a hb ha
  have bCWbcWba := NW.cross bWbc bWba
  have cCWbcWba := two_cross bWbc bWba (by decide) (by decide)
  refine pv T_ok mixed Tryz.func9 rfl (by decide) _ (by simp [Tryz.ntmps9]) ⟨[0, 1, 2, 3, 4, 8, 9, 10, 11, 12, 13, 14, 15, 16, 17, 18, 19, 20, 21, 31, 69, 88, 105, 106, 126, 135, 141, 155, 167, 173, 179, 189, 211, 234, 248, 262, 276, 282, 288, 311], [(9, .nil), (11, .nil)]⟩ (by kernel_rfl) _ ?_
  show vc T _ _ (Option.get! Tryz.f9.body) _ _
  simp only [Tryz.f9,Tryz.ntmps9,Option.get!,iS,iM,eO,J1]
  simp only [vx,T,K5,J0,K6,K7,↓reduceIte,J1,J2,J3,J4,J5,J6,J7,J8,J9,reduceCtorEq,K1,K2,K3,K4,QsC,qC]
  refine ⟨fun h => absurd h (by simp), fun _ => Lg ?_⟩
  simp only [vx,T,K5,J0,K6,K7,↓reduceIte,J1,J2,J3,J4,J5,J6,J7,J8,J9,reduceCtorEq,K1,K2,K3,K4,VV,PV,PC,LV,LC,X0,X1,QV,QC,qC]
  (repeat refine ⟨by omega, ?_⟩)
  refine Cg (tW a b ha hb).2 ?_
  simp only [vx,T,K5,J0,K6,K7,↓reduceIte,J1,J2,J3,J4,J5,J6,J7,J8,J9,reduceCtorEq,K1,K2,K3,K4,VV,PV,PC,LV,LC,X0,X1,QV,QC,qC]
  (repeat refine ⟨by omega, ?_⟩)
  refine Cg (tW b c hb hc).2 ?_
  simp only [vx,T,K5,J0,K6,K7,↓reduceIte,J1,J2,J3,J4,J5,J6,J7,J8,J9,reduceCtorEq,K1,K2,K3,K4,VV,PV,PC,LV,LC,X0,X1,QV,QC,qC]
  (repeat refine ⟨by omega, ?_⟩)
  refine Cg (tW b a hb ha).2 ?_
  simp only [vx,T,K5,J0,K6,K7,↓reduceIte,J1,J2,J3,J4,J5,J6,J7,J8,J9,reduceCtorEq,K1,K2,K3,K4,VV,PV,PC,LV,LC,X0,X1,QV,QC,qC]
  (repeat refine ⟨by omega, ?_⟩)
  refine Cg (tW c 0 hc (by decide)).2 ?_
  simp only [vx,T,K5,J0,K6,K7,↓reduceIte,J1,J2,J3,J4,J5,J6,J7,J8,J9,reduceCtorEq,K1,K2,K3,K4,VV,PV,PC,LV,LC,X0,X1,QV,QC,qC]
  refine ⟨fun h => absurd h (by simp), fun _ => Lg ?_⟩
  simp only [vx,T,K5,J0,K6,K7,↓reduceIte,J1,J2,J3,J4,J5,J6,J7,J8,J9,reduceCtorEq,K1,K2,K3,K4,VV,PV,PC,LV,LC,X0,X1,QV,QC,qC]
  refine ⟨fun h => absurd h (by simp), fun _ => Lg ?_⟩
  simp only [vx,T,K5,J0,K6,K7,↓reduceIte,J1,J2,J3,J4,J5,J6,J7,J8,J9,reduceCtorEq,K1,K2,K3,K4,VV,PV,PC,LV,LC,X0,X1,QV,QC,qC]
  (repeat refine ⟨by omega, ?_⟩)
  refine Cg cCWbcWba.2 ?_
  simp only [vx,T,K5,J0,K6,K7,↓reduceIte,J1,J2,J3,J4,J5,J6,J7,J8,J9,reduceCtorEq,K1,K2,K3,K4,VV,PV,PC,LV,LC,X0,X1,QV,QC,qC]
  refine Va ⟨rfl, rfl, fun i' j' hi' hj' => ?_⟩
  obtain rfl : j' = 0 := by omega
  obtain rfl : i' = 0 := by omega
  rfl
theorem rOf4 (cs : List Int) (n : Nat) (hn : n < 2 ^ 40) (c3 : C) (s : Int) (a b c : Nat) (ha : a < 2 ^ 40) (hb : b < 2 ^ 40) (hc : c < 2 ^ 40) (q0 : Rat) (hq0 : qm q0 ≤ 4) : Pr Tryz.prog 9 [.agg [.int .i64 4, .ints .i64 [(a : Int), (b : Int), (c : Int)], .ints .i64 [], c3, .int .i64 s], .one (QsC [q0]), .one (.ints .i64 cs), .one (.int .i64 n)] (LV [subM (mulM (crossM (wayM b c) (wayM b a)) (crossM (wayM b c) (wayM b a))) (mulM (mulM (norM [(q0, [])]) (norM [(q0, [])])) (dotM (wayM b c) (wayM b c)))]) := by
  have bV0 := NF.num hq0
  have bWbc := NW.way b c hb hc
  have bWba := NW.way b a hb ha
  have bCWbcWba := NW.cross bWbc bWba
  have bQ := NF.mul bCWbcWba bCWbcWba
  have bQ2 := NF.mul bV0 bV0
  have bDWbcWbc := NW.dot bWbc bWbc
  have bM := NF.mul bQ2 bDWbcWbc
  have bS := NF.sub bQ bM
  have cCWbcWba := two_cross bWbc bWba (by decide) (by decide)
  have cQ := two_sq bCWbcWba (by decide)
  have cQ2 := two_sq bV0 (by decide)
  have cDWbcWbc := two_dot bWbc bWbc (by decide) (by decide)
  have cM := two_mul bQ2 bDWbcWbc (by decide)
  have cS := two_sub bQ bM (by decide)
  refine pv T_ok mixed Tryz.func9 rfl (by decide) _ (by simp [Tryz.ntmps9]) ⟨[0, 1, 2, 3, 4, 8, 9, 10, 11, 12, 13, 14, 15, 16, 17, 18, 19, 20, 21, 31, 69, 88, 105, 106, 126, 135, 141, 155, 167, 173, 179, 189, 211, 234, 248, 262, 276, 282, 288, 311], [(9, .nil), (11, .nil)]⟩ (by kernel_rfl) _ ?_
  show vc T _ _ (Option.get! Tryz.f9.body) _ _
  simp only [Tryz.f9,Tryz.ntmps9,Option.get!,iS,iM,eO,J1]
  simp only [vx,T,K5,J0,K6,K7,↓reduceIte,J1,J2,J3,J4,J5,J6,J7,J8,J9,reduceCtorEq,K1,K2,K3,K4,QsC,qC]
  refine ⟨fun _ => Lg ?_, fun h => absurd (by simp) h⟩
  simp only [vx,T,K5,J0,K6,K7,↓reduceIte,J1,J2,J3,J4,J5,J6,J7,J8,J9,reduceCtorEq,K1,K2,K3,K4,VV,PV,PC,LV,LC,X0,X1,QV,QC,qC]
  (repeat refine ⟨by omega, ?_⟩)
  refine Cg (two_num q0 hq0 (by decide)).2 ?_
  simp only [vx,T,K5,J0,K6,K7,↓reduceIte,J1,J2,J3,J4,J5,J6,J7,J8,J9,reduceCtorEq,K1,K2,K3,K4,VV,PV,PC,LV,LC,X0,X1,QV,QC,qC]
  (repeat refine ⟨by omega, ?_⟩)
  refine Cg (tW a b ha hb).2 ?_
  simp only [vx,T,K5,J0,K6,K7,↓reduceIte,J1,J2,J3,J4,J5,J6,J7,J8,J9,reduceCtorEq,K1,K2,K3,K4,VV,PV,PC,LV,LC,X0,X1,QV,QC,qC]
  (repeat refine ⟨by omega, ?_⟩)
  refine Cg (tW b c hb hc).2 ?_
  simp only [vx,T,K5,J0,K6,K7,↓reduceIte,J1,J2,J3,J4,J5,J6,J7,J8,J9,reduceCtorEq,K1,K2,K3,K4,VV,PV,PC,LV,LC,X0,X1,QV,QC,qC]
  (repeat refine ⟨by omega, ?_⟩)
  refine Cg (tW b a hb ha).2 ?_
  simp only [vx,T,K5,J0,K6,K7,↓reduceIte,J1,J2,J3,J4,J5,J6,J7,J8,J9,reduceCtorEq,K1,K2,K3,K4,VV,PV,PC,LV,LC,X0,X1,QV,QC,qC]
  (repeat refine ⟨by omega, ?_⟩)
  refine Cg (tW c 0 hc (by decide)).2 ?_
  simp only [vx,T,K5,J0,K6,K7,↓reduceIte,J1,J2,J3,J4,J5,J6,J7,J8,J9,reduceCtorEq,K1,K2,K3,K4,VV,PV,PC,LV,LC,X0,X1,QV,QC,qC]
  refine ⟨fun h => absurd h (by simp), fun _ => Lg ?_⟩
  simp only [vx,T,K5,J0,K6,K7,↓reduceIte,J1,J2,J3,J4,J5,J6,J7,J8,J9,reduceCtorEq,K1,K2,K3,K4,VV,PV,PC,LV,LC,X0,X1,QV,QC,qC]
  refine ⟨fun h => absurd h (by simp), fun _ => Lg ?_⟩
  simp only [vx,T,K5,J0,K6,K7,↓reduceIte,J1,J2,J3,J4,J5,J6,J7,J8,J9,reduceCtorEq,K1,K2,K3,K4,VV,PV,PC,LV,LC,X0,X1,QV,QC,qC]
  (repeat refine ⟨by omega, ?_⟩)
  refine Cg cCWbcWba.2 ?_
  simp only [vx,T,K5,J0,K6,K7,↓reduceIte,J1,J2,J3,J4,J5,J6,J7,J8,J9,reduceCtorEq,K1,K2,K3,K4,VV,PV,PC,LV,LC,X0,X1,QV,QC,qC]
  (repeat refine ⟨by omega, ?_⟩)
  refine Cg cQ.2 ?_
  simp only [vx,T,K5,J0,K6,K7,↓reduceIte,J1,J2,J3,J4,J5,J6,J7,J8,J9,reduceCtorEq,K1,K2,K3,K4,VV,PV,PC,LV,LC,X0,X1,QV,QC,qC]
  (repeat refine ⟨by omega, ?_⟩)
  refine Cg cQ2.2 ?_
  simp only [vx,T,K5,J0,K6,K7,↓reduceIte,J1,J2,J3,J4,J5,J6,J7,J8,J9,reduceCtorEq,K1,K2,K3,K4,VV,PV,PC,LV,LC,X0,X1,QV,QC,qC]
  (repeat refine ⟨by omega, ?_⟩)
  refine Cg cDWbcWbc.2 ?_
  simp only [vx,T,K5,J0,K6,K7,↓reduceIte,J1,J2,J3,J4,J5,J6,J7,J8,J9,reduceCtorEq,K1,K2,K3,K4,VV,PV,PC,LV,LC,X0,X1,QV,QC,qC]
  (repeat refine ⟨by omega, ?_⟩)
  refine Cg cM.2 ?_
  simp only [vx,T,K5,J0,K6,K7,↓reduceIte,J1,J2,J3,J4,J5,J6,J7,J8,J9,reduceCtorEq,K1,K2,K3,K4,VV,PV,PC,LV,LC,X0,X1,QV,QC,qC]
  (repeat refine ⟨by omega, ?_⟩)
  refine Cg cS.2 ?_
  simp only [vx,T,K5,J0,K6,K7,↓reduceIte,J1,J2,J3,J4,J5,J6,J7,J8,J9,reduceCtorEq,K1,K2,K3,K4,VV,PV,PC,LV,LC,X0,X1,QV,QC,qC]
  refine Va ⟨rfl, rfl, fun i' j' hi' hj' => ?_⟩
  obtain rfl : j' = 0 := by omega
  obtain rfl : i' = 0 := by omega
  rfl
theorem rOf5 (cs : List Int) (n : Nat) (hn : n < 2 ^ 40) (c3 : C) (s : Int) (a b c d : Nat) (ha : a < 2 ^ 40) (hb : b < 2 ^ 40) (hc : c < 2 ^ 40) (hd : d < 2 ^ 40) (q0 : Rat) (hq0 : qm q0 ≤ 4) : Pr Tryz.prog 9 [.agg [.int .i64 5, .ints .i64 [(a : Int), (b : Int), (c : Int), (d : Int)], .ints .i64 [], c3, .int .i64 s], .one (QsC [q0]), .one (.ints .i64 cs), .one (.int .i64 n)] (LV [subM (crossM (wayM a b) (wayM c d)) (mulM (norM [(q0, [])]) (dotM (wayM a b) (wayM c d)))]) := by
  have bV0 := NF.num hq0
  have bWab := NW.way a b ha hb
  have bWcd := NW.way c d hc hd
  have bCWabWcd := NW.cross bWab bWcd
  have bDWabWcd := NW.dot bWab bWcd
  have bM := NF.mul bV0 bDWabWcd
  have bS := NF.sub bCWabWcd bM
  have cCWabWcd := two_cross bWab bWcd (by decide) (by decide)
  have cDWabWcd := two_dot bWab bWcd (by decide) (by decide)
  have cM := two_mul bV0 bDWabWcd (by decide)
  have cS := two_sub bCWabWcd bM (by decide)
  refine pv T_ok mixed Tryz.func9 rfl (by decide) _ (by simp [Tryz.ntmps9]) ⟨[0, 1, 2, 3, 4, 8, 9, 10, 11, 12, 13, 14, 15, 16, 17, 18, 19, 20, 21, 31, 69, 88, 105, 106, 126, 135, 141, 155, 167, 173, 179, 189, 211, 234, 248, 262, 276, 282, 288, 311], [(9, .nil), (11, .nil)]⟩ (by kernel_rfl) _ ?_
  show vc T _ _ (Option.get! Tryz.f9.body) _ _
  simp only [Tryz.f9,Tryz.ntmps9,Option.get!,iS,iM,eO,J1]
  simp only [vx,T,K5,J0,K6,K7,↓reduceIte,J1,J2,J3,J4,J5,J6,J7,J8,J9,reduceCtorEq,K1,K2,K3,K4,QsC,qC]
  refine ⟨fun _ => Lg ?_, fun h => absurd (by simp) h⟩
  simp only [vx,T,K5,J0,K6,K7,↓reduceIte,J1,J2,J3,J4,J5,J6,J7,J8,J9,reduceCtorEq,K1,K2,K3,K4,VV,PV,PC,LV,LC,X0,X1,QV,QC,qC]
  (repeat refine ⟨by omega, ?_⟩)
  refine Cg (two_num q0 hq0 (by decide)).2 ?_
  simp only [vx,T,K5,J0,K6,K7,↓reduceIte,J1,J2,J3,J4,J5,J6,J7,J8,J9,reduceCtorEq,K1,K2,K3,K4,VV,PV,PC,LV,LC,X0,X1,QV,QC,qC]
  (repeat refine ⟨by omega, ?_⟩)
  refine Cg (tW a b ha hb).2 ?_
  simp only [vx,T,K5,J0,K6,K7,↓reduceIte,J1,J2,J3,J4,J5,J6,J7,J8,J9,reduceCtorEq,K1,K2,K3,K4,VV,PV,PC,LV,LC,X0,X1,QV,QC,qC]
  (repeat refine ⟨by omega, ?_⟩)
  refine Cg (tW b c hb hc).2 ?_
  simp only [vx,T,K5,J0,K6,K7,↓reduceIte,J1,J2,J3,J4,J5,J6,J7,J8,J9,reduceCtorEq,K1,K2,K3,K4,VV,PV,PC,LV,LC,X0,X1,QV,QC,qC]
  (repeat refine ⟨by omega, ?_⟩)
  refine Cg (tW b a hb ha).2 ?_
  simp only [vx,T,K5,J0,K6,K7,↓reduceIte,J1,J2,J3,J4,J5,J6,J7,J8,J9,reduceCtorEq,K1,K2,K3,K4,VV,PV,PC,LV,LC,X0,X1,QV,QC,qC]
  (repeat refine ⟨by omega, ?_⟩)
  refine Cg (tW c d hc hd).2 ?_
  simp only [vx,T,K5,J0,K6,K7,↓reduceIte,J1,J2,J3,J4,J5,J6,J7,J8,J9,reduceCtorEq,K1,K2,K3,K4,VV,PV,PC,LV,LC,X0,X1,QV,QC,qC]
  refine ⟨fun h => absurd h (by simp), fun _ => Lg ?_⟩
  simp only [vx,T,K5,J0,K6,K7,↓reduceIte,J1,J2,J3,J4,J5,J6,J7,J8,J9,reduceCtorEq,K1,K2,K3,K4,VV,PV,PC,LV,LC,X0,X1,QV,QC,qC]
  refine ⟨fun h => absurd h (by simp), fun _ => Lg ?_⟩
  simp only [vx,T,K5,J0,K6,K7,↓reduceIte,J1,J2,J3,J4,J5,J6,J7,J8,J9,reduceCtorEq,K1,K2,K3,K4,VV,PV,PC,LV,LC,X0,X1,QV,QC,qC]
  (repeat refine ⟨by omega, ?_⟩)
  refine Cg cCWabWcd.2 ?_
  simp only [vx,T,K5,J0,K6,K7,↓reduceIte,J1,J2,J3,J4,J5,J6,J7,J8,J9,reduceCtorEq,K1,K2,K3,K4,VV,PV,PC,LV,LC,X0,X1,QV,QC,qC]
  (repeat refine ⟨by omega, ?_⟩)
  refine Cg cDWabWcd.2 ?_
  simp only [vx,T,K5,J0,K6,K7,↓reduceIte,J1,J2,J3,J4,J5,J6,J7,J8,J9,reduceCtorEq,K1,K2,K3,K4,VV,PV,PC,LV,LC,X0,X1,QV,QC,qC]
  (repeat refine ⟨by omega, ?_⟩)
  refine Cg cM.2 ?_
  simp only [vx,T,K5,J0,K6,K7,↓reduceIte,J1,J2,J3,J4,J5,J6,J7,J8,J9,reduceCtorEq,K1,K2,K3,K4,VV,PV,PC,LV,LC,X0,X1,QV,QC,qC]
  (repeat refine ⟨by omega, ?_⟩)
  refine Cg cS.2 ?_
  simp only [vx,T,K5,J0,K6,K7,↓reduceIte,J1,J2,J3,J4,J5,J6,J7,J8,J9,reduceCtorEq,K1,K2,K3,K4,VV,PV,PC,LV,LC,X0,X1,QV,QC,qC]
  refine Va ⟨rfl, rfl, fun i' j' hi' hj' => ?_⟩
  obtain rfl : j' = 0 := by omega
  obtain rfl : i' = 0 := by omega
  rfl
theorem rOf6 (cs : List Int) (n : Nat) (hn : n < 2 ^ 40) (c3 : C) (s : Int) (a b c d : Nat) (ha : a < 2 ^ 40) (hb : b < 2 ^ 40) (hc : c < 2 ^ 40) (hd : d < 2 ^ 40) : Pr Tryz.prog 9 [.agg [.int .i64 6, .ints .i64 [(a : Int), (b : Int), (c : Int), (d : Int)], .ints .i64 [], c3, .int .i64 s], .one (QsC []), .one (.ints .i64 cs), .one (.int .i64 n)] (LV [crossM (wayM a b) (wayM c d)]) := by
  have bWab := NW.way a b ha hb
  have bWcd := NW.way c d hc hd
  have bCWabWcd := NW.cross bWab bWcd
  have cCWabWcd := two_cross bWab bWcd (by decide) (by decide)
  refine pv T_ok mixed Tryz.func9 rfl (by decide) _ (by simp [Tryz.ntmps9]) ⟨[0, 1, 2, 3, 4, 8, 9, 10, 11, 12, 13, 14, 15, 16, 17, 18, 19, 20, 21, 31, 69, 88, 105, 106, 126, 135, 141, 155, 167, 173, 179, 189, 211, 234, 248, 262, 276, 282, 288, 311], [(9, .nil), (11, .nil)]⟩ (by kernel_rfl) _ ?_
  show vc T _ _ (Option.get! Tryz.f9.body) _ _
  simp only [Tryz.f9,Tryz.ntmps9,Option.get!,iS,iM,eO,J1]
  simp only [vx,T,K5,J0,K6,K7,↓reduceIte,J1,J2,J3,J4,J5,J6,J7,J8,J9,reduceCtorEq,K1,K2,K3,K4,QsC,qC]
  refine ⟨fun h => absurd h (by simp), fun _ => Lg ?_⟩
  simp only [vx,T,K5,J0,K6,K7,↓reduceIte,J1,J2,J3,J4,J5,J6,J7,J8,J9,reduceCtorEq,K1,K2,K3,K4,VV,PV,PC,LV,LC,X0,X1,QV,QC,qC]
  (repeat refine ⟨by omega, ?_⟩)
  refine Cg (tW a b ha hb).2 ?_
  simp only [vx,T,K5,J0,K6,K7,↓reduceIte,J1,J2,J3,J4,J5,J6,J7,J8,J9,reduceCtorEq,K1,K2,K3,K4,VV,PV,PC,LV,LC,X0,X1,QV,QC,qC]
  (repeat refine ⟨by omega, ?_⟩)
  refine Cg (tW b c hb hc).2 ?_
  simp only [vx,T,K5,J0,K6,K7,↓reduceIte,J1,J2,J3,J4,J5,J6,J7,J8,J9,reduceCtorEq,K1,K2,K3,K4,VV,PV,PC,LV,LC,X0,X1,QV,QC,qC]
  (repeat refine ⟨by omega, ?_⟩)
  refine Cg (tW b a hb ha).2 ?_
  simp only [vx,T,K5,J0,K6,K7,↓reduceIte,J1,J2,J3,J4,J5,J6,J7,J8,J9,reduceCtorEq,K1,K2,K3,K4,VV,PV,PC,LV,LC,X0,X1,QV,QC,qC]
  (repeat refine ⟨by omega, ?_⟩)
  refine Cg (tW c d hc hd).2 ?_
  simp only [vx,T,K5,J0,K6,K7,↓reduceIte,J1,J2,J3,J4,J5,J6,J7,J8,J9,reduceCtorEq,K1,K2,K3,K4,VV,PV,PC,LV,LC,X0,X1,QV,QC,qC]
  refine ⟨fun h => absurd h (by simp), fun _ => Lg ?_⟩
  simp only [vx,T,K5,J0,K6,K7,↓reduceIte,J1,J2,J3,J4,J5,J6,J7,J8,J9,reduceCtorEq,K1,K2,K3,K4,VV,PV,PC,LV,LC,X0,X1,QV,QC,qC]
  refine ⟨fun h => absurd h (by simp), fun _ => Lg ?_⟩
  simp only [vx,T,K5,J0,K6,K7,↓reduceIte,J1,J2,J3,J4,J5,J6,J7,J8,J9,reduceCtorEq,K1,K2,K3,K4,VV,PV,PC,LV,LC,X0,X1,QV,QC,qC]
  (repeat refine ⟨by omega, ?_⟩)
  refine Cg cCWabWcd.2 ?_
  simp only [vx,T,K5,J0,K6,K7,↓reduceIte,J1,J2,J3,J4,J5,J6,J7,J8,J9,reduceCtorEq,K1,K2,K3,K4,VV,PV,PC,LV,LC,X0,X1,QV,QC,qC]
  refine Va ⟨rfl, rfl, fun i' j' hi' hj' => ?_⟩
  obtain rfl : j' = 0 := by omega
  obtain rfl : i' = 0 := by omega
  rfl
open Go Go.Eng
theorem rOf7 (cs : List Int) (n : Nat) (hn : n < 2 ^ 40) (c3 : C) (s : Int) (a b c d : Nat) (ha : a < 2 ^ 40) (hb : b < 2 ^ 40) (hc : c < 2 ^ 40) (hd : d < 2 ^ 40) : Pr Tryz.prog 9 [.agg [.int .i64 7, .ints .i64 [(a : Int), (b : Int), (c : Int), (d : Int)], .ints .i64 [], c3, .int .i64 s], .one (QsC []), .one (.ints .i64 cs), .one (.int .i64 n)] (LV [dotM (wayM a b) (wayM c d)]) := by
  have bWab := NW.way a b ha hb
  have bWcd := NW.way c d hc hd
  have bDWabWcd := NW.dot bWab bWcd
  have cDWabWcd := two_dot bWab bWcd (by decide) (by decide)
  refine pv T_ok mixed Tryz.func9 rfl (by decide) _ (by simp [Tryz.ntmps9]) ⟨[0, 1, 2, 3, 4, 8, 9, 10, 11, 12, 13, 14, 15, 16, 17, 18, 19, 20, 21, 31, 69, 88, 105, 106, 126, 135, 141, 155, 167, 173, 179, 189, 211, 234, 248, 262, 276, 282, 288, 311], [(9, .nil), (11, .nil)]⟩ (by kernel_rfl) _ ?_
  show vc T _ _ (Option.get! Tryz.f9.body) _ _
  simp only [Tryz.f9,Tryz.ntmps9,Option.get!,iS,iM,eO,J1]
  simp only [vx,T,K5,J0,K6,K7,↓reduceIte,J1,J2,J3,J4,J5,J6,J7,J8,J9,reduceCtorEq,K1,K2,K3,K4,QsC,qC]
  refine ⟨fun h => absurd h (by simp), fun _ => Lg ?_⟩
  simp only [vx,T,K5,J0,K6,K7,↓reduceIte,J1,J2,J3,J4,J5,J6,J7,J8,J9,reduceCtorEq,K1,K2,K3,K4,VV,PV,PC,LV,LC,X0,X1,QV,QC,qC]
  (repeat refine ⟨by omega, ?_⟩)
  refine Cg (tW a b ha hb).2 ?_
  simp only [vx,T,K5,J0,K6,K7,↓reduceIte,J1,J2,J3,J4,J5,J6,J7,J8,J9,reduceCtorEq,K1,K2,K3,K4,VV,PV,PC,LV,LC,X0,X1,QV,QC,qC]
  (repeat refine ⟨by omega, ?_⟩)
  refine Cg (tW b c hb hc).2 ?_
  simp only [vx,T,K5,J0,K6,K7,↓reduceIte,J1,J2,J3,J4,J5,J6,J7,J8,J9,reduceCtorEq,K1,K2,K3,K4,VV,PV,PC,LV,LC,X0,X1,QV,QC,qC]
  (repeat refine ⟨by omega, ?_⟩)
  refine Cg (tW b a hb ha).2 ?_
  simp only [vx,T,K5,J0,K6,K7,↓reduceIte,J1,J2,J3,J4,J5,J6,J7,J8,J9,reduceCtorEq,K1,K2,K3,K4,VV,PV,PC,LV,LC,X0,X1,QV,QC,qC]
  (repeat refine ⟨by omega, ?_⟩)
  refine Cg (tW c d hc hd).2 ?_
  simp only [vx,T,K5,J0,K6,K7,↓reduceIte,J1,J2,J3,J4,J5,J6,J7,J8,J9,reduceCtorEq,K1,K2,K3,K4,VV,PV,PC,LV,LC,X0,X1,QV,QC,qC]
  refine ⟨fun h => absurd h (by simp), fun _ => Lg ?_⟩
  simp only [vx,T,K5,J0,K6,K7,↓reduceIte,J1,J2,J3,J4,J5,J6,J7,J8,J9,reduceCtorEq,K1,K2,K3,K4,VV,PV,PC,LV,LC,X0,X1,QV,QC,qC]
  refine ⟨fun h => absurd h (by simp), fun _ => Lg ?_⟩
  simp only [vx,T,K5,J0,K6,K7,↓reduceIte,J1,J2,J3,J4,J5,J6,J7,J8,J9,reduceCtorEq,K1,K2,K3,K4,VV,PV,PC,LV,LC,X0,X1,QV,QC,qC]
  (repeat refine ⟨by omega, ?_⟩)
  refine Cg cDWabWcd.2 ?_
  simp only [vx,T,K5,J0,K6,K7,↓reduceIte,J1,J2,J3,J4,J5,J6,J7,J8,J9,reduceCtorEq,K1,K2,K3,K4,VV,PV,PC,LV,LC,X0,X1,QV,QC,qC]
  refine Va ⟨rfl, rfl, fun i' j' hi' hj' => ?_⟩
  obtain rfl : j' = 0 := by omega
  obtain rfl : i' = 0 := by omega
  rfl
theorem rOf8 (cs : List Int) (n : Nat) (hn : n < 2 ^ 40) (c3 : C) (s : Int) (a b c d : Nat) (ha : a < 2 ^ 40) (hb : b < 2 ^ 40) (hc : c < 2 ^ 40) (hd : d < 2 ^ 40) : Pr Tryz.prog 9 [.agg [.int .i64 8, .ints .i64 [(a : Int), (b : Int), (c : Int), (d : Int)], .ints .i64 [], c3, .int .i64 s], .one (QsC []), .one (.ints .i64 cs), .one (.int .i64 n)] (LV [subM (dotM (wayM a b) (wayM a b)) (dotM (wayM c d) (wayM c d))]) := by
  have bWab := NW.way a b ha hb
  have bWcd := NW.way c d hc hd
  have bDWabWab := NW.dot bWab bWab
  have bDWcdWcd := NW.dot bWcd bWcd
  have bS := NF.sub bDWabWab bDWcdWcd
  have cDWabWab := two_dot bWab bWab (by decide) (by decide)
  have cDWcdWcd := two_dot bWcd bWcd (by decide) (by decide)
  have cS := two_sub bDWabWab bDWcdWcd (by decide)
  refine pv T_ok mixed Tryz.func9 rfl (by decide) _ (by simp [Tryz.ntmps9]) ⟨[0, 1, 2, 3, 4, 8, 9, 10, 11, 12, 13, 14, 15, 16, 17, 18, 19, 20, 21, 31, 69, 88, 105, 106, 126, 135, 141, 155, 167, 173, 179, 189, 211, 234, 248, 262, 276, 282, 288, 311], [(9, .nil), (11, .nil)]⟩ (by kernel_rfl) _ ?_
  show vc T _ _ (Option.get! Tryz.f9.body) _ _
  simp only [Tryz.f9,Tryz.ntmps9,Option.get!,iS,iM,eO,J1]
  simp only [vx,T,K5,J0,K6,K7,↓reduceIte,J1,J2,J3,J4,J5,J6,J7,J8,J9,reduceCtorEq,K1,K2,K3,K4,QsC,qC]
  refine ⟨fun h => absurd h (by simp), fun _ => Lg ?_⟩
  simp only [vx,T,K5,J0,K6,K7,↓reduceIte,J1,J2,J3,J4,J5,J6,J7,J8,J9,reduceCtorEq,K1,K2,K3,K4,VV,PV,PC,LV,LC,X0,X1,QV,QC,qC]
  (repeat refine ⟨by omega, ?_⟩)
  refine Cg (tW a b ha hb).2 ?_
  simp only [vx,T,K5,J0,K6,K7,↓reduceIte,J1,J2,J3,J4,J5,J6,J7,J8,J9,reduceCtorEq,K1,K2,K3,K4,VV,PV,PC,LV,LC,X0,X1,QV,QC,qC]
  (repeat refine ⟨by omega, ?_⟩)
  refine Cg (tW b c hb hc).2 ?_
  simp only [vx,T,K5,J0,K6,K7,↓reduceIte,J1,J2,J3,J4,J5,J6,J7,J8,J9,reduceCtorEq,K1,K2,K3,K4,VV,PV,PC,LV,LC,X0,X1,QV,QC,qC]
  (repeat refine ⟨by omega, ?_⟩)
  refine Cg (tW b a hb ha).2 ?_
  simp only [vx,T,K5,J0,K6,K7,↓reduceIte,J1,J2,J3,J4,J5,J6,J7,J8,J9,reduceCtorEq,K1,K2,K3,K4,VV,PV,PC,LV,LC,X0,X1,QV,QC,qC]
  (repeat refine ⟨by omega, ?_⟩)
  refine Cg (tW c d hc hd).2 ?_
  simp only [vx,T,K5,J0,K6,K7,↓reduceIte,J1,J2,J3,J4,J5,J6,J7,J8,J9,reduceCtorEq,K1,K2,K3,K4,VV,PV,PC,LV,LC,X0,X1,QV,QC,qC]
  refine ⟨fun h => absurd h (by simp), fun _ => Lg ?_⟩
  simp only [vx,T,K5,J0,K6,K7,↓reduceIte,J1,J2,J3,J4,J5,J6,J7,J8,J9,reduceCtorEq,K1,K2,K3,K4,VV,PV,PC,LV,LC,X0,X1,QV,QC,qC]
  refine ⟨fun h => absurd h (by simp), fun _ => Lg ?_⟩
  simp only [vx,T,K5,J0,K6,K7,↓reduceIte,J1,J2,J3,J4,J5,J6,J7,J8,J9,reduceCtorEq,K1,K2,K3,K4,VV,PV,PC,LV,LC,X0,X1,QV,QC,qC]
  (repeat refine ⟨by omega, ?_⟩)
  refine Cg cDWabWab.2 ?_
  simp only [vx,T,K5,J0,K6,K7,↓reduceIte,J1,J2,J3,J4,J5,J6,J7,J8,J9,reduceCtorEq,K1,K2,K3,K4,VV,PV,PC,LV,LC,X0,X1,QV,QC,qC]
  (repeat refine ⟨by omega, ?_⟩)
  refine Cg cDWcdWcd.2 ?_
  simp only [vx,T,K5,J0,K6,K7,↓reduceIte,J1,J2,J3,J4,J5,J6,J7,J8,J9,reduceCtorEq,K1,K2,K3,K4,VV,PV,PC,LV,LC,X0,X1,QV,QC,qC]
  (repeat refine ⟨by omega, ?_⟩)
  refine Cg cS.2 ?_
  simp only [vx,T,K5,J0,K6,K7,↓reduceIte,J1,J2,J3,J4,J5,J6,J7,J8,J9,reduceCtorEq,K1,K2,K3,K4,VV,PV,PC,LV,LC,X0,X1,QV,QC,qC]
  refine Va ⟨rfl, rfl, fun i' j' hi' hj' => ?_⟩
  obtain rfl : j' = 0 := by omega
  obtain rfl : i' = 0 := by omega
  rfl
theorem rOf9 (cs : List Int) (n : Nat) (hn : n < 2 ^ 40) (c3 : C) (s : Int) (a b c : Nat) (ha : a < 2 ^ 40) (hb : b < 2 ^ 40) (hc : c < 2 ^ 40) : Pr Tryz.prog 9 [.agg [.int .i64 9, .ints .i64 [(a : Int), (b : Int), (c : Int)], .ints .i64 [], c3, .int .i64 s], .one (QsC []), .one (.ints .i64 cs), .one (.int .i64 n)] (LV [norM ((wayM b a).1 ++ (wayM c a).1), norM ((wayM b a).2 ++ (wayM c a).2)]) := by
  have bWba := NW.way b a hb ha
  have bWca := NW.way c a hc ha
  have bA1 := NF.add bWba.1 bWca.1
  have bA2 := NF.add bWba.2 bWca.2
  have cWba := tW b a hb ha
  have cWca := tW c a hc ha
  have cA1 := two_add bWba.1 bWca.1 (by decide)
  have cA2 := two_add bWba.2 bWca.2 (by decide)
  refine pv T_ok mixed Tryz.func9 rfl (by decide) _ (by simp [Tryz.ntmps9]) ⟨[0, 1, 2, 3, 4, 8, 9, 10, 11, 12, 13, 14, 15, 16, 17, 18, 19, 20, 21, 31, 69, 88, 105, 106, 126, 135, 141, 155, 167, 173, 179, 189, 211, 234, 248, 262, 276, 282, 288, 311], [(9, .nil), (11, .nil)]⟩ (by kernel_rfl) _ ?_
  show vc T _ _ (Option.get! Tryz.f9.body) _ _
  simp only [Tryz.f9,Tryz.ntmps9,Option.get!,iS,iM,eO,J1]
  simp only [vx,T,K5,J0,K6,K7,↓reduceIte,J1,J2,J3,J4,J5,J6,J7,J8,J9,reduceCtorEq,K1,K2,K3,K4,QsC,qC]
  refine ⟨fun h => absurd h (by simp), fun _ => Lg ?_⟩
  simp only [vx,T,K5,J0,K6,K7,↓reduceIte,J1,J2,J3,J4,J5,J6,J7,J8,J9,reduceCtorEq,K1,K2,K3,K4,VV,PV,PC,LV,LC,X0,X1,QV,QC,qC]
  (repeat refine ⟨by omega, ?_⟩)
  refine Cg (tW a b ha hb).2 ?_
  simp only [vx,T,K5,J0,K6,K7,↓reduceIte,J1,J2,J3,J4,J5,J6,J7,J8,J9,reduceCtorEq,K1,K2,K3,K4,VV,PV,PC,LV,LC,X0,X1,QV,QC,qC]
  (repeat refine ⟨by omega, ?_⟩)
  refine Cg (tW b c hb hc).2 ?_
  simp only [vx,T,K5,J0,K6,K7,↓reduceIte,J1,J2,J3,J4,J5,J6,J7,J8,J9,reduceCtorEq,K1,K2,K3,K4,VV,PV,PC,LV,LC,X0,X1,QV,QC,qC]
  (repeat refine ⟨by omega, ?_⟩)
  refine Cg (tW b a hb ha).2 ?_
  simp only [vx,T,K5,J0,K6,K7,↓reduceIte,J1,J2,J3,J4,J5,J6,J7,J8,J9,reduceCtorEq,K1,K2,K3,K4,VV,PV,PC,LV,LC,X0,X1,QV,QC,qC]
  (repeat refine ⟨by omega, ?_⟩)
  refine Cg (tW c 0 hc (by decide)).2 ?_
  simp only [vx,T,K5,J0,K6,K7,↓reduceIte,J1,J2,J3,J4,J5,J6,J7,J8,J9,reduceCtorEq,K1,K2,K3,K4,VV,PV,PC,LV,LC,X0,X1,QV,QC,qC]
  refine ⟨fun h => absurd h (by simp), fun _ => Lg ?_⟩
  simp only [vx,T,K5,J0,K6,K7,↓reduceIte,J1,J2,J3,J4,J5,J6,J7,J8,J9,reduceCtorEq,K1,K2,K3,K4,VV,PV,PC,LV,LC,X0,X1,QV,QC,qC]
  refine ⟨fun h => absurd h (by simp), fun _ => Lg ?_⟩
  simp only [vx,T,K5,J0,K6,K7,↓reduceIte,J1,J2,J3,J4,J5,J6,J7,J8,J9,reduceCtorEq,K1,K2,K3,K4,VV,PV,PC,LV,LC,X0,X1,QV,QC,qC]
  (repeat refine ⟨by omega, ?_⟩)
  refine Cg cWba.2 ?_
  simp only [vx,T,K5,J0,K6,K7,↓reduceIte,J1,J2,J3,J4,J5,J6,J7,J8,J9,reduceCtorEq,K1,K2,K3,K4,VV,PV,PC,LV,LC,X0,X1,QV,QC,qC]
  (repeat refine ⟨by omega, ?_⟩)
  refine Cg cWca.2 ?_
  simp only [vx,T,K5,J0,K6,K7,↓reduceIte,J1,J2,J3,J4,J5,J6,J7,J8,J9,reduceCtorEq,K1,K2,K3,K4,VV,PV,PC,LV,LC,X0,X1,QV,QC,qC]
  (repeat refine ⟨by omega, ?_⟩)
  refine Cg (rvplus_spec _ _ cA1.2 cA2.2) ?_
  simp only [vx,T,K5,J0,K6,K7,↓reduceIte,J1,J2,J3,J4,J5,J6,J7,J8,J9,reduceCtorEq,K1,K2,K3,K4,VV,PV,PC,LV,LC,X0,X1,QV,QC,qC]
  refine Va ⟨rfl, rfl, fun i' j' hi' hj' => ?_⟩
  obtain rfl : j' = 0 := by omega
  match i', hi' with
  | 0, _ => rfl
  | 1, _ => rfl
theorem rOf10 (cs : List Int) (n : Nat) (hn : n < 2 ^ 40) (c3 : C) (s : Int) (a b c d : Nat) (ha : a < 2 ^ 40) (hb : b < 2 ^ 40) (hc : c < 2 ^ 40) (hd : d < 2 ^ 40) : Pr Tryz.prog 9 [.agg [.int .i64 10, .ints .i64 [(a : Int), (b : Int), (c : Int), (d : Int)], .ints .i64 [], c3, .int .i64 s], .one (QsC []), .one (.ints .i64 cs), .one (.int .i64 n)] (LV [crossM (norM ((wayM c a).1 ++ (wayM c b).1), norM ((wayM c a).2 ++ (wayM c b).2)) (wayM c d), dotM (wayM a b) (wayM c d)]) := by
  have bWca := NW.way c a hc ha
  have bWcb := NW.way c b hc hb
  have bWcd := NW.way c d hc hd
  have bWab := NW.way a b ha hb
  have bA1 := NF.add bWca.1 bWcb.1
  have bA2 := NF.add bWca.2 bWcb.2
  have bU := NW.plus bWca bWcb
  have bCUWcd := NW.cross bU bWcd
  have bDWabWcd := NW.dot bWab bWcd
  have cWca := tW c a hc ha
  have cWcb := tW c b hc hb
  have cA1 := two_add bWca.1 bWcb.1 (by decide)
  have cA2 := two_add bWca.2 bWcb.2 (by decide)
  have cCUWcd := two_cross bU bWcd (by decide) (by decide)
  have cDWabWcd := two_dot bWab bWcd (by decide) (by decide)
  refine pv T_ok mixed Tryz.func9 rfl (by decide) _ (by simp [Tryz.ntmps9]) ⟨[0, 1, 2, 3, 4, 8, 9, 10, 11, 12, 13, 14, 15, 16, 17, 18, 19, 20, 21, 31, 69, 88, 105, 106, 126, 135, 141, 155, 167, 173, 179, 189, 211, 234, 248, 262, 276, 282, 288, 311], [(9, .nil), (11, .nil)]⟩ (by kernel_rfl) _ ?_
  show vc T _ _ (Option.get! Tryz.f9.body) _ _
  simp only [Tryz.f9,Tryz.ntmps9,Option.get!,iS,iM,eO,J1]
  simp only [vx,T,K5,J0,K6,K7,↓reduceIte,J1,J2,J3,J4,J5,J6,J7,J8,J9,reduceCtorEq,K1,K2,K3,K4,QsC,qC]
  refine ⟨fun h => absurd h (by simp), fun _ => Lg ?_⟩
  simp only [vx,T,K5,J0,K6,K7,↓reduceIte,J1,J2,J3,J4,J5,J6,J7,J8,J9,reduceCtorEq,K1,K2,K3,K4,VV,PV,PC,LV,LC,X0,X1,QV,QC,qC]
  (repeat refine ⟨by omega, ?_⟩)
  refine Cg (tW a b ha hb).2 ?_
  simp only [vx,T,K5,J0,K6,K7,↓reduceIte,J1,J2,J3,J4,J5,J6,J7,J8,J9,reduceCtorEq,K1,K2,K3,K4,VV,PV,PC,LV,LC,X0,X1,QV,QC,qC]
  (repeat refine ⟨by omega, ?_⟩)
  refine Cg (tW b c hb hc).2 ?_
  simp only [vx,T,K5,J0,K6,K7,↓reduceIte,J1,J2,J3,J4,J5,J6,J7,J8,J9,reduceCtorEq,K1,K2,K3,K4,VV,PV,PC,LV,LC,X0,X1,QV,QC,qC]
  (repeat refine ⟨by omega, ?_⟩)
  refine Cg (tW b a hb ha).2 ?_
  simp only [vx,T,K5,J0,K6,K7,↓reduceIte,J1,J2,J3,J4,J5,J6,J7,J8,J9,reduceCtorEq,K1,K2,K3,K4,VV,PV,PC,LV,LC,X0,X1,QV,QC,qC]
  (repeat refine ⟨by omega, ?_⟩)
  refine Cg (tW c d hc hd).2 ?_
  simp only [vx,T,K5,J0,K6,K7,↓reduceIte,J1,J2,J3,J4,J5,J6,J7,J8,J9,reduceCtorEq,K1,K2,K3,K4,VV,PV,PC,LV,LC,X0,X1,QV,QC,qC]
  refine ⟨fun h => absurd h (by simp), fun _ => Lg ?_⟩
  simp only [vx,T,K5,J0,K6,K7,↓reduceIte,J1,J2,J3,J4,J5,J6,J7,J8,J9,reduceCtorEq,K1,K2,K3,K4,VV,PV,PC,LV,LC,X0,X1,QV,QC,qC]
  refine ⟨fun h => absurd h (by simp), fun _ => Lg ?_⟩
  simp only [vx,T,K5,J0,K6,K7,↓reduceIte,J1,J2,J3,J4,J5,J6,J7,J8,J9,reduceCtorEq,K1,K2,K3,K4,VV,PV,PC,LV,LC,X0,X1,QV,QC,qC]
  (repeat refine ⟨by omega, ?_⟩)
  refine Cg cWca.2 ?_
  simp only [vx,T,K5,J0,K6,K7,↓reduceIte,J1,J2,J3,J4,J5,J6,J7,J8,J9,reduceCtorEq,K1,K2,K3,K4,VV,PV,PC,LV,LC,X0,X1,QV,QC,qC]
  (repeat refine ⟨by omega, ?_⟩)
  refine Cg cWcb.2 ?_
  simp only [vx,T,K5,J0,K6,K7,↓reduceIte,J1,J2,J3,J4,J5,J6,J7,J8,J9,reduceCtorEq,K1,K2,K3,K4,VV,PV,PC,LV,LC,X0,X1,QV,QC,qC]
  (repeat refine ⟨by omega, ?_⟩)
  refine Cg (rvplus_spec _ _ cA1.2 cA2.2) ?_
  simp only [vx,T,K5,J0,K6,K7,↓reduceIte,J1,J2,J3,J4,J5,J6,J7,J8,J9,reduceCtorEq,K1,K2,K3,K4,VV,PV,PC,LV,LC,X0,X1,QV,QC,qC]
  (repeat refine ⟨by omega, ?_⟩)
  refine Cg cCUWcd.2 ?_
  simp only [vx,T,K5,J0,K6,K7,↓reduceIte,J1,J2,J3,J4,J5,J6,J7,J8,J9,reduceCtorEq,K1,K2,K3,K4,VV,PV,PC,LV,LC,X0,X1,QV,QC,qC]
  (repeat refine ⟨by omega, ?_⟩)
  refine Cg cDWabWcd.2 ?_
  simp only [vx,T,K5,J0,K6,K7,↓reduceIte,J1,J2,J3,J4,J5,J6,J7,J8,J9,reduceCtorEq,K1,K2,K3,K4,VV,PV,PC,LV,LC,X0,X1,QV,QC,qC]
  refine Va ⟨rfl, rfl, fun i' j' hi' hj' => ?_⟩
  obtain rfl : j' = 0 := by omega
  match i', hi' with
  | 0, _ => rfl
  | 1, _ => rfl
theorem rOf11 (cs : List Int) (n : Nat) (hn : n < 2 ^ 40) (c3 : C) (s : Int) (a b : Nat) (ha : a < 2 ^ 40) (hb : b < 2 ^ 40) : Pr Tryz.prog 9 [.agg [.int .i64 11, .ints .i64 [(a : Int), (b : Int)], .ints .i64 [], c3, .int .i64 s], .one (QsC []), .one (.ints .i64 cs), .one (.int .i64 n)] (LV [(wayM b a).2]) := by
  have bWba := NW.way b a hb ha
  have bS := NF.sub (NF.var (v := 2 * (a : Int) + 1) (by omega) (by omega)) (NF.var (v := 2 * (b : Int) + 1) (by omega) (by omega))
  have cPa := two_pt a ha
  have cPb := two_pt b hb
  have cS := two_sub (NF.var (v := 2 * (a : Int) + 1) (by omega) (by omega)) (NF.var (v := 2 * (b : Int) + 1) (by omega) (by omega)) (by decide)
  refine pv T_ok mixed Tryz.func9 rfl (by decide) _ (by simp [Tryz.ntmps9]) ⟨[0, 1, 2, 3, 4, 8, 9, 10, 11, 12, 13, 14, 15, 16, 17, 18, 19, 20, 21, 31, 69, 88, 105, 106, 126, 135, 141, 155, 167, 173, 179, 189, 211, 234, 248, 262, 276, 282, 288, 311], [(9, .nil), (11, .nil)]⟩ (by kernel_rfl) _ ?_
  show vc T _ _ (Option.get! Tryz.f9.body) _ _
  simp only [Tryz.f9,Tryz.ntmps9,Option.get!,iS,iM,eO,J1]
  simp only [vx,T,K5,J0,K6,K7,↓reduceIte,J1,J2,J3,J4,J5,J6,J7,J8,J9,reduceCtorEq,K1,K2,K3,K4,QsC,qC]
  refine ⟨fun h => absurd h (by simp), fun _ => Lg ?_⟩
  simp only [vx,T,K5,J0,K6,K7,↓reduceIte,J1,J2,J3,J4,J5,J6,J7,J8,J9,reduceCtorEq,K1,K2,K3,K4,VV,PV,PC,LV,LC,X0,X1,QV,QC,qC]
  (repeat refine ⟨by omega, ?_⟩)
  refine Cg (tW a b ha hb).2 ?_
  simp only [vx,T,K5,J0,K6,K7,↓reduceIte,J1,J2,J3,J4,J5,J6,J7,J8,J9,reduceCtorEq,K1,K2,K3,K4,VV,PV,PC,LV,LC,X0,X1,QV,QC,qC]
  (repeat refine ⟨by omega, ?_⟩)
  refine Cg (tW b 0 hb (by decide)).2 ?_
  simp only [vx,T,K5,J0,K6,K7,↓reduceIte,J1,J2,J3,J4,J5,J6,J7,J8,J9,reduceCtorEq,K1,K2,K3,K4,VV,PV,PC,LV,LC,X0,X1,QV,QC,qC]
  (repeat refine ⟨by omega, ?_⟩)
  refine Cg (tW b a hb ha).2 ?_
  simp only [vx,T,K5,J0,K6,K7,↓reduceIte,J1,J2,J3,J4,J5,J6,J7,J8,J9,reduceCtorEq,K1,K2,K3,K4,VV,PV,PC,LV,LC,X0,X1,QV,QC,qC]
  (repeat refine ⟨by omega, ?_⟩)
  refine Cg (tW 0 0 (by decide) (by decide)).2 ?_
  simp only [vx,T,K5,J0,K6,K7,↓reduceIte,J1,J2,J3,J4,J5,J6,J7,J8,J9,reduceCtorEq,K1,K2,K3,K4,VV,PV,PC,LV,LC,X0,X1,QV,QC,qC]
  refine ⟨fun h => absurd h (by simp), fun _ => Lg ?_⟩
  simp only [vx,T,K5,J0,K6,K7,↓reduceIte,J1,J2,J3,J4,J5,J6,J7,J8,J9,reduceCtorEq,K1,K2,K3,K4,VV,PV,PC,LV,LC,X0,X1,QV,QC,qC]
  refine ⟨fun h => absurd h (by simp), fun _ => Lg ?_⟩
  simp only [vx,T,K5,J0,K6,K7,↓reduceIte,J1,J2,J3,J4,J5,J6,J7,J8,J9,reduceCtorEq,K1,K2,K3,K4,VV,PV,PC,LV,LC,X0,X1,QV,QC,qC]
  (repeat refine ⟨by omega, ?_⟩)
  refine Cg cPa.2 ?_
  simp only [vx,T,K5,J0,K6,K7,↓reduceIte,J1,J2,J3,J4,J5,J6,J7,J8,J9,reduceCtorEq,K1,K2,K3,K4,VV,PV,PC,LV,LC,X0,X1,QV,QC,qC]
  (repeat refine ⟨by omega, ?_⟩)
  refine Cg cPb.2 ?_
  simp only [vx,T,K5,J0,K6,K7,↓reduceIte,J1,J2,J3,J4,J5,J6,J7,J8,J9,reduceCtorEq,K1,K2,K3,K4,VV,PV,PC,LV,LC,X0,X1,QV,QC,qC]
  (repeat refine ⟨by omega, ?_⟩)
  refine Cg cS.2 ?_
  simp only [vx,T,K5,J0,K6,K7,↓reduceIte,J1,J2,J3,J4,J5,J6,J7,J8,J9,reduceCtorEq,K1,K2,K3,K4,VV,PV,PC,LV,LC,X0,X1,QV,QC,qC]
  refine Va ⟨rfl, rfl, fun i' j' hi' hj' => ?_⟩
  obtain rfl : j' = 0 := by omega
  obtain rfl : i' = 0 := by omega
  rfl
theorem rOf12 (cs : List Int) (n : Nat) (hn : n < 2 ^ 40) (c3 : C) (s : Int) (a b : Nat) (ha : a < 2 ^ 40) (hb : b < 2 ^ 40) : Pr Tryz.prog 9 [.agg [.int .i64 12, .ints .i64 [(a : Int), (b : Int)], .ints .i64 [], c3, .int .i64 s], .one (QsC []), .one (.ints .i64 cs), .one (.int .i64 n)] (LV [(wayM b a).1]) := by
  have bWba := NW.way b a hb ha
  have bS := NF.sub (NF.var (v := 2 * (a : Int)) (by omega) (by omega)) (NF.var (v := 2 * (b : Int)) (by omega) (by omega))
  have cPa := two_pt a ha
  have cPb := two_pt b hb
  have cS := two_sub (NF.var (v := 2 * (a : Int)) (by omega) (by omega)) (NF.var (v := 2 * (b : Int)) (by omega) (by omega)) (by decide)
  refine pv T_ok mixed Tryz.func9 rfl (by decide) _ (by simp [Tryz.ntmps9]) ⟨[0, 1, 2, 3, 4, 8, 9, 10, 11, 12, 13, 14, 15, 16, 17, 18, 19, 20, 21, 31, 69, 88, 105, 106, 126, 135, 141, 155, 167, 173, 179, 189, 211, 234, 248, 262, 276, 282, 288, 311], [(9, .nil), (11, .nil)]⟩ (by kernel_rfl) _ ?_
  show vc T _ _ (Option.get! Tryz.f9.body) _ _
  simp only [Tryz.f9,Tryz.ntmps9,Option.get!,iS,iM,eO,J1]
  simp only [vx,T,K5,J0,K6,K7,↓reduceIte,J1,J2,J3,J4,J5,J6,J7,J8,J9,reduceCtorEq,K1,K2,K3,K4,QsC,qC]
  refine ⟨fun h => absurd h (by simp), fun _ => Lg ?_⟩
  simp only [vx,T,K5,J0,K6,K7,↓reduceIte,J1,J2,J3,J4,J5,J6,J7,J8,J9,reduceCtorEq,K1,K2,K3,K4,VV,PV,PC,LV,LC,X0,X1,QV,QC,qC]
  (repeat refine ⟨by omega, ?_⟩)
  refine Cg (tW a b ha hb).2 ?_
  simp only [vx,T,K5,J0,K6,K7,↓reduceIte,J1,J2,J3,J4,J5,J6,J7,J8,J9,reduceCtorEq,K1,K2,K3,K4,VV,PV,PC,LV,LC,X0,X1,QV,QC,qC]
  (repeat refine ⟨by omega, ?_⟩)
  refine Cg (tW b 0 hb (by decide)).2 ?_
  simp only [vx,T,K5,J0,K6,K7,↓reduceIte,J1,J2,J3,J4,J5,J6,J7,J8,J9,reduceCtorEq,K1,K2,K3,K4,VV,PV,PC,LV,LC,X0,X1,QV,QC,qC]
  (repeat refine ⟨by omega, ?_⟩)
  refine Cg (tW b a hb ha).2 ?_
  simp only [vx,T,K5,J0,K6,K7,↓reduceIte,J1,J2,J3,J4,J5,J6,J7,J8,J9,reduceCtorEq,K1,K2,K3,K4,VV,PV,PC,LV,LC,X0,X1,QV,QC,qC]
  (repeat refine ⟨by omega, ?_⟩)
  refine Cg (tW 0 0 (by decide) (by decide)).2 ?_
  simp only [vx,T,K5,J0,K6,K7,↓reduceIte,J1,J2,J3,J4,J5,J6,J7,J8,J9,reduceCtorEq,K1,K2,K3,K4,VV,PV,PC,LV,LC,X0,X1,QV,QC,qC]
  refine ⟨fun h => absurd h (by simp), fun _ => Lg ?_⟩
  simp only [vx,T,K5,J0,K6,K7,↓reduceIte,J1,J2,J3,J4,J5,J6,J7,J8,J9,reduceCtorEq,K1,K2,K3,K4,VV,PV,PC,LV,LC,X0,X1,QV,QC,qC]
  refine ⟨fun h => absurd h (by simp), fun _ => Lg ?_⟩
  simp only [vx,T,K5,J0,K6,K7,↓reduceIte,J1,J2,J3,J4,J5,J6,J7,J8,J9,reduceCtorEq,K1,K2,K3,K4,VV,PV,PC,LV,LC,X0,X1,QV,QC,qC]
  (repeat refine ⟨by omega, ?_⟩)
  refine Cg cPa.2 ?_
  simp only [vx,T,K5,J0,K6,K7,↓reduceIte,J1,J2,J3,J4,J5,J6,J7,J8,J9,reduceCtorEq,K1,K2,K3,K4,VV,PV,PC,LV,LC,X0,X1,QV,QC,qC]
  (repeat refine ⟨by omega, ?_⟩)
  refine Cg cPb.2 ?_
  simp only [vx,T,K5,J0,K6,K7,↓reduceIte,J1,J2,J3,J4,J5,J6,J7,J8,J9,reduceCtorEq,K1,K2,K3,K4,VV,PV,PC,LV,LC,X0,X1,QV,QC,qC]
  (repeat refine ⟨by omega, ?_⟩)
  refine Cg cS.2 ?_
  simp only [vx,T,K5,J0,K6,K7,↓reduceIte,J1,J2,J3,J4,J5,J6,J7,J8,J9,reduceCtorEq,K1,K2,K3,K4,VV,PV,PC,LV,LC,X0,X1,QV,QC,qC]
  refine Va ⟨rfl, rfl, fun i' j' hi' hj' => ?_⟩
  obtain rfl : j' = 0 := by omega
  obtain rfl : i' = 0 := by omega
  rfl
end Go.Proofs.YtllnmicmblbfaaaGreat
