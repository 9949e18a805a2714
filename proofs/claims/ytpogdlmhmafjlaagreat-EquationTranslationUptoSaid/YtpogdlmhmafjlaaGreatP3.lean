/-
  EquationTranslation, where what it reads is of bulk at most 1048576: the law returns true, and each argument reads afterwards as it read before. No condition beyond the given row's own cells.
  (Text 3 of 9; made by a program out of smaller texts.)
-/
import Derived.Test.YtpogdlmhmafjlaaGreatProg
import Derived.KernelRfl
import Derived.IntWalk
import Derived.Test.YtpogdlmhmafjlaaGreatP2
set_option linter.unusedSimpArgs false
set_option linter.unusedVariables false
set_option maxHeartbeats 16000000
set_option maxRecDepth 10000
open Nat renaming reduceAdd → J1, reduceMul → J2, reduceSub → J3, reduceEqDiff → J4, reduceLT → J5, reduceLeDiff → J6, reduceBEq → J7, reduceDiv → J8, reduceMod → J9, reducePow → J0
open Int renaming reduceToNat → K1, reduceLE → K2, reduceLT → K3, reduceEq → K4, reducePow → K5, reduceSub → K6, reduceNeg → K7, natCast_add → X2, natCast_one → X3, natCast_zero → X4
open List renaming getD_cons_zero → X0, getD_cons_succ → X1, length_take → X5, length_append → X6, getD_eq_getElem?_getD → X7, getElem?_eq_getElem → X8
/-
  THE ENGINE, PART W: the rules by which a text's proposition is reckoned. Each fires at a state that is written out, and nowhere else.
-/
namespace Go.Eng
open Go
section
variable {T : Tab} {P : Program} {kp : Kp} {e : List (Nat × V)} {o : List (Nat × Blk)} {x n : Nat} {Q : Exit → St → Prop} {K : St → Prop} {KE : Eff → Prop}
theorem vc_skip : vc T P kp .skip ⟨e, o, x, n⟩ Q = Q .normal ⟨e, o, x, n⟩ := rfl
theorem vc_region {id : Nat} {ops : Array Oper} {d : Bool} : vc T P kp (.region id ops d) ⟨e, o, x, n⟩ Q = vcRegion T P kp.ms id d ops.toList ⟨e, o, x, n⟩ (fun s' => Q .normal (gc kp.ks s')) := rfl
def seqQ (T : Tab) (P : Program) (kp : Kp) (b : Code) (Q : Exit → St → Prop) : Exit → St → Prop := fun e s' => match e with
    | .normal => vc T P kp b s' Q
    | e => Q e s'
theorem vc_seq {a b : Code} : vc T P kp (.seq a b) ⟨e, o, x, n⟩ Q = vc T P kp a ⟨e, o, x, n⟩ (seqQ T P kp b Q) := rfl
theorem seqQ_normal {b : Code} : seqQ T P kp b Q .normal ⟨e, o, x, n⟩ = vc T P kp b ⟨e, o, x, n⟩ Q := rfl
theorem seqQ_ret {b : Code} : seqQ T P kp b Q .ret ⟨e, o, x, n⟩ = Q .ret ⟨e, o, x, n⟩ := rfl
theorem seqQ_exit {b : Code} {id : Nat} : seqQ T P kp b Q (.exit id) ⟨e, o, x, n⟩ = Q (.exit id) ⟨e, o, x, n⟩ := rfl
def condK (v : V) (A B : St → Prop) (s : St) : Prop := match v with
  | .one (.bool t) => (t = true → Later A s) ∧ (t = false → Later B s)
  | _ => False
theorem condK_bool {t : Bool} {A B : St → Prop} {s : St} : condK (.one (.bool t)) A B s = ((t = true → Later A s) ∧ (t = false → Later B s)) := rfl
theorem later_t {α : Type} {A : α → Prop} {s : α} : (True → Later A s) = A s := by simp only [true_imp_iff]; rfl
theorem later_f {α : Type} {A : α → Prop} {s : α} : (False → Later A s) = True := by simp only [false_imp_iff]
theorem vc_cond {c : Operand} {a b : Code} : vc T P kp (.cond c a b) ⟨e, o, x, n⟩ Q = condK (St.ev ⟨e, o, x, n⟩ c) (fun s => vc T P kp a s Q) (fun s => vc T P kp b s Q) ⟨e, o, x, n⟩ := rfl
def blockQ (id : Nat) (Q : Exit → St → Prop) : Exit → St → Prop := fun e s' => match e with
    | .exit id' => if id' = id then Q .normal s' else Q (.exit id') s'
    | e => Q e s'
theorem vc_block {id : Nat} {c : Code} : vc T P kp (.block id c) ⟨e, o, x, n⟩ Q = vc T P kp c ⟨e, o, x, n⟩ (blockQ id Q) := rfl
theorem blockQ_normal {id : Nat} : blockQ id Q .normal ⟨e, o, x, n⟩ = Q .normal ⟨e, o, x, n⟩ := rfl
theorem blockQ_ret {id : Nat} : blockQ id Q .ret ⟨e, o, x, n⟩ = Q .ret ⟨e, o, x, n⟩ := rfl
theorem blockQ_exit {id id' : Nat} : blockQ id Q (.exit id') ⟨e, o, x, n⟩ = if id' = id then Q .normal ⟨e, o, x, n⟩ else Q (.exit id') ⟨e, o, x, n⟩ := rfl
def loopQ {ι : Type} (I : ι → St) (m : ι → Nat) (k : Nat) (Q : Exit → St → Prop) : Exit → St → Prop := fun e s' => match e with
    | .normal => ∃ y, Sub s' (I y) ∧ m y < k
    | e => Q e s'
def LoopK (T : Tab) (P : Program) (kp : Kp) (c : Code) (Q : Exit → St → Prop) (s : St) : Prop :=
  ∃ (ι : Type) (I : ι → St) (m : ι → Nat) (x0 : ι), Sub s (I x0) ∧ ∀ x, vc T P kp c (I x) (loopQ I m (m x) Q)
theorem vc_loop {c : Code} : vc T P kp (.loop c) ⟨e, o, x, n⟩ Q = LoopK T P kp c Q ⟨e, o, x, n⟩ := rfl
theorem Lk {c : Code} {s : St} {ι : Type} (I : ι → St) (m : ι → Nat) (x0 : ι) (h0 : Sub s (I x0)) (h : ∀ x, vc T P kp c (I x) (loopQ I m (m x) Q)) : LoopK T P kp c Q s := ⟨ι, I, m, x0, h0, h⟩
theorem loopQ_ret {ι : Type} {I : ι → St} {m : ι → Nat} {k : Nat} : loopQ I m k Q .ret ⟨e, o, x, n⟩ = Q .ret ⟨e, o, x, n⟩ := rfl
theorem loopQ_exit {ι : Type} {I : ι → St} {m : ι → Nat} {k id : Nat} : loopQ I m k Q (.exit id) ⟨e, o, x, n⟩ = Q (.exit id) ⟨e, o, x, n⟩ := rfl
theorem Lq {ι : Type} {I : ι → St} {m : ι → Nat} {k : Nat} {s : St} (y : ι) (h : Sub s (I y)) (h1 : m y < k) : loopQ I m k Q .normal s := ⟨y, h, h1⟩
theorem vc_exit {id : Nat} : vc T P kp (.exit id) ⟨e, o, x, n⟩ Q = Q (.exit id) ⟨e, o, x, n⟩ := rfl
theorem vc_ret : vc T P kp .ret ⟨e, o, x, n⟩ Q = Q .ret ⟨e, o, x, n⟩ := rfl
theorem vcRegion_t {ms : List (Nat × WL)} {id : Nat} {os : List Oper} : vcRegion T P ms id true os ⟨e, o, x, n⟩ K = vcDraw T P (modeOf ms id) os ⟨e, o, x, n⟩ K := by simp only [vcRegion,if_true]
theorem vcDraw_none {os : List Oper} : vcDraw T P none os ⟨e, o, x, n⟩ K = vcR T P x os.length 0 os [] ⟨e, o, x, n⟩ K := rfl
theorem vcDraw_some {ws : WL} {os : List Oper} : vcDraw T P (some ws) os ⟨e, o, x, n⟩ K = vcGR T P x os.length ws 0 os [] ⟨e, o, x, n⟩ (fun s' => vcGW T P os ws s' K) := rfl
theorem vcRegion_f {ms : List (Nat × WL)} {id : Nat} {os : List Oper} : vcRegion T P ms id false os ⟨e, o, x, n⟩ K = vcW T P 0 os [] ⟨e, o, x, n⟩ K := by simp only [vcRegion,Bool.false_eq_true,if_false]
def stepW (T : Tab) (P : Program) (i : Nat) (os : List Oper) (gd : List (Nat × Tmp)) (dst : Option Tmp) (op : Op) (K : St → Prop) (s : St) : Prop :=
  if isWr op then wOp T op dst s (fun s' => vcW T P (i + 1) os gd s' K)
  else if isCallV op then orM (rOp T P op s s.nx s.nx (frozenUse dst os) (fun e => gsplit (uG i os) e fun e' => vcW T P (i + 1) os (gset (uG i os) i dst gd) (after s dst e') K)) (mCall P op dst s (fun s' => vcW T P (i + 1) os gd s' K))
  else rOp T P op s s.nx s.nx (frozenUse dst os) (fun e => gsplit (uG i os) e fun e' => vcW T P (i + 1) os (gset (uG i os) i dst gd) (after s dst e') K)
def gsel (v : Option V) (want : Bool) (A B : St → Prop) (s : St) : Prop :=
  match v.bind gv with
  | some b => if b = some want then A s else B s
  | none => False
theorem vcW_nil {i : Nat} {gd : List (Nat × Tmp)} : vcW T P i [] gd ⟨e, o, x, n⟩ K = K ⟨e, o, x, n⟩ := rfl
theorem vcW_none {i : Nat} {gd : List (Nat × Tmp)} {dst : Option Tmp} {op : Op} {ty : TypeId} {pos : String} {af : Array Edge} {os : List Oper} :
    vcW T P i (⟨dst, op, ty, pos, af, none⟩ :: os) gd ⟨e, o, x, n⟩ K = (dstB dst n ∧ stepW T P i os gd dst op K ⟨e, o, x, n⟩) := rfl
theorem vcW_some {i g : Nat} {want : Bool} {gd : List (Nat × Tmp)} {dst : Option Tmp} {op : Op} {ty : TypeId} {pos : String} {af : Array Edge} {os : List Oper} :
    vcW T P i (⟨dst, op, ty, pos, af, some (g, want)⟩ :: os) gd ⟨e, o, x, n⟩ K = (dstB dst n ∧ gsel ((glook gd g).map (lk e)) want (stepW T P i os gd dst op K) (fun s => vcW T P (i + 1) os (gset (uG i os) i dst gd) (s.put dst (.tup [])) K) ⟨e, o, x, n⟩) := by
  simp only [vcW,guarded,gsel]
  cases glook gd g with
  | none => rfl
  | some t => rfl
def stepR (T : Tab) (P : Program) (nx0 len : Nat) (i : Nat) (os : List Oper) (gd : List (Nat × Tmp)) (dst : Option Tmp) (op : Op) (K : St → Prop) (s : St) : Prop :=
  if isCallV op then orM (rOp T P op s nx0 (nx0 + i) (frozenUse dst os) (fun e => fzB nx0 e.fz ∧ gsplit (uG i os) e fun e' => vcR T P nx0 len (i + 1) os (gset (uG i os) i dst gd) (s.add dst (nx0 + i) e') K)) False else rOp T P op s nx0 (nx0 + i) (frozenUse dst os) (fun e => fzB nx0 e.fz ∧ gsplit (uG i os) e fun e' => vcR T P nx0 len (i + 1) os (gset (uG i os) i dst gd) (s.add dst (nx0 + i) e') K)
theorem vcR_nil {nx0 len i : Nat} {gd : List (Nat × Tmp)} : vcR T P nx0 len i [] gd ⟨e, o, x, n⟩ K = K ⟨e, o, nx0 + len, n⟩ := rfl
def lastK (l : Bool) (A B : St → Prop) (s : St) : Prop := if l then A s else B s
theorem lastK_t {A B : St → Prop} {s : St} : lastK true A B s = A s := rfl
theorem lastK_f {A B : St → Prop} {s : St} : lastK false A B s = B s := rfl
def setNx (s : St) (m : Nat) : St := { s with nx := m }
theorem setNx_mk {m : Nat} : setNx ⟨e, o, x, n⟩ m = ⟨e, o, m, n⟩ := rfl
theorem vcR_none {nx0 len i : Nat} {gd : List (Nat × Tmp)} {dst : Option Tmp} {op : Op} {ty : TypeId} {pos : String} {af : Array Edge} {os : List Oper} :
    vcR T P nx0 len i (⟨dst, op, ty, pos, af, none⟩ :: os) gd ⟨e, o, x, n⟩ K = lastK (isLast op) (fun s => vcW T P i (⟨dst, op, ty, pos, af, none⟩ :: os) gd (setNx s (nx0 + len)) K) (fun s => dstB dst n ∧ stepR T P nx0 len i os gd dst op K s) ⟨e, o, x, n⟩ := rfl
theorem vcR_some {nx0 len i g : Nat} {want : Bool} {gd : List (Nat × Tmp)} {dst : Option Tmp} {op : Op} {ty : TypeId} {pos : String} {af : Array Edge} {os : List Oper} :
    vcR T P nx0 len i (⟨dst, op, ty, pos, af, some (g, want)⟩ :: os) gd ⟨e, o, x, n⟩ K = lastK (isLast op) (fun s => vcW T P i (⟨dst, op, ty, pos, af, some (g, want)⟩ :: os) gd (setNx s (nx0 + len)) K)
      (fun s => dstB dst n ∧ gsel ((glook gd g).map (lk s.env)) want (stepR T P nx0 len i os gd dst op K) (fun s => vcR T P nx0 len (i + 1) os (gset (uG i os) i dst gd) (s.put dst (.tup [])) K) s) ⟨e, o, x, n⟩ := by
  simp only [vcR,guarded,gsel,lastK]
  cases glook gd g with
  | none => rfl
  | some t => rfl
def stepG (T : Tab) (P : Program) (nx0 len : Nat) (ws : WL) (i : Nat) (os : List Oper) (gd : List (Nat × Tmp)) (dst : Option Tmp) (op : Op) (K : St → Prop) (s : St) : Prop :=
  if isCallV op then orM (rOp T P op s nx0 (nx0 + i) (frozenUse dst os) (fun e => fzB nx0 e.fz ∧ gsplit (uG i os) e fun e' => vcGR T P nx0 len ws (i + 1) os (gset (uG i os) i dst gd) (s.add dst (nx0 + i) e') K)) False else rOp T P op s nx0 (nx0 + i) (frozenUse dst os) (fun e => fzB nx0 e.fz ∧ gsplit (uG i os) e fun e' => vcGR T P nx0 len ws (i + 1) os (gset (uG i os) i dst gd) (s.add dst (nx0 + i) e') K)
theorem vcGR_nil {nx0 len i : Nat} {ws : WL} {gd : List (Nat × Tmp)} : vcGR T P nx0 len ws i [] gd ⟨e, o, x, n⟩ K = K ⟨e, o, nx0 + len, n⟩ := rfl
theorem vcGR_none {nx0 len i : Nat} {ws : WL} {gd : List (Nat × Tmp)} {dst : Option Tmp} {op : Op} {ty : TypeId} {pos : String} {af : Array Edge} {os : List Oper} :
    vcGR T P nx0 len ws i (⟨dst, op, ty, pos, af, none⟩ :: os) gd ⟨e, o, x, n⟩ K = lastK (wHas ws i) (fun s => vcGR T P nx0 len ws (i + 1) os gd s K) (fun s => dstB dst n ∧ stepG T P nx0 len ws i os gd dst op K s) ⟨e, o, x, n⟩ := by
  simp only [vcGR,guarded,lastK,stepG]
theorem vcGR_some {nx0 len i g : Nat} {want : Bool} {ws : WL} {gd : List (Nat × Tmp)} {dst : Option Tmp} {op : Op} {ty : TypeId} {pos : String} {af : Array Edge} {os : List Oper} :
    vcGR T P nx0 len ws i (⟨dst, op, ty, pos, af, some (g, want)⟩ :: os) gd ⟨e, o, x, n⟩ K = lastK (wHas ws i) (fun s => vcGR T P nx0 len ws (i + 1) os gd s K)
      (fun s => dstB dst n ∧ gsel ((glook gd g).map (lk s.env)) want (stepG T P nx0 len ws i os gd dst op K) (fun s => vcGR T P nx0 len ws (i + 1) os (gset (uG i os) i dst gd) (s.put dst (.tup [])) K) s) ⟨e, o, x, n⟩ := by
  simp only [vcGR,lastK]
  congr 1
  simp only [guarded,gsel,stepG]
  cases glook gd g with
  | none => rfl
  | some t => rfl
theorem stepG_c {nx0 len i : Nat} {ws : WL} {os : List Oper} {gd : List (Nat × Tmp)} {dst : Option Tmp} {op : Op} (h1 : isCallV op = true) : stepG T P nx0 len ws i os gd dst op K ⟨e, o, x, n⟩ =
  orM (rOp T P op ⟨e, o, x, n⟩ nx0 (nx0 + i) (frozenUse dst os) (fun e' => fzB nx0 e'.fz ∧ gsplit (uG i os) e' fun e'' => vcGR T P nx0 len ws (i + 1) os (gset (uG i os) i dst gd) (St.add ⟨e, o, x, n⟩ dst (nx0 + i) e'') K)) False := by
  unfold stepG; rw [if_pos h1]
theorem stepG_r {nx0 len i : Nat} {ws : WL} {os : List Oper} {gd : List (Nat × Tmp)} {dst : Option Tmp} {op : Op} (h1 : isCallV op = false) : stepG T P nx0 len ws i os gd dst op K ⟨e, o, x, n⟩ =
  rOp T P op ⟨e, o, x, n⟩ nx0 (nx0 + i) (frozenUse dst os) (fun e' => fzB nx0 e'.fz ∧ gsplit (uG i os) e' fun e'' => vcGR T P nx0 len ws (i + 1) os (gset (uG i os) i dst gd) (St.add ⟨e, o, x, n⟩ dst (nx0 + i) e'') K) := by
  unfold stepG; rw [if_neg (by rw [h1]; simp)]
theorem vcGW_nil {os : List Oper} : vcGW T P os .nil ⟨e, o, x, n⟩ K = K ⟨e, o, x, n⟩ := by rw [vcGW]
theorem vcGW_one {os : List Oper} {i : Nat} {pd : List Nat} {r : WL} : vcGW T P os (.cons i pd r .nil) ⟨e, o, x, n⟩ K = someP os[i]? (fun p => dstB p.dst n ∧ wAny T P p os ⟨e, o, x, n⟩ (fun s' => prom T P os pd s' ∧ vcGW T P os r s' K)) := by
  rw [vcGW, vcGS]
  cases os[i]? <;> rfl
theorem vcGW_more {os : List Oper} {i j : Nat} {pd pd' : List Nat} {r r' al : WL} : vcGW T P os (.cons i pd r (.cons j pd' r' al)) ⟨e, o, x, n⟩ K = (someP os[i]? (fun p => dstB p.dst n ∧ wAny T P p os ⟨e, o, x, n⟩ (fun s' => prom T P os pd s' ∧ vcGW T P os r s' K)) ∧ vcGW T P os (.cons j pd' r' al) ⟨e, o, x, n⟩ K) := by
  rw [vcGW, vcGS]
  cases os[i]? <;> rfl
theorem wAny_w {os : List Oper} {dst : Option Tmp} {op : Op} {ty : TypeId} {pos : String} {af : Array Edge} {g : Option (Nat × Bool)} (h : isWr op = true) : wAny T P ⟨dst, op, ty, pos, af, g⟩ os ⟨e, o, x, n⟩ K = wOp T op dst ⟨e, o, x, n⟩ K := by
  unfold wAny; exact if_pos h
theorem wAny_c {os : List Oper} {dst : Option Tmp} {op : Op} {ty : TypeId} {pos : String} {af : Array Edge} {g : Option (Nat × Bool)} (h : isWr op = false) (h1 : isCallV op = true) : wAny T P ⟨dst, op, ty, pos, af, g⟩ os ⟨e, o, x, n⟩ K =
    orM (rOp T P op ⟨e, o, x, n⟩ x x (frozenUse dst os) (fun e' => K (after ⟨e, o, x, n⟩ dst e'))) (mCall P op dst ⟨e, o, x, n⟩ K) := by
  unfold wAny; simp only [h,h1,Bool.false_eq_true,if_false,if_true]
theorem wAny_r {os : List Oper} {dst : Option Tmp} {op : Op} {ty : TypeId} {pos : String} {af : Array Edge} {g : Option (Nat × Bool)} (h : isWr op = false) (h1 : isCallV op = false) : wAny T P ⟨dst, op, ty, pos, af, g⟩ os ⟨e, o, x, n⟩ K =
    rOp T P op ⟨e, o, x, n⟩ x x (frozenUse dst os) (fun e' => K (after ⟨e, o, x, n⟩ dst e')) := by
  unfold wAny; simp only [h,h1,Bool.false_eq_true,if_false]
theorem prom_nil {os : List Oper} {s : St} : prom T P os [] s = True := rfl
theorem prom_cons {os : List Oper} {j : Nat} {r : List Nat} : prom T P os (j :: r) ⟨e, o, x, n⟩ = (someP os[j]? (fun p => someP p.dst fun d => d < n ∧ promO T P os p d ⟨e, o, x, n⟩) ∧ prom T P os r ⟨e, o, x, n⟩) := by
  simp only [prom]
  cases os[j]? with
  | none => rfl
  | some p => cases h : p.dst <;> simp only [someP,h]
theorem promO_n {os : List Oper} {d : Nat} {dst : Option Tmp} {op : Op} {ty : TypeId} {pos : String} {af : Array Edge} : promO T P os ⟨dst, op, ty, pos, af, none⟩ d ⟨e, o, x, n⟩ = rOp T P op ⟨e, o, x, n⟩ x x false (fun e' => e'.val = lk e d) := rfl
theorem promO_s {os : List Oper} {d g : Nat} {want : Bool} {dst : Option Tmp} {op : Op} {ty : TypeId} {pos : String} {af : Array Edge} : promO T P os ⟨dst, op, ty, pos, af, some (g, want)⟩ d ⟨e, o, x, n⟩ =
    someP os[g]? (fun p => someP p.dst fun t => gsel (some (lk e t)) want (fun _ => rOp T P op ⟨e, o, x, n⟩ x x false (fun e' => e'.val = lk e d)) (fun _ => lk e d = .tup []) ⟨e, o, x, n⟩) := by
  unfold promO
  simp only [gsel,Option.bind_some]
  cases os[g]? with
  | none => rfl
  | some p =>
    simp only [Option.bind_some,someP]
    cases p.dst with
    | none => rfl
    | some t => simp only [someP]; cases gv (lk e t) <;> rfl
theorem gsel_tt {A B : St → Prop} {s : St} : gsel (some (.one (.bool true))) true A B s = A s := rfl
theorem frzs_e {o : List (Nat × Blk)} : frzs o [] = o := rfl
theorem gsel_s {A B : St → Prop} {s : St} {w : Bool} : gsel (some (.tup [])) w A B s = B s := rfl
theorem gsel_tf {A B : St → Prop} {s : St} : gsel (some (.one (.bool true))) false A B s = B s := rfl
theorem gsel_ft {A B : St → Prop} {s : St} : gsel (some (.one (.bool false))) true A B s = B s := rfl
theorem gsel_ff {A B : St → Prop} {s : St} : gsel (some (.one (.bool false))) false A B s = A s := rfl
theorem stepW_w {i : Nat} {os : List Oper} {gd : List (Nat × Tmp)} {dst : Option Tmp} {op : Op} (h : isWr op = true) : stepW T P i os gd dst op K ⟨e, o, x, n⟩ = wOp T op dst ⟨e, o, x, n⟩ (fun s' => vcW T P (i + 1) os gd s' K) := if_pos h
theorem stepW_c {i : Nat} {os : List Oper} {gd : List (Nat × Tmp)} {dst : Option Tmp} {op : Op} (h : isWr op = false) (h1 : isCallV op = true) : stepW T P i os gd dst op K ⟨e, o, x, n⟩ =
  orM (rOp T P op ⟨e, o, x, n⟩ x x (frozenUse dst os) (fun e' => gsplit (uG i os) e' fun e'' => vcW T P (i + 1) os (gset (uG i os) i dst gd) (after ⟨e, o, x, n⟩ dst e'') K)) (mCall P op dst ⟨e, o, x, n⟩ (fun s' => vcW T P (i + 1) os gd s' K)) := by
  unfold stepW; rw [h, h1]; rfl
theorem stepW_r {i : Nat} {os : List Oper} {gd : List (Nat × Tmp)} {dst : Option Tmp} {op : Op} (h : isWr op = false) (h1 : isCallV op = false) : stepW T P i os gd dst op K ⟨e, o, x, n⟩ =
  rOp T P op ⟨e, o, x, n⟩ x x (frozenUse dst os) (fun e' => gsplit (uG i os) e' fun e'' => vcW T P (i + 1) os (gset (uG i os) i dst gd) (after ⟨e, o, x, n⟩ dst e'') K) := by
  unfold stepW; rw [h, h1]; rfl
theorem stepR_c {nx0 len i : Nat} {os : List Oper} {gd : List (Nat × Tmp)} {dst : Option Tmp} {op : Op} (h1 : isCallV op = true) : stepR T P nx0 len i os gd dst op K ⟨e, o, x, n⟩ =
  orM (rOp T P op ⟨e, o, x, n⟩ nx0 (nx0 + i) (frozenUse dst os) (fun e' => fzB nx0 e'.fz ∧ gsplit (uG i os) e' fun e'' => vcR T P nx0 len (i + 1) os (gset (uG i os) i dst gd) (St.add ⟨e, o, x, n⟩ dst (nx0 + i) e'') K)) False := by
  unfold stepR; rw [h1]; rfl
theorem stepR_r {nx0 len i : Nat} {os : List Oper} {gd : List (Nat × Tmp)} {dst : Option Tmp} {op : Op} (h1 : isCallV op = false) : stepR T P nx0 len i os gd dst op K ⟨e, o, x, n⟩ =
  rOp T P op ⟨e, o, x, n⟩ nx0 (nx0 + i) (frozenUse dst os) (fun e' => fzB nx0 e'.fz ∧ gsplit (uG i os) e' fun e'' => vcR T P nx0 len (i + 1) os (gset (uG i os) i dst gd) (St.add ⟨e, o, x, n⟩ dst (nx0 + i) e'') K) := by
  unfold stepR; rw [h1]; rfl
theorem gsplit_f {v : V} {b : Option Bk} {f : List Nat} : gsplit false ⟨v, b, f⟩ KE = KE ⟨v, b, f⟩ := rfl
theorem gsplit_t {t : Bool} {b : Option Bk} {f : List Nat} : gsplit true ⟨.one (.bool t), b, f⟩ KE = ((t = true → Later KE ⟨.one (.bool true), b, f⟩) ∧ (t = false → Later KE ⟨.one (.bool false), b, f⟩)) := rfl
theorem put_some {d : Nat} {v : V} : St.put ⟨e, o, x, n⟩ (some d) v = ⟨(d, v) :: e, o, x, n⟩ := rfl
theorem put_none {v : V} : St.put ⟨e, o, x, n⟩ none v = ⟨e, o, x, n⟩ := rfl
theorem after_some {d : Nat} {v : V} : after ⟨e, o, x, n⟩ (some d) ⟨v, none, []⟩ = ⟨(d, v) :: e, o, x + 1, n⟩ := rfl
theorem after_none {v : V} : after ⟨e, o, x, n⟩ none ⟨v, none, []⟩ = ⟨e, o, x + 1, n⟩ := rfl
theorem after_fz {d b : Nat} {v : V} {l : List Nat} : after ⟨e, o, x, n⟩ (some d) ⟨v, none, b :: l⟩ = ⟨(d, v) :: e, frz o (b :: l), x + 1, n⟩ := rfl
theorem after_blk {d : Nat} {v : V} {B : Bk} : after ⟨e, o, x, n⟩ (some d) ⟨v, some B, []⟩ = ⟨(d, v) :: e, upd o x ⟨B, true⟩, x + 1, n⟩ := rfl
theorem after_bf {d b : Nat} {v : V} {l : List Nat} {B : Bk} : after ⟨e, o, x, n⟩ (some d) ⟨v, some B, b :: l⟩ = ⟨(d, v) :: e, upd (frz o (b :: l)) x ⟨B, true⟩, x + 1, n⟩ := rfl
theorem add_bf {d b id : Nat} {v : V} {l : List Nat} {B : Bk} : St.add ⟨e, o, x, n⟩ (some d) id ⟨v, some B, b :: l⟩ = ⟨(d, v) :: e, upd (frz o (b :: l)) id ⟨B, true⟩, x, n⟩ := rfl
theorem add_some {d id : Nat} {v : V} : St.add ⟨e, o, x, n⟩ (some d) id ⟨v, none, []⟩ = ⟨(d, v) :: e, o, x, n⟩ := rfl
theorem add_none {id : Nat} {v : V} : St.add ⟨e, o, x, n⟩ none id ⟨v, none, []⟩ = ⟨e, o, x, n⟩ := rfl
theorem add_fz {d b id : Nat} {v : V} {l : List Nat} : St.add ⟨e, o, x, n⟩ (some d) id ⟨v, none, b :: l⟩ = ⟨(d, v) :: e, frz o (b :: l), x, n⟩ := rfl
theorem add_blk {d id : Nat} {v : V} {B : Bk} : St.add ⟨e, o, x, n⟩ (some d) id ⟨v, some B, []⟩ = ⟨(d, v) :: e, upd o id ⟨B, true⟩, x, n⟩ := rfl
theorem gc_mk {ks : List Nat} : gc ks ⟨e, o, x, n⟩ = ⟨ks.map (fun t => (t, lk e t)), o, x, n⟩ := rfl
theorem ev_tmp {t : Nat} : St.ev ⟨e, o, x, n⟩ (.tmp t) = lk e t := rfl
theorem ev_const {v : Value} : St.ev ⟨e, o, x, n⟩ (.const v) = cv v := rfl
theorem ev_func {f : Nat} : St.ev ⟨e, o, x, n⟩ (.func f) = .one (.fn f 0 (fun _ => .any)) := rfl
theorem cv_int {k : IntKind} {i : Int} : cv (.int k i) = .one (.int k i) := rfl
theorem cv_bool {b : Bool} : cv (.bool b) = .one (.bool b) := rfl
theorem cv_nil : cv (.slice none 0 0) = .one .nil := rfl
theorem cv_str {b : ByteArray} : cv (.string b) = .one (.str b) := rfl
theorem rOp_move {a : Operand} {nx id : Nat} {fz : Bool} : rOp T P (.move a) ⟨e, o, x, n⟩ nx id fz KE = KE ⟨St.ev ⟨e, o, x, n⟩ a, none, []⟩ := rfl
theorem rOp_assign {a : Operand} {nx id : Nat} {fz : Bool} : rOp T P (.assign a) ⟨e, o, x, n⟩ nx id fz KE = KE ⟨St.ev ⟨e, o, x, n⟩ a, none, []⟩ := rfl
def pickV (t a b : V) : Option V := match t with
  | .one (.bool t) => some (if t then a else b)
  | _ => none
theorem pickV_t {a b : V} : pickV (.one (.bool true)) a b = some a := rfl
theorem pickV_f {a b : V} : pickV (.one (.bool false)) a b = some b := rfl
theorem rOp_pick {c a b : Operand} {nx id : Nat} {fz : Bool} : rOp T P (.pick c a b) ⟨e, o, x, n⟩ nx id fz KE = someP (pickV (St.ev ⟨e, o, x, n⟩ c) (St.ev ⟨e, o, x, n⟩ a) (St.ev ⟨e, o, x, n⟩ b)) (fun v => KE ⟨v, none, []⟩) := by
  simp only [rOp]
  cases St.ev ⟨e, o, x, n⟩ c with
  | one c => cases c <;> rfl
  | _ => rfl
theorem rOp_alloc {t : Nat} {nx id : Nat} {fz : Bool} : rOp T P (.alloc t) ⟨e, o, x, n⟩ nx id fz KE = someP (T t) (fun E => KE ⟨.one (.ptr id 0), some (.var E.zero), []⟩) := by
  simp only [rOp]; cases T t <;> rfl
theorem rOp_box {t : Nat} {a : Operand} {nx id : Nat} {fz : Bool} : rOp T P (.box t a) ⟨e, o, x, n⟩ nx id fz KE = ((St.ev ⟨e, o, x, n⟩ a).solid = true ∧ KE ⟨.one (.ptr id 0), some (.var (cellsOf (St.ev ⟨e, o, x, n⟩ a))), []⟩) := rfl
def stOf : TyK → Option (List (Nat × Nat))
  | .st fs => some fs
  | _ => none
theorem rOp_build {t : Nat} {ps : Array (Nat × Operand)} {nx id : Nat} {fz : Bool} : rOp T P (.build t ps) ⟨e, o, x, n⟩ nx id fz KE = someP (T t) (fun E => someP (stOf E.k) fun fs => someP (fillC fs E.zero (ps.toList.map fun p => (p.1, St.ev ⟨e, o, x, n⟩ p.2))) fun cs => KE ⟨.agg cs, none, []⟩) := by
  simp only [rOp]
  cases T t with
  | none => rfl
  | some E =>
    simp only [someP_some]
    cases E.k with
    | st fs => simp only [stOf,someP_some]; cases fillC fs E.zero (ps.toList.map fun p => (p.1, St.ev ⟨e, o, x, n⟩ p.2)) <;> rfl
    | _ => rfl
theorem rOp_buildSlice {t l : Nat} {ps : Array (Nat × Operand)} {nx id : Nat} {fz : Bool} : rOp T P (.buildSlice t l ps) ⟨e, o, x, n⟩ nx id fz KE = rBuildSlice T ⟨e, o, x, n⟩ nx id fz t l ps KE := rfl
theorem rOp_load {t : Nat} {a : Operand} {nx id : Nat} {fz : Bool} : rOp T P (.load t a) ⟨e, o, x, n⟩ nx id fz KE = rLoad T ⟨e, o, x, n⟩ nx t a KE := rfl
theorem rOp_bin {op : BinOp} {t t' : Nat} {a b : Operand} {nx id : Nat} {fz : Bool} : rOp T P (.binOp op t a b t') ⟨e, o, x, n⟩ nx id fz KE = rBin T ⟨e, o, x, n⟩ op t a b KE := rfl
theorem rOp_un {op : UnOp} {t : Nat} {a : Operand} {nx id : Nat} {fz : Bool} : rOp T P (.unOp op t a) ⟨e, o, x, n⟩ nx id fz KE = rUn ⟨e, o, x, n⟩ op a KE := rfl
theorem rOp_conv {t t' : Nat} {a : Operand} {nx id : Nat} {fz : Bool} : rOp T P (.convert t t' a) ⟨e, o, x, n⟩ nx id fz KE = rConvert T ⟨e, o, x, n⟩ t t' a KE := rfl
theorem rOp_make {t : Nat} {a b : Operand} {nx id : Nat} {fz : Bool} : rOp T P (.makeSlice t a b) ⟨e, o, x, n⟩ nx id fz KE = rMakeSlice T ⟨e, o, x, n⟩ id t a b KE := rfl
theorem rOp_slice {t : Nat} {a : Operand} {lo hi mx : Option Operand} {nx id : Nat} {fz : Bool} : rOp T P (.slice t a lo hi mx) ⟨e, o, x, n⟩ nx id fz KE = rSlice T ⟨e, o, x, n⟩ t a lo hi mx KE := rfl
theorem rOp_field {t f : Nat} {a : Operand} {nx id : Nat} {fz : Bool} : rOp T P (.fieldAddr t a f) ⟨e, o, x, n⟩ nx id fz KE = rFieldAddr T ⟨e, o, x, n⟩ t a f KE := rfl
theorem rOp_fieldv {t f : Nat} {a : Operand} {nx id : Nat} {fz : Bool} : rOp T P (.field t a f) ⟨e, o, x, n⟩ nx id fz KE = rField T ⟨e, o, x, n⟩ t a f KE := rfl
theorem rOp_makeFunc {f : FuncId} {cs : Array Operand} {nx id : Nat} {fz : Bool} : rOp T P (.makeFunc (.func f) #[] cs) ⟨e, o, x, n⟩ nx id fz KE = ((cs.toList.all fun a => capOk (St.ev ⟨e, o, x, n⟩ a)) = true ∧ KE ⟨.one (.fn f cs.toList.length (fun i => capOf ((cs.toList.map (St.ev ⟨e, o, x, n⟩)).getD i .unk))), none, []⟩) := rfl
theorem rOp_index {t : Nat} {a b : Operand} {nx id : Nat} {fz : Bool} : rOp T P (.indexAddr t a b) ⟨e, o, x, n⟩ nx id fz KE = rIndexAddr T ⟨e, o, x, n⟩ t a b KE := rfl
theorem rOp_indexs {t : Nat} {a b : Operand} {nx id : Nat} {fz : Bool} : rOp T P (.index t a b) ⟨e, o, x, n⟩ nx id fz KE = rIndex T ⟨e, o, x, n⟩ t a b KE := rfl
def tupAt (v : V) (i : Nat) : Option V := match v with
  | .tup vs => vs[i]?
  | _ => none
theorem tupAt_0 {v : V} {vs : List V} : tupAt (.tup (v :: vs)) 0 = some v := rfl
theorem tupAt_1 {v u : V} {vs : List V} : tupAt (.tup (v :: u :: vs)) 1 = some u := rfl
theorem tupAt_2 {v u t : V} {vs : List V} : tupAt (.tup (v :: u :: t :: vs)) 2 = some t := rfl
theorem rOp_extract {i : Nat} {a : Operand} {nx id : Nat} {fz : Bool} : rOp T P (.extract a i) ⟨e, o, x, n⟩ nx id fz KE = someP (tupAt (St.ev ⟨e, o, x, n⟩ a) i) (fun v => KE ⟨v, none, []⟩) := by
  simp only [rOp,tupAt]
  cases St.ev ⟨e, o, x, n⟩ a with
  | tup vs => simp only; cases vs[i]? <;> rfl
  | _ => rfl
theorem rOp_callv {g : Operand} {az : Array Operand} {ts : Array TypeId} {nx id : Nat} {fz : Bool} : rOp T P (.call ⟨.value g, az, ts⟩) ⟨e, o, x, n⟩ nx id fz KE = rCall P ⟨e, o, x, n⟩ nx id g az.toList KE := rfl
theorem rOp_callb {b : Builtin} {az : Array Operand} {ts : Array TypeId} {nx id : Nat} {fz : Bool} : rOp T P (.call ⟨.builtin b, az, ts⟩) ⟨e, o, x, n⟩ nx id fz KE = rBuiltin T ⟨e, o, x, n⟩ b az.toList ts.toList KE := rfl
def fnOf : V → Option FuncId
  | .one (.fn f 0 _) => some f
  | _ => none
def CallK (P : Program) (f : FuncId) (args : List V) (ids : List Nat) (id : Nat) (KE : Eff → Prop) : Prop := (∃ r, Pr P f args r ∧ Later KE ⟨r, none, if scalarV r then [] else ids⟩) ∨ (∃ B, Fr P f args B ∧ Later KE ⟨.one (.own id B.wd 0 B.len), some B, ids⟩)
theorem Cg {f : FuncId} {args : List V} {ids : List Nat} {id : Nat} {r : V} {M : Prop} (h : Pr P f args r) (hk : KE ⟨r, none, if scalarV r then [] else ids⟩) : orM (CallK P f args ids id KE) M := .inl (.inl ⟨r, h, hk⟩)
theorem CallK.fresh {f : FuncId} {args : List V} {ids : List Nat} {id : Nat} {B : Bk} {M : Prop} (h : Fr P f args B) (hk : KE ⟨.one (.own id B.wd 0 B.len), some B, ids⟩) : orM (CallK P f args ids id KE) M := .inl (.inr ⟨B, h, hk⟩)
theorem Cm {f : FuncId} {raw : List V} {s : St} {dst : Option Tmp} {A : Prop} (b : Nat) {B : Bk} {R : V → Bk → Prop} (hl : lo s.own b = some ⟨B, true⟩) (hp : B.plain) (h : Mc P f (raw.map (muV b s.own s.nx)) B R)
    (hk : ∀ r B', R r B' → B'.len = B.len → K (mSt s dst b raw r B')) : orM A (MCallK P f raw s dst K) := .inr ⟨b, B, R, hl, hp, h, hk⟩
def fnCap : V → Option (FuncId × List V)
  | .one (.fn f n cs) => some (f, capL n cs)
  | _ => none
theorem fnCap_0 {f : FuncId} {c : Nat → C} : fnCap (.one (.fn f 0 c)) = some (f, []) := rfl
theorem fnCap_1 {f : FuncId} {c : Nat → C} : fnCap (.one (.fn f 1 c)) = some (f, [.one (c 0)]) := rfl
theorem fnCap_2 {f : FuncId} {c : Nat → C} : fnCap (.one (.fn f 2 c)) = some (f, [.one (c 0), .one (c 1)]) := rfl
theorem fnCap_3 {f : FuncId} {c : Nat → C} : fnCap (.one (.fn f 3 c)) = some (f, [.one (c 0), .one (c 1), .one (c 2)]) := rfl
theorem rCall_mk {g : Operand} {az : List Operand} {nx id : Nat} : rCall P ⟨e, o, x, n⟩ nx id g az KE = someP (fnCap (St.ev ⟨e, o, x, n⟩ g)) (fun f => CallK P f.1 ((az.map (St.ev ⟨e, o, x, n⟩) ++ f.2).map (vwV o nx)) (((az.map (St.ev ⟨e, o, x, n⟩) ++ f.2).map idsV).flatten.filter (fun b => decide (b < nx))) id KE) := by
  unfold rCall fnCap
  cases St.ev ⟨e, o, x, n⟩ g with
  | one c => cases c <;> rfl
  | agg cs => rfl
  | tup cs => rfl
  | unk => rfl
theorem mCall_mk {g : Operand} {az : Array Operand} {ts : Array TypeId} {d : Option Tmp} : mCall P (.call ⟨.value g, az, ts⟩) d ⟨e, o, x, n⟩ K = someP (fnOf (St.ev ⟨e, o, x, n⟩ g)) (fun f => MCallK P f (az.toList.map (St.ev ⟨e, o, x, n⟩)) ⟨e, o, x, n⟩ d K) := by
  unfold mCall fnOf
  cases h : St.ev ⟨e, o, x, n⟩ g with
  | one c => cases c with
    | fn f m caps => cases m with
      | zero => simp only [h,true_and]; rfl
      | succ m => simp [someP, h]
    | _ => simp only [h]; rfl
  | _ => simp only [h]; rfl
theorem fnOf_mk {f : FuncId} {c : Nat → C} : fnOf (.one (.fn f 0 c)) = some f := rfl
theorem wOp_store {t : Nat} {a b : Operand} : wOp T (.store t a b) none ⟨e, o, x, n⟩ K = wStore T ⟨e, o, x, n⟩ t a b K := by simp only [wOp,true_and]
theorem wOp_append {a b : Operand} {t t' : Nat} {d : Option Tmp} : wOp T (.call ⟨.builtin .append, #[a, b], #[t, t']⟩) d ⟨e, o, x, n⟩ K = (slT T t' ∧ wAppend T ⟨e, o, x, n⟩ d t a b K) := by
  rfl
theorem wOp_clear {a : Operand} {t : Nat} {d : Option Tmp} : wOp T (.call ⟨.builtin .clear, #[a], #[t]⟩) d ⟨e, o, x, n⟩ K = wClear T ⟨e, o, x, n⟩ d t a K := rfl
theorem wOp_nil {t t' : Nat} {a : Operand} {d : Option Tmp} {l c : Nat} : wOp T (.binOp .eql t a (.const (.slice none l c)) t') d ⟨e, o, x, n⟩ K = wNil T ⟨e, o, x, n⟩ d t a K := by simp only [wOp,isEql,isNilO,isNilC,true_and]
theorem wOp_cap {a : Operand} {t : Nat} {d : Option Tmp} : wOp T (.call ⟨.builtin .cap, #[a], #[t]⟩) d ⟨e, o, x, n⟩ K = wCap T ⟨e, o, x, n⟩ d t a K := rfl
theorem retQ_ret {rs : List ResultVar} {R : V → Prop} : retQ T rs R .ret ⟨e, o, x, n⟩ = someP (resL T ⟨e, o, x, n⟩ rs) fun vs => R (resR vs) := rfl
theorem retQ_normal {rs : List ResultVar} {R : V → Prop} : retQ T rs R .normal ⟨e, o, x, n⟩ = someP (resL T ⟨e, o, x, n⟩ rs) fun vs => R (resR vs) := rfl
end
set_option linter.defProp false in
/-- ALL THE RULES, UNDER ONE NAME. -/
def vcs := And.intro @vc_skip (And.intro @vc_region (And.intro @vc_seq (And.intro @seqQ_normal (And.intro @seqQ_ret (And.intro @seqQ_exit (And.intro @condK_bool (And.intro @vc_cond (And.intro @vc_block (And.intro @blockQ_normal
  (And.intro @blockQ_ret (And.intro @blockQ_exit (And.intro @vc_loop (And.intro @loopQ_ret (And.intro @loopQ_exit (And.intro @vc_exit (And.intro @vc_ret (And.intro @vcRegion_t (And.intro @vcRegion_f (And.intro @vcDraw_none (And.intro @vcDraw_some (And.intro @vcGR_nil (And.intro @vcGR_none (And.intro @vcGR_some (And.intro @stepG_c (And.intro @stepG_r (And.intro @vcGW_nil (And.intro @vcGW_one (And.intro @vcGW_more (And.intro @promO_n (And.intro @promO_s (And.intro @wAny_w (And.intro @wAny_c (And.intro @wAny_r (And.intro @prom_nil (And.intro @prom_cons (And.intro @vcW_nil
  (And.intro @vcW_none (And.intro @vcW_some (And.intro @vcR_nil (And.intro @lastK_t (And.intro @lastK_f (And.intro @setNx_mk (And.intro @vcR_none (And.intro @vcR_some (And.intro @gsel_tt (And.intro @gsel_tf
  (And.intro @frzs_e (And.intro @gsel_s (And.intro @gsel_ft (And.intro @gsel_ff (And.intro @stepW_w (And.intro @stepW_c (And.intro @stepW_r (And.intro @stepR_c (And.intro @stepR_r (And.intro @mCall_mk (And.intro @gsplit_f (And.intro @gsplit_t (And.intro @put_some (And.intro @put_none (And.intro @after_some (And.intro @after_none
  (And.intro @after_fz (And.intro @after_blk (And.intro @add_some (And.intro @add_none (And.intro @add_fz (And.intro @after_bf (And.intro @add_bf (And.intro @add_blk (And.intro @gc_mk (And.intro @ev_tmp (And.intro @ev_const (And.intro @ev_func
  (And.intro @cv_int (And.intro @cv_bool (And.intro @cv_nil (And.intro @cv_str (And.intro @rOp_move (And.intro @rOp_assign (And.intro @pickV_t (And.intro @pickV_f (And.intro @rOp_pick (And.intro @rOp_alloc
  (And.intro @rOp_box (And.intro @rOp_build (And.intro @rOp_buildSlice (And.intro @rOp_load (And.intro @rOp_bin (And.intro @rOp_un (And.intro @rOp_conv (And.intro @rOp_make (And.intro @rOp_slice (And.intro @rOp_field
  (And.intro @rOp_indexs (And.intro @rOp_index (And.intro @tupAt_0 (And.intro @tupAt_1 (And.intro @tupAt_2 (And.intro @rOp_extract (And.intro @rOp_callv (And.intro @rOp_callb (And.intro @rCall_mk (And.intro @fnOf_mk (And.intro @wOp_store
  (And.intro @wOp_append (And.intro @wOp_nil (And.intro @wOp_clear (And.intro @rOp_fieldv (And.intro @rOp_makeFunc (And.intro @fnCap_0 (And.intro @fnCap_1 (And.intro @fnCap_2 (And.intro @fnCap_3 (And.intro @wOp_cap (And.intro @retQ_ret (And.intro @retQ_normal @someP_some)))))))))))))))))))))))))))))))))))))))))))))))))))))))))))))))))))))))))))))))))))))))))))))))))))))))))))))))))))))
set_option linter.defProp false in
/-- What is unfolded where it stands. -/
def vcu := And.intro @rIndex.eq_def (And.intro @strI.eq_def (And.intro @rBuildSlice.eq_def (And.intro @rLoad.eq_def (And.intro @rBin.eq_def (And.intro @rUn.eq_def (And.intro @rConvert.eq_def (And.intro @rMakeSlice.eq_def (And.intro @rSlice.eq_def (And.intro @rFieldAddr.eq_def
  (And.intro @rIndexAddr.eq_def (And.intro @rBuiltin.eq_def (And.intro @wStore.eq_def (And.intro @slT.eq_def (And.intro @wAppend.eq_def (And.intro @wCap.eq_def (And.intro @bnd.eq_def (And.intro @newSl.eq_def (And.intro @wNil.eq_def (And.intro @wClear.eq_def (And.intro @rField.eq_def @binI.eq_def))))))))))))))))))))
set_option linter.defProp false in
/-- Small reckoning. -/
def vcn := And.intro @lk.eq_1 (And.intro @lk.eq_2 (And.intro @lo.eq_1 (And.intro @lo.eq_2 (And.intro @upd.eq_1 (And.intro @upd.eq_2 (And.intro @del.eq_1 (And.intro @del.eq_2 (And.intro @frz.eq_1 (And.intro @frz.eq_2
  (And.intro @glook.eq_1 (And.intro @glook.eq_2 (And.intro @fzB.eq_1 (And.intro @fzB.eq_2 (And.intro @cellsFrom.eq_1 (And.intro @cellsFrom.eq_2 (And.intro @zerosC.eq_1 (And.intro @zerosC.eq_2 (And.intro @placesC.eq_1
  (And.intro @placesC.eq_2 (And.intro @fillC.eq_1 (And.intro @fillC.eq_2 (And.intro @resL.eq_1 (And.intro @resL.eq_2 (And.intro @eO.eq_1 (And.intro @eO.eq_2 (And.intro @intsOf.eq_1 (And.intro @intsOf.eq_2
  (And.intro @iS.eq_1 (And.intro @dstB.eq_def (And.intro @isWr.eq_def (And.intro @wHas.eq_1 (And.intro @wHas.eq_2 (And.intro @modeOf.eq_1 (And.intro @modeOf.eq_2 (And.intro @isNilC.eq_def (And.intro @isNilO.eq_def (And.intro @isEql.eq_def (And.intro @capOk.eq_def (And.intro @capOf.eq_def (And.intro @plC.eq_def (And.intro @vwP.eq_def (And.intro @back1.eq_def (And.intro @isLast.eq_def (And.intro @isCallV.eq_def (And.intro @mSt.eq_1 (And.intro @muV.eq_def (And.intro @muC.eq_def (And.intro @backV.eq_def (And.intro @backC.eq_def (And.intro @mIds.eq_1 (And.intro @Bk.wd.eq_def (And.intro @Bk.len.eq_def (And.intro @Bk.plain.eq_def (And.intro @isTmp.eq_def (And.intro @frozenUse.eq_def (And.intro @cvUse.eq_def (And.intro @uG.eq_def (And.intro @gset.eq_def (And.intro
  @lenC.eq_def (And.intro @mkV.eq_def (And.intro @cellsOf.eq_def (And.intro @V.solid.eq_def (And.intro @vwV.eq_def (And.intro @vwC.eq_def (And.intro @vwBk.eq_def (And.intro @idsV.eq_def (And.intro @idsC.eq_def (And.intro
  @scalarV.eq_def (And.intro @scalarC.eq_def (And.intro @eltCell.eq_def (And.intro @eltW.eq_def (And.intro @bkElt.eq_def (And.intro @bkW.eq_def (And.intro @ldOk.eq_1 (And.intro @TyK.agg.eq_def (And.intro @maxC.eq_def
  (And.intro @base0.eq_def (And.intro @intsC.eq_def (And.intro @rowsR.eq_def (And.intro @splice.eq_1 (And.intro @resV.eq_def (And.intro @resR.eq_def (And.intro @okLd.eq_def (And.intro @stOf.eq_def (And.intro
  @Nat.zero_add (And.intro @Nat.add_zero (And.intro @decide_true (And.intro @decide_false (And.intro @true_and (And.intro @and_true (And.intro @Bool.or_false (And.intro @Bool.false_or (And.intro @Bool.or_true (And.intro
  @Bool.true_or (And.intro @Bool.and_true (And.intro @Bool.true_and (And.intro @Bool.false_and (And.intro @Bool.and_false (And.intro @Bool.not_true (And.intro @Bool.not_false (And.intro @or_false (And.intro @or_true
  (And.intro @false_or (@true_or))))))))))))))))))))))))))))))))))))))))))))))))))))))))))))))))))))))))))))))))))))))))))))))))))))))))
end Go.Eng
/-
  THE ENGINE, PART X: which block is which, found out by itself.
-/
namespace Go.Eng
open Go
def Y9 (v' v : V) (r : List (Nat × Option Nat)) : List (Nat × Option Nat) :=
  match v' with
  | .one (.own b' _ _ _) => match v with
    | .one (.own b _ _ _) => (b', some b) :: r
    | .one .nil => (b', none) :: r
    | _ => r
  | .one (.ptr b' _) => match v with
    | .one (.ptr b _) => (b', some b) :: r
    | _ => r
  | _ => r
def Y8 (env : List (Nat × V)) : List (Nat × V) → List (Nat × Option Nat)
  | [] => []
  | (t, v') :: r => Y9 v' (lk env t) (Y8 env r)
theorem Sa {e e' : List (Nat × V)} {o o' : List (Nat × Blk)} {x x' n : Nat} (h : (ren (Y8 e e') 0 = some 0 ∧ 0 < x') ∧ Y0 (Y8 e e') x' e e' ∧ Y4 (Y8 e e') x' o o' ∧ Y6 (Y8 e e') o') : Sub ⟨e, o, x, n⟩ ⟨e', o', x', n⟩ :=
  Sub.of (Y8 e e') h.1 rfl h.2.1 h.2.2.1 h.2.2.2
def vLeL : List V → List V → Prop
  | [], [] => True
  | x :: xs, y :: ys => Y1 [] 0 x y ∧ vLeL xs ys
  | _, _ => False
def vLe (x y : V) : Prop :=
  match y with
  | .tup ys => match x with
    | .tup xs => vLeL xs ys
    | _ => False
  | _ => Y1 [] 0 x y
theorem vRen_le {x y : V} (h : Y1 [] 0 x y) (ok : Nat → Prop) (w : World) (v : Value) (hr : RepV loc0 dom0 ok w x v) : RepV loc0 dom0 ok w y v := by
  have h1 := vRen_sound (ok' := ok) (Ext.refl ok w) h hr
  have e : (fun b => b < 0) = dom0 := by funext b; simp [dom0]
  have e2 : renLoc [] loc0 = loc0 := by funext b; rfl
  rw [e, e2] at h1
  exact h1
theorem Va {x y : V} (h : vLe x y) : VLe x y := by
  intro ok w v hr
  cases y with
  | tup ys =>
    cases x with
    | tup xs =>
      obtain ⟨vs, hv, hl⟩ := hr
      refine ⟨vs, hv, ?_⟩
      have key : ∀ (xs ys : List V) (vs : List Value), vLeL xs ys → RepVL loc0 dom0 ok w xs vs → RepVL loc0 dom0 ok w ys vs := by
        intro xs
        induction xs with
        | nil =>
          intro ys vs h hl
          cases ys with
          | nil => exact hl
          | cons y ys => exact h.elim
        | cons x xs ih =>
          intro ys vs h hl
          cases ys with
          | nil => exact h.elim
          | cons y ys =>
            cases vs with
            | nil => exact hl.elim
            | cons v vs =>
              refine ⟨?_, ih ys vs h.2 hl.2⟩
              have h1 := h.1
              have hx : ∀ t, x ≠ .tup t := by
                intro t ht
                have := hl.1
                rw [ht] at this; exact this
              have hy : ∀ t, y ≠ .tup t := by
                intro t ht
                rw [ht] at h1; exact h1
              have h2 : RepV loc0 dom0 ok w x v := by
                cases x with
                | tup t => exact absurd rfl (hx t)
                | _ => exact hl.1
              have h3 := vRen_le h1 ok w v h2
              cases y with
              | tup t => exact absurd rfl (hy t)
              | _ => exact h3
      exact key xs ys vs.toList h hl
    | _ => exact h.elim
  | unk => exact vRen_le (by cases x <;> exact h) ok w v hr
  | one c => exact vRen_le (by cases x <;> exact h) ok w v hr
  | agg cs => exact vRen_le (by cases x <;> exact h) ok w v hr
end Go.Eng
/-
  THE ENGINE, PART Y: from a function's text to the contract of one that returns a new slice, and of one that turns a block.
-/
namespace Go.Eng
open Go
def freshV (s : St) (B : Bk) (x : V) : Prop :=
  match x with
  | .one (.own b wd off len) => off = 0 ∧ wd = B.wd ∧ len = B.len ∧ someP (lo s.own b) fun B' => B'.rw = true ∧ Y5 [] 0 B'.bk B
  | .one .nil => Y7 B
  | _ => False
def retF (rs : List ResultVar) (B : Bk) : Exit → St → Prop
  | .ret, s => match rs with
    | [.tmp t] => freshV s B (lk s.env t)
    | _ => False
  | .normal, s => match rs with
    | [.tmp t] => freshV s B (lk s.env t)
    | _ => False
  | _, _ => False
def bPre (B' B : Bk) : Prop :=
  match B with
  | .ints _ k xs => match B' with
    | .ints _ k' xs' => k' = k ∧ xs'.take xs.length = xs
    | _ => False
  | .rows _ w n f => match B' with
    | .rows _ w' n' f' => w' = w ∧ n ≤ n' ∧ ∀ i j, i < n → j < w → f' i j = f i j
    | _ => False
  | .var _ => False
def freshG (s : St) (B : Bk) (x : V) : Prop :=
  match x with
  | .one (.own b wd off len) => off = 0 ∧ wd = B.wd ∧ len = B.len ∧ someP (lo s.own b) fun B' => B'.rw = true ∧ bPre B'.bk B
  | .one .nil => Y7 B
  | _ => False
theorem bRen_pre {B' B : Bk} (hB : B.flat) (h : Y5 [] 0 B' B) : bPre B' B := by
  cases B with
  | var cs => exact hB.elim
  | ints e k xs =>
    cases B' with
    | ints e' k' xs' => obtain ⟨rfl, rfl⟩ := h; exact ⟨rfl, List.take_length⟩
    | var cs => exact h.elim
    | rows e' w' n' f' => exact h.elim
  | rows e w n f =>
    cases B' with
    | rows e' w' n' f' => obtain ⟨rfl, rfl, h⟩ := h; exact ⟨rfl, Nat.le_refl _, h⟩
    | var cs => exact h.elim
    | ints e' k' xs' => exact h.elim
theorem freshV_G {s : St} {B : Bk} {x : V} (hB : B.flat) (h : freshV s B x) : freshG s B x := by
  unfold freshV at h
  unfold freshG
  split at h
  · obtain ⟨h1, h2, h3, h4⟩ := h
    refine ⟨h1, h2, h3, ?_⟩
    unfold someP at h4 ⊢
    split at h4
    · exact ⟨h4.1, bRen_pre hB h4.2⟩
    exact h4.elim
  · exact h
  exact h.elim
theorem bPre_cell {B' B : Bk} (h : bPre B' B) (j : Nat) (c : C) (hc : B.cell j = some c) : B'.cell j = some c := by
  cases B with
  | var cs => exact h.elim
  | ints e k xs =>
    cases B' with
    | ints e' k' xs' =>
      obtain ⟨rfl, h⟩ := h
      simp only [Bk.cell] at hc ⊢
      rw [← h, List.getElem?_take] at hc
      split at hc
      · exact hc
      cases hc
    | var cs => exact h.elim
    | rows e' w' n' f' => exact h.elim
  | rows e w n f =>
    cases B' with
    | rows e' w' n' f' =>
      obtain ⟨rfl, hn, h⟩ := h
      simp only [Bk.cell] at hc ⊢
      split at hc
      · rename_i hlt
        have hw : 0 < w' := Nat.pos_of_ne_zero fun h0 => by subst h0; simp at hlt
        have h1 : j / w' < n := by rw [Nat.div_lt_iff_lt_mul hw]; exact hlt
        rw [if_pos (Nat.lt_of_lt_of_le hlt (Nat.mul_le_mul_right _ hn)), h _ _ h1 (Nat.mod_lt _ hw)]
        exact hc
      cases hc
    | var cs => exact h.elim
    | ints e' k' xs' => exact h.elim
theorem bPre_flat {B' B : Bk} (h : bPre B' B) : B'.flat ∧ B.flat := by
  cases B <;> cases B' <;> first | exact h.elim | exact ⟨trivial, trivial⟩
theorem Bk.flat_plain {B : Bk} (h : B.flat) : B.plain := by cases B <;> first | exact h.elim | trivial
theorem results_tmp {P : Program} {fn : Func} {t : Tmp} (h : fn.results.toList = [.tmp t]) (tmps : Array Value) (w : World) : (results fn tmps).run P w = .ok (tmps.getD t undef) w := by
  have : fn.results = #[.tmp t] := Array.toList_inj.1 h
  unfold results
  rw [this]
  simp [Sem.run_bind, Sem.run_pure]
def retP (rs : List ResultVar) (B : Bk) : Exit → St → Prop
  | .ret, s => match rs with
    | [.tmp t] => freshG s B (lk s.env t)
    | _ => False
  | .normal, s => match rs with
    | [.tmp t] => freshG s B (lk s.env t)
    | _ => False
  | _, _ => False
theorem retF_tmp {rs : List ResultVar} {B : Bk} {e : Exit} {s : St} (h : retF rs B e s) : (e = .normal ∨ e = .ret) ∧ ∃ t, rs = [.tmp t] ∧ freshV s B (lk s.env t) := by
  unfold retF at h
  split at h
  · split at h
    · exact ⟨.inr rfl, _, rfl, h⟩
    exact h.elim
  · split at h
    · exact ⟨.inl rfl, _, rfl, h⟩
    exact h.elim
  exact h.elim
theorem fresh_of_vcG {P : Program} {T : Tab} (hT : TabOk P T) (hm : P.follows .mixedOrders = true) {f : FuncId} {fn : Func} {c : Code} (hf : P.funcs[f]? = some fn) (hb : fn.body = some c) (hn : (fn.name == "runtime.NumGoroutine") = false)
    (args : List V) (hargs : args.length ≤ fn.ntmps) (keep : Kp) (hck : codeOk keep c = true) (B : Bk) (hB : B.flat)
    (RET : Exit → St → Prop) (hret : ∀ e s, RET e s → (e = .normal ∨ e = .ret) ∧ ∃ t, fn.results.toList = [.tmp t] ∧ freshG s B (lk s.env t))
    (h : vc T P keep c (iS args fn.ntmps) RET) : Fr P f args B := by
  refine ⟨⟨fn, hf, by rw [hb]; rfl, hn⟩, hB, fun ok w vs hok hvs => ?_⟩
  have hlen := RepVL.length hvs
  simp only [Array.length_toList] at hlen
  let G : Ctx := { W0 := w, forb := fun g => g < w.heap.size ∧ ¬ ok g, mine := fun _ => False }
  let a0 : Act := { tmps := vs ++ Array.replicate (fn.ntmps - vs.size) undef, defers := [] }
  have hokG : ∀ g, ok g → okOf G [] loc0 w g := fun g hg => ⟨hok g hg, fun hf => hf.2 hg, fun b B hl => by cases hl⟩
  have hsim : Sim G (iS args fn.ntmps) a0 w := by
    refine ⟨loc0, { hd := rfl, hn := ?_, env := fun t => ?_, own := fun b B hl => (by cases hl), inj := fun b B b' B' hl => (by cases hl), os := rfl, tape := rfl, output := rfl, size := Nat.le_refl _, keep := fun _ _ _ => rfl, wf := fun k hk => hk.1, home := fun l hl => (by cases hl), room := fun _ => Nat.le_refl _ }⟩
    · simp [a0, iS]; omega
    simp only [iS,envOf_get]
    split
    · rename_i ht
      simp only [Nat.sub_zero,Nat.zero_add] at ht ⊢
      have hx : args[t]? = some (args.getD t .unk) := by
        rw [X7, X8 ht.2]; rfl
      obtain ⟨v, hv, hr⟩ := RepVL.get hvs t _ hx
      have hv' : a0.tmps.getD t undef = v := by
        rw [Array.getElem?_toList] at hv
        have hlt := (Array.getElem?_eq_some_iff.1 hv).1
        simp only [a0,Array.getD_eq_getD_getElem?]
        rw [Array.getElem?_append_left hlt, hv]; rfl
      rw [hv']
      exact RepV.of_V1 (RepV1.ext (Ext.of_imp hokG) ⟨fun b hb => hb.elim, fun b hb => hb.elim⟩ _ _ hr)
    trivial
  refine calls_of_wp hf hb (wp_mono (vc_sound hT hm keep c hck _ _ h G a0 w hsim) ?_)
  rintro e a w' ⟨s', hq, ρ, hs⟩
  obtain ⟨he, t, hrs, hfv⟩ := hret _ _ hq
  have hres := results_tmp (P := P) hrs a.tmps w'
  have hbelow : Go.RowKit.Below w.heap.size w w' := ⟨hs.os, hs.tape, hs.output, hs.size, fun k hk => hs.keep k hk (fun hf => hf)⟩
  have hev := hs.env t
  have fin : a.defers = [] ∧ ∃ v, (results fn a.tmps).run P w' = .ok v w' ∧ ∃ u l, Ending.returned v = .returned u ∧ Go.RowKit.Below w.heap.size w w' ∧ l.len = B.len ∧ (∀ g o, l.addr = some (g, o) → w.heap.size ≤ g ∧ g < w'.heap.size) ∧
      RepBk loc0 dom0 (fun g => ok g ∨ (w.heap.size ≤ g ∧ g < w'.heap.size ∧ ∀ o, l.addr ≠ some (g, o))) w' l B ∧ RepB (fun _ => l) (fun _ => True) (fun _ => False) w' (.own 0 B.wd 0 B.len) u := by
    refine ⟨hs.hd, _, hres, a.tmps.getD t undef, ?_⟩
    unfold freshG at hfv
    split at hfv
    · rename_i b wd off len hx
      obtain ⟨rfl, rfl, rfl, h4⟩ := hfv
      cases hlo : lo s'.own b with
      | none => rw [hlo] at h4; exact h4.elim
      | some B' =>
        rw [hlo] at h4
        obtain ⟨h5, h6⟩ := h4
        obtain ⟨hd, hlB, hrB, hgB⟩ := hs.own b B' hlo
        rw [hx] at hev
        obtain ⟨_, h7, h8⟩ := hev
        refine ⟨⟨(ρ b).addr, B.len⟩, rfl, hbelow, rfl, fun g o ha => ?_, ?_, trivial, (by simp), h8⟩
        · obtain ⟨h9, _, h10⟩ := hgB g o ha
          rcases h10 with h10 | h10
          · exact ⟨h10, h9⟩
          exact h10.elim
        have h9 : RepBk ρ (fun b => b < s'.nx) (okOf G s'.own ρ w') w' ⟨(ρ b).addr, B.len⟩ B := by
          unfold RepBk at hrB ⊢
          simp only
          cases ha : (ρ b).addr with
          | none =>
            rw [ha] at hrB
            intro j
            cases hc : B.cell j with
            | none => rfl
            | some c => exact absurd (hrB j) (by simp [bPre_cell h6 j c hc])
          | some x =>
            obtain ⟨g, o⟩ := x
            rw [ha] at hrB
            obtain ⟨cur, e, hg, hc⟩ := hrB
            refine ⟨cur, e, hg, fun j c hj => ?_⟩
            obtain ⟨u, hu, hr⟩ := hc j c (bPre_cell h6 j c hj)
            refine ⟨u, hu, ?_⟩
            obtain ⟨hf1, hf2⟩ := bPre_flat h6
            cases B with
            | var cs => exact hf2.elim
            | ints e k xs =>
              cases hb' : B'.bk with
              | var cs => rw [hb'] at hf1; exact hf1.elim
              | ints e' k' xs' => rw [hb'] at hr; exact hr
              | rows e' w'' n' f' => rw [hb'] at hr; exact hr
            | rows e w2 n f =>
              cases hb' : B'.bk with
              | var cs => rw [hb'] at hf1; exact hf1.elim
              | ints e' k' xs' => rw [hb'] at hr; exact hr
              | rows e' w'' n' f' => rw [hb'] at hr; exact hr
        refine h9.plain_ext (Bk.flat_plain hB) fun g hg => ?_
        by_cases hgs : g < w.heap.size
        · by_cases hok' : ok g
          · exact .inl hok'
          exact absurd ⟨hgs, hok'⟩ hg.2.1
        exact .inr ⟨by omega, hg.1, fun o ha => hg.2.2 b B' hlo h5 o ha⟩
    · rename_i hx
      rw [hx] at hev
      have hev : a.tmps.getD t undef = .slice none 0 0 := hev
      have hB0 : B.len = 0 := by
        cases B with
        | var cs => exact hfv.elim
        | ints e k xs => have : xs = [] := hfv; subst this; rfl
        | rows e wd n f => have : n = 0 := hfv; subst this; rfl
      have hBc : ∀ j, B.cell j = none := by
        intro j
        cases B with
        | var cs => exact hfv.elim
        | ints e k xs => have : xs = [] := hfv; subst this; simp [Bk.cell]
        | rows e wd n f => have : n = 0 := hfv; subst this; simp [Bk.cell]
      have hval : RepB (fun _ => (⟨none, 0⟩ : Loc)) (fun _ => True) (fun _ => False) w' (.own 0 B.wd 0 B.len) (a.tmps.getD t undef) := by
        rw [hB0]
        exact ⟨trivial, Nat.le_refl _, 0, Nat.le_refl _, .inr ⟨rfl, hev, rfl, rfl⟩⟩
      exact ⟨⟨none, 0⟩, rfl, hbelow, hB0.symm, fun g o ha => absurd ha (by simp), hBc, hval⟩
    exact hfv.elim
  rcases he with rfl | rfl
  · exact fin
  exact fin
theorem fresh_of_vc {P : Program} {T : Tab} (hT : TabOk P T) (hm : P.follows .mixedOrders = true) {f : FuncId} {fn : Func} {c : Code} (hf : P.funcs[f]? = some fn) (hb : fn.body = some c) (hn : (fn.name == "runtime.NumGoroutine") = false)
    (args : List V) (hargs : args.length ≤ fn.ntmps) (keep : Kp) (hck : codeOk keep c = true) (B : Bk) (hB : B.flat)
    (h : vc T P keep c (iS args fn.ntmps) (retF fn.results.toList B)) : Fr P f args B :=
  fresh_of_vcG hT hm hf hb hn args hargs keep hck B hB _ (fun _ _ hr => by obtain ⟨h1, t, h2, h3⟩ := retF_tmp hr; exact ⟨h1, t, h2, freshV_G hB h3⟩) h
def resM (s : St) : List ResultVar → Option V
  | [] => some (.tup [])
  | [.tmp t] => some (muV 0 s.own s.nx (lk s.env t))
  | [.tmp t, .tmp u] => some (.tup [muV 0 s.own s.nx (lk s.env t), muV 0 s.own s.nx (lk s.env u)])
  | _ => none
def retM (rs : List ResultVar) (R : V → Bk → Prop) : Exit → St → Prop
  | .ret, s => someP (lo s.own 0) fun B' => B'.rw = true ∧ B'.bk.plain ∧ someP (resM s rs) fun r => R r B'.bk
  | .normal, s => someP (lo s.own 0) fun B' => B'.rw = true ∧ B'.bk.plain ∧ someP (resM s rs) fun r => R r B'.bk
  | _, _ => False
def iM (args : List V) (B : Bk) (n : Nat) : St := { env := eO 0 args, own := [(0, ⟨B, true⟩)], nx := 1, n := n }
theorem retM_is {rs : List ResultVar} {R : V → Bk → Prop} {e : Exit} {s : St} (h : retM rs R e s) : (e = .normal ∨ e = .ret) ∧ ∃ B' r, lo s.own 0 = some B' ∧ B'.rw = true ∧ B'.bk.plain ∧ resM s rs = some r ∧ R r B'.bk := by
  have key : (someP (lo s.own 0) fun B' => B'.rw = true ∧ B'.bk.plain ∧ someP (resM s rs) fun r => R r B'.bk) → ∃ B' r, lo s.own 0 = some B' ∧ B'.rw = true ∧ B'.bk.plain ∧ resM s rs = some r ∧ R r B'.bk := by
    intro h
    unfold someP at h
    split at h
    · rename_i B' hB
      obtain ⟨h1, h2, h3⟩ := h
      split at h3
      · rename_i r hr; exact ⟨B', r, hB, h1, h2, hr, h3⟩
      exact h3.elim
    exact h.elim
  unfold retM at h
  split at h
  · exact ⟨.inr rfl, key h⟩
  · exact ⟨.inl rfl, key h⟩
  exact h.elim
theorem mut_of_vc {P : Program} {T : Tab} (hT : TabOk P T) (hm : P.follows .mixedOrders = true) {f : FuncId} {fn : Func} {c : Code} (hf : P.funcs[f]? = some fn) (hb : fn.body = some c) (hn : (fn.name == "runtime.NumGoroutine") = false)
    (args : List V) (hargs : args.length ≤ fn.ntmps) (keep : Kp) (hck : codeOk keep c = true) (B : Bk) (hBp : B.plain) (R : V → Bk → Prop)
    (h : vc T P keep c (iM args B fn.ntmps) (retM fn.results.toList R)) : Mc P f args B R := by
  refine ⟨⟨fn, hf, by rw [hb]; rfl, hn⟩, fun ok w vs l hok hlB hnot hrB hvs => ?_⟩
  have hlen := RepVL.length hvs
  simp only [Array.length_toList] at hlen
  let G : Ctx := { W0 := w, forb := fun g => g < w.heap.size ∧ ¬ ok g ∧ ∀ o, l.addr ≠ some (g, o), mine := fun g => ∃ o, l.addr = some (g, o), home := some l }
  let a0 : Act := { tmps := vs ++ Array.replicate (fn.ntmps - vs.size) undef, defers := [] }
  have hokG : ∀ g, ok g → okOf G [(0, ⟨B, true⟩)] (fun _ => l) w g := fun g hg => ⟨hok g hg, fun hf => hf.2.1 hg, fun b B2 hl hrw o ha => (hnot g o ha).2 hg⟩
  have hsim : Sim G (iM args B fn.ntmps) a0 w := by
    refine ⟨fun _ => l, { hd := rfl, hn := ?_, env := fun t => ?_, own := fun b B2 hl => ?_, inj := fun b B1 b' B' hl hl' hne => ?_, os := rfl, tape := rfl, output := rfl, size := Nat.le_refl _, keep := fun _ _ _ => rfl, wf := fun k hk => hk.1, home := fun l' hl => ?_, room := fun _ => Nat.le_refl _ }⟩
    · simp [a0, iM]; omega
    · simp only [iM,envOf_get]
      split
      · rename_i ht
        simp only [Nat.sub_zero,Nat.zero_add] at ht ⊢
        have hx : args[t]? = some (args.getD t .unk) := by
          rw [X7, X8 ht.2]; rfl
        obtain ⟨v, hv, hr⟩ := RepVL.get hvs t _ hx
        have hv' : a0.tmps.getD t undef = v := by
          rw [Array.getElem?_toList] at hv
          have hlt := (Array.getElem?_eq_some_iff.1 hv).1
          simp only [a0,Array.getD_eq_getD_getElem?]
          rw [Array.getElem?_append_left hlt, hv]; rfl
        rw [hv']
        exact RepV.of_V1 (RepV1.ext (Ext.of_imp hokG) ⟨fun b hb => by omega, fun b hb => rfl⟩ _ _ hr)
      trivial
    · simp only [iM,lo] at hl
      split at hl
      · rename_i hb0
        subst hb0
        obtain rfl := Option.some.inj hl
        refine ⟨by simp [iM], hlB, hrB.plain_ext hBp hokG, fun g o ha => ⟨(hnot g o ha).1, fun hf => hf.2.2 o ha, .inr ⟨o, ha⟩⟩⟩
      cases hl
    · simp only [iM,lo] at hl hl'
      split at hl
      · split at hl'
        · rename_i h1 h2; exact absurd (h1.trans h2.symm) hne
        cases hl'
      cases hl
    exact ⟨by simp [iM], (Option.some.inj hl)⟩
  refine calls_of_wp hf hb (wp_mono (vc_sound hT hm keep c hck _ _ h G a0 w hsim) ?_)
  rintro e a w' ⟨s', hq, ρ, hs⟩
  obtain ⟨he, B', r, hlo, hrw, hpl, hres, hR⟩ := retM_is hq
  obtain ⟨hd0, hρ0⟩ := hs.home l rfl
  obtain ⟨_, hlB', hrB', hgB'⟩ := hs.own 0 B' hlo
  have hmb : MBelow l w w' := ⟨hs.os, hs.tape, hs.output, hs.size, fun k hk hno => hs.keep k hk (fun hf => by obtain ⟨o, ho⟩ := hf; exact hno o ho), hs.room⟩
  have hone : ∀ g, g < w'.heap.size → ¬ G.forb g → (∀ o, l.addr ≠ some (g, o)) → okM ok w w' g := fun g h1 h2 h3 => by
    by_cases hgs : g < w.heap.size
    · by_cases hok' : ok g
      · exact .inl hok'
      exact absurd ⟨hgs, hok', h3⟩ h2
    exact .inr ⟨by omega, h1⟩
  have hokE : ∀ ids, 0 ∉ ids → ∀ g, okIds G s'.own ρ w' ids g → okM ok w w' g := by
    rintro ids hids g (h1 | ⟨b1, hb1, B1, o', hl1, ha'⟩)
    · exact hone g h1.1 h1.2.1 fun o ha => h1.2.2 0 B' hlo hrw o (by rw [hρ0]; exact ha)
    obtain ⟨_, _, _, h4⟩ := hs.own b1 B1 hl1
    obtain ⟨h5, h6, _⟩ := h4 g o' ha'
    exact hone g h5 h6 fun o ha => hs.inj 0 B' b1 B1 hlo hl1 (fun e => hids (e ▸ hb1)) hrw g o o' (by rw [hρ0]; exact ha) ha'
  have hend : ∃ v, (results fn a.tmps).run P w' = .ok v w' ∧ RepV (fun _ => l) (fun b => b = 0) (okM ok w w') w' r v := by
    have hmu : ∀ t, RepV1 (fun _ => l) (fun b => b = 0) (okM ok w w') w' (muV 0 s'.own s'.nx (lk s'.env t)) (a.tmps.getD t undef) := by
      intro t
      have h1 := muV_sound hs 0 ((idsV (lk s'.env t)).filter (fun b => b != 0)) (lk s'.env t) _ (fun b hb hne => List.mem_filter.2 ⟨hb, by simpa using hne⟩) (hs.env t)
      rw [hρ0] at h1
      exact RepV1.ext (Ext.of_imp (hokE _ (by simp))) ⟨fun _ h => h, fun _ _ => rfl⟩ _ _ h1
    unfold resM at hres
    split at hres
    · rename_i hrs
      obtain rfl := Option.some.inj hres
      have : fn.results = #[] := Array.toList_inj.1 hrs
      refine ⟨.tuple #[], ?_, #[], rfl, trivial⟩
      unfold results
      rw [this]
      simp [Sem.run_bind, Sem.run_pure]
    · rename_i t hrs
      obtain rfl := Option.some.inj hres
      exact ⟨_, results_tmp hrs a.tmps w', RepV.of_V1 (hmu t)⟩
    · rename_i t u hrs
      obtain rfl := Option.some.inj hres
      have : fn.results = #[.tmp t, .tmp u] := Array.toList_inj.1 hrs
      refine ⟨.tuple #[a.tmps.getD t undef, a.tmps.getD u undef], ?_, _, rfl, hmu t, hmu u, trivial⟩
      unfold results
      rw [this]
      simp [Sem.run_bind, Sem.run_pure]
    cases hres
  obtain ⟨v, hrun, hval⟩ := hend
  have hfinal : RepBk loc0 dom0 (okM ok w w') w' l B'.bk := by
    rw [hρ0] at hrB'
    exact hrB'.plain_ext hpl fun g hg => hokE [] (by simp) g (.inl hg)
  have hB'len : B'.bk.len = B.len := by rw [← hlB', hρ0, hlB]
  have fin : a.defers = [] ∧ ∃ v, (results fn a.tmps).run P w' = .ok v w' ∧ ∃ u r B2, Ending.returned v = .returned u ∧ R r B2 ∧ B2.plain ∧ B2.len = B.len ∧ MBelow l w w' ∧ RepBk loc0 dom0 (okM ok w w') w' l B2 ∧ RepV (fun _ => l) (fun b => b = 0) (okM ok w w') w' r u :=
    ⟨hs.hd, v, hrun, v, r, B'.bk, rfl, hR, hpl, hB'len, hmb, hfinal, hval⟩
  rcases he with rfl | rfl
  · exact fin
  exact fin
set_option linter.defProp false in
def vcl := And.intro @List.contains_cons.{0} (And.intro @List.contains_nil.{0} (And.intro @beq_self_eq_true.{0} (And.intro @bne_self_eq_false.{0} (And.intro @bne_iff_ne.{0} (And.intro @List.take_length.{0} (And.intro @List.toList_toArray.{0} (And.intro @List.map_nil.{0, 0} (And.intro @List.map_cons.{0, 0} (And.intro @List.flatten_nil.{0} (And.intro @List.flatten_cons.{0} (And.intro @List.filter_nil.{0} (And.intro @List.filter_cons.{0} (And.intro @List.nil_append.{0} (And.intro @List.cons_append.{0} (And.intro @List.append_nil.{0} (And.intro @List.any_nil.{0} (And.intro @List.any_cons.{0} (And.intro @List.all_nil.{0} (And.intro @List.all_cons.{0} (And.intro @List.take_zero.{0} (And.intro @List.take_succ_cons.{0} (And.intro @List.take_nil.{0} (And.intro @List.drop_zero.{0} (And.intro @List.drop_succ_cons.{0} (And.intro @List.drop_nil.{0} (And.intro @List.getElem?_cons_zero.{0} (And.intro @List.getElem?_cons_succ.{0} (And.intro @List.getD_cons_zero.{0} (And.intro @List.getD_cons_succ.{0} (And.intro @List.length_cons.{0} (And.intro @List.length_nil.{0} (And.intro @List.flatMap_cons.{0, 0} (And.intro @List.flatMap_nil.{0, 0} (And.intro @Option.map_some.{0, 0} (And.intro @Option.map_none.{0, 0} (And.intro @eq_self.{1} (And.intro @Bool.false_eq_true (And.intro @Int.toNat_natCast (And.intro @decide_eq_true_eq (And.intro @decide_eq_false_iff_not (And.intro @ne_eq.{1} (And.intro @not_true_eq_false (And.intro @not_false_eq_true (And.intro @Classical.not_not (And.intro @later_t (And.intro @later_f (And.intro @Bool.true_eq_false (And.intro @Int.sub_zero (And.intro @Int.zero_add (@Int.add_zero))))))))))))))))))))))))))))))))))))))))))))))))))
set_option linter.defProp false in
def vcr := And.intro @retF.eq_def (And.intro @freshV.eq_def (And.intro @retP.eq_def (And.intro @freshG.eq_def (And.intro @bPre.eq_def (And.intro @retM.eq_def (@resM.eq_def))))))
set_option linter.defProp false in
def vcq := And.intro @Option.some.injEq.{0} (And.intro @List.not_mem_nil.{0} (And.intro @false_imp_iff (And.intro @List.forall_mem_cons.{0} (And.intro @implies_true.{1} (@implies_true.{0})))))
end Go.Eng
/-
  THE TABLE OF THE TYPES that the functions of this seat speak of, by program (tys.py); and that it is the loaded program's own.
-/
namespace Go.Proofs.YtpogdlmhmafjlaaGreat
open Go Go.Eng
def T : Nat → Option Ty
  | 2 => some ⟨.int .i64, 1, 8, [.int .i64 0], []⟩
  | 3 => some ⟨.int .i64, 1, 8, [.int .i64 0], []⟩
  | 4 => some ⟨.bool, 1, 1, [.bool false], []⟩
  | 5 => some ⟨.int .u8, 1, 1, [.int .u8 0], []⟩
  | 9 => some ⟨.str, 1, 16, [.str ⟨#[]⟩], []⟩
  | 22 => some ⟨.sl 3, 1, 24, [.nil], []⟩
  | 23 => some ⟨.sl 54, 1, 24, [.nil], []⟩
  | 24 => some ⟨.st [(0, 1), (1, 1), (2, 1), (3, 1), (4, 1)], 5, 88, [.int .i64 0, .nil, .nil, .nil, .int .i64 0], [true, true, true, true, true]⟩
  | 25 => some ⟨.st [(0, 1), (1, 1), (2, 1), (3, 1), (4, 1)], 5, 88, [.int .i64 0, .nil, .nil, .nil, .int .i64 0], [true, true, true, true, true]⟩
  | 26 => some ⟨.sl 33, 1, 24, [.nil], []⟩
  | 27 => some ⟨.st [(0, 5), (5, 1), (6, 1), (7, 1)], 8, 144, [.int .i64 0, .nil, .nil, .nil, .int .i64 0, .nil, .nil, .int .i64 0], [false, true, true, true]⟩
  | 28 => some ⟨.st [(0, 5), (5, 1), (6, 1), (7, 1)], 8, 144, [.int .i64 0, .nil, .nil, .nil, .int .i64 0, .nil, .nil, .int .i64 0], [false, true, true, true]⟩
  | 29 => some ⟨.sl 92, 1, 24, [.nil], []⟩
  | 30 => some ⟨.st [(0, 1), (1, 1)], 2, 32, [.bool false, .nil], [true, true]⟩
  | 31 => some ⟨.st [(0, 1), (1, 1)], 2, 32, [.bool false, .nil], [true, true]⟩
  | 32 => some ⟨.st [(0, 2), (2, 2)], 4, 64, [.bool false, .nil, .bool false, .nil], [false, false]⟩
  | 33 => some ⟨.st [(0, 2), (2, 2)], 4, 64, [.bool false, .nil, .bool false, .nil], [false, false]⟩
  | 34 => some ⟨.arr 2 33, 8, 128, [.bool false, .nil, .bool false, .nil, .bool false, .nil, .bool false, .nil], []⟩
  | 37 => some ⟨.sl 40, 1, 24, [.nil], []⟩
  | 38 => some ⟨.sl 26, 1, 24, [.nil], []⟩
  | 39 => some ⟨.st [(0, 1), (1, 1)], 2, 48, [.nil, .nil], [true, true]⟩
  | 40 => some ⟨.st [(0, 1), (1, 1)], 2, 48, [.nil, .nil], [true, true]⟩
  | 43 => some ⟨.sl 46, 1, 24, [.nil], []⟩
  | 45 => some ⟨.sl 57, 1, 24, [.nil], []⟩
  | 46 => some ⟨.sl 57, 1, 24, [.nil], []⟩
  | 47 => some ⟨.int .i64, 1, 8, [.int .i64 0], []⟩
  | 53 => some ⟨.st [(0, 1), (1, 4), (5, 1), (6, 1)], 7, 112, [.int .i64 0, .bool false, .nil, .bool false, .nil, .str ⟨#[]⟩, .nil], [true, false, true, true]⟩
  | 54 => some ⟨.st [(0, 1), (1, 4), (5, 1), (6, 1)], 7, 112, [.int .i64 0, .bool false, .nil, .bool false, .nil, .str ⟨#[]⟩, .nil], [true, false, true, true]⟩
  | 56 => some ⟨.st [(0, 4), (4, 1)], 5, 88, [.bool false, .nil, .bool false, .nil, .nil], [false, true]⟩
  | 57 => some ⟨.st [(0, 4), (4, 1)], 5, 88, [.bool false, .nil, .bool false, .nil, .nil], [false, true]⟩
  | 67 => some ⟨.st [(0, 1), (1, 1)], 2, 48, [.nil, .nil], [true, true]⟩
  | 68 => some ⟨.st [(0, 1), (1, 1)], 2, 48, [.nil, .nil], [true, true]⟩
  | 84 => some ⟨.st [(0, 1), (1, 1), (2, 1), (3, 1), (4, 1), (5, 1), (6, 1)], 7, 64, [.str ⟨#[]⟩, .int .i64 0, .int .i64 0, .int .i64 0, .int .i64 0, .int .i64 0, .bool false], [true, true, true, true, true, true, true]⟩
  | 85 => some ⟨.st [(0, 1), (1, 1), (2, 1), (3, 1), (4, 1), (5, 1), (6, 1)], 7, 64, [.str ⟨#[]⟩, .int .i64 0, .int .i64 0, .int .i64 0, .int .i64 0, .int .i64 0, .bool false], [true, true, true, true, true, true, true]⟩
  | 92 => some ⟨.int .u32, 1, 4, [.int .u32 0], []⟩
  | 109 => some ⟨.int .u64, 1, 8, [.int .u64 0], []⟩
  | 111 => some ⟨.sl 22, 1, 24, [.nil], []⟩
  | 121 => some ⟨.sl 85, 1, 24, [.nil], []⟩
  | 125 => some ⟨.int .u64, 1, 8, [.int .u64 0], []⟩
  | 145 => some ⟨.int .i64, 1, 8, [.int .i64 0], []⟩
  | 159 => some ⟨.st [(0, 1), (1, 1)], 2, 48, [.nil, .nil], [true, true]⟩
  | 160 => some ⟨.st [(0, 1), (1, 1)], 2, 48, [.nil, .nil], [true, true]⟩
  | 180 => some ⟨.int .u64, 1, 8, [.int .u64 0], []⟩
  | 217 => some ⟨.sl 5, 1, 24, [.nil], []⟩
  | _ => none
theorem T2 : tyOf Tryz.prog 2 = some ⟨.int .i64, 1, 8, [.int .i64 0], []⟩ := by kernel_rfl
theorem T3 : tyOf Tryz.prog 3 = some ⟨.int .i64, 1, 8, [.int .i64 0], []⟩ := by kernel_rfl
theorem T4 : tyOf Tryz.prog 4 = some ⟨.bool, 1, 1, [.bool false], []⟩ := by kernel_rfl
theorem T5 : tyOf Tryz.prog 5 = some ⟨.int .u8, 1, 1, [.int .u8 0], []⟩ := by kernel_rfl
theorem T9 : tyOf Tryz.prog 9 = some ⟨.str, 1, 16, [.str ⟨#[]⟩], []⟩ := by kernel_rfl
theorem T22 : tyOf Tryz.prog 22 = some ⟨.sl 3, 1, 24, [.nil], []⟩ := by kernel_rfl
theorem T23 : tyOf Tryz.prog 23 = some ⟨.sl 54, 1, 24, [.nil], []⟩ := by kernel_rfl
theorem T24 : tyOf Tryz.prog 24 = some ⟨.st [(0, 1), (1, 1), (2, 1), (3, 1), (4, 1)], 5, 88, [.int .i64 0, .nil, .nil, .nil, .int .i64 0], [true, true, true, true, true]⟩ := by kernel_rfl
theorem T25 : tyOf Tryz.prog 25 = some ⟨.st [(0, 1), (1, 1), (2, 1), (3, 1), (4, 1)], 5, 88, [.int .i64 0, .nil, .nil, .nil, .int .i64 0], [true, true, true, true, true]⟩ := by kernel_rfl
theorem T26 : tyOf Tryz.prog 26 = some ⟨.sl 33, 1, 24, [.nil], []⟩ := by kernel_rfl
theorem T27 : tyOf Tryz.prog 27 = some ⟨.st [(0, 5), (5, 1), (6, 1), (7, 1)], 8, 144, [.int .i64 0, .nil, .nil, .nil, .int .i64 0, .nil, .nil, .int .i64 0], [false, true, true, true]⟩ := by kernel_rfl
theorem T28 : tyOf Tryz.prog 28 = some ⟨.st [(0, 5), (5, 1), (6, 1), (7, 1)], 8, 144, [.int .i64 0, .nil, .nil, .nil, .int .i64 0, .nil, .nil, .int .i64 0], [false, true, true, true]⟩ := by kernel_rfl
theorem T29 : tyOf Tryz.prog 29 = some ⟨.sl 92, 1, 24, [.nil], []⟩ := by kernel_rfl
theorem T30 : tyOf Tryz.prog 30 = some ⟨.st [(0, 1), (1, 1)], 2, 32, [.bool false, .nil], [true, true]⟩ := by kernel_rfl
theorem T31 : tyOf Tryz.prog 31 = some ⟨.st [(0, 1), (1, 1)], 2, 32, [.bool false, .nil], [true, true]⟩ := by kernel_rfl
theorem T32 : tyOf Tryz.prog 32 = some ⟨.st [(0, 2), (2, 2)], 4, 64, [.bool false, .nil, .bool false, .nil], [false, false]⟩ := by kernel_rfl
theorem T33 : tyOf Tryz.prog 33 = some ⟨.st [(0, 2), (2, 2)], 4, 64, [.bool false, .nil, .bool false, .nil], [false, false]⟩ := by kernel_rfl
theorem T34 : tyOf Tryz.prog 34 = some ⟨.arr 2 33, 8, 128, [.bool false, .nil, .bool false, .nil, .bool false, .nil, .bool false, .nil], []⟩ := by kernel_rfl
theorem T37 : tyOf Tryz.prog 37 = some ⟨.sl 40, 1, 24, [.nil], []⟩ := by kernel_rfl
theorem T38 : tyOf Tryz.prog 38 = some ⟨.sl 26, 1, 24, [.nil], []⟩ := by kernel_rfl
theorem T39 : tyOf Tryz.prog 39 = some ⟨.st [(0, 1), (1, 1)], 2, 48, [.nil, .nil], [true, true]⟩ := by kernel_rfl
theorem T40 : tyOf Tryz.prog 40 = some ⟨.st [(0, 1), (1, 1)], 2, 48, [.nil, .nil], [true, true]⟩ := by kernel_rfl
theorem T43 : tyOf Tryz.prog 43 = some ⟨.sl 46, 1, 24, [.nil], []⟩ := by kernel_rfl
theorem T45 : tyOf Tryz.prog 45 = some ⟨.sl 57, 1, 24, [.nil], []⟩ := by kernel_rfl
theorem T46 : tyOf Tryz.prog 46 = some ⟨.sl 57, 1, 24, [.nil], []⟩ := by kernel_rfl
theorem T47 : tyOf Tryz.prog 47 = some ⟨.int .i64, 1, 8, [.int .i64 0], []⟩ := by kernel_rfl
theorem T53 : tyOf Tryz.prog 53 = some ⟨.st [(0, 1), (1, 4), (5, 1), (6, 1)], 7, 112, [.int .i64 0, .bool false, .nil, .bool false, .nil, .str ⟨#[]⟩, .nil], [true, false, true, true]⟩ := by kernel_rfl
theorem T54 : tyOf Tryz.prog 54 = some ⟨.st [(0, 1), (1, 4), (5, 1), (6, 1)], 7, 112, [.int .i64 0, .bool false, .nil, .bool false, .nil, .str ⟨#[]⟩, .nil], [true, false, true, true]⟩ := by kernel_rfl
theorem T56 : tyOf Tryz.prog 56 = some ⟨.st [(0, 4), (4, 1)], 5, 88, [.bool false, .nil, .bool false, .nil, .nil], [false, true]⟩ := by kernel_rfl
theorem T57 : tyOf Tryz.prog 57 = some ⟨.st [(0, 4), (4, 1)], 5, 88, [.bool false, .nil, .bool false, .nil, .nil], [false, true]⟩ := by kernel_rfl
theorem T67 : tyOf Tryz.prog 67 = some ⟨.st [(0, 1), (1, 1)], 2, 48, [.nil, .nil], [true, true]⟩ := by kernel_rfl
theorem T68 : tyOf Tryz.prog 68 = some ⟨.st [(0, 1), (1, 1)], 2, 48, [.nil, .nil], [true, true]⟩ := by kernel_rfl
theorem T84 : tyOf Tryz.prog 84 = some ⟨.st [(0, 1), (1, 1), (2, 1), (3, 1), (4, 1), (5, 1), (6, 1)], 7, 64, [.str ⟨#[]⟩, .int .i64 0, .int .i64 0, .int .i64 0, .int .i64 0, .int .i64 0, .bool false], [true, true, true, true, true, true, true]⟩ := by kernel_rfl
theorem T85 : tyOf Tryz.prog 85 = some ⟨.st [(0, 1), (1, 1), (2, 1), (3, 1), (4, 1), (5, 1), (6, 1)], 7, 64, [.str ⟨#[]⟩, .int .i64 0, .int .i64 0, .int .i64 0, .int .i64 0, .int .i64 0, .bool false], [true, true, true, true, true, true, true]⟩ := by kernel_rfl
theorem T92 : tyOf Tryz.prog 92 = some ⟨.int .u32, 1, 4, [.int .u32 0], []⟩ := by kernel_rfl
theorem T109 : tyOf Tryz.prog 109 = some ⟨.int .u64, 1, 8, [.int .u64 0], []⟩ := by kernel_rfl
theorem T111 : tyOf Tryz.prog 111 = some ⟨.sl 22, 1, 24, [.nil], []⟩ := by kernel_rfl
theorem T121 : tyOf Tryz.prog 121 = some ⟨.sl 85, 1, 24, [.nil], []⟩ := by kernel_rfl
theorem T125 : tyOf Tryz.prog 125 = some ⟨.int .u64, 1, 8, [.int .u64 0], []⟩ := by kernel_rfl
theorem T145 : tyOf Tryz.prog 145 = some ⟨.int .i64, 1, 8, [.int .i64 0], []⟩ := by kernel_rfl
theorem T159 : tyOf Tryz.prog 159 = some ⟨.st [(0, 1), (1, 1)], 2, 48, [.nil, .nil], [true, true]⟩ := by kernel_rfl
theorem T160 : tyOf Tryz.prog 160 = some ⟨.st [(0, 1), (1, 1)], 2, 48, [.nil, .nil], [true, true]⟩ := by kernel_rfl
theorem T180 : tyOf Tryz.prog 180 = some ⟨.int .u64, 1, 8, [.int .u64 0], []⟩ := by kernel_rfl
theorem T217 : tyOf Tryz.prog 217 = some ⟨.sl 5, 1, 24, [.nil], []⟩ := by kernel_rfl
theorem T_ok : TabOk Tryz.prog T := by
  intro t X h
  unfold T at h
  split at h
  · cases h; exact T2
  · cases h; exact T3
  · cases h; exact T4
  · cases h; exact T5
  · cases h; exact T9
  · cases h; exact T22
  · cases h; exact T23
  · cases h; exact T24
  · cases h; exact T25
  · cases h; exact T26
  · cases h; exact T27
  · cases h; exact T28
  · cases h; exact T29
  · cases h; exact T30
  · cases h; exact T31
  · cases h; exact T32
  · cases h; exact T33
  · cases h; exact T34
  · cases h; exact T37
  · cases h; exact T38
  · cases h; exact T39
  · cases h; exact T40
  · cases h; exact T43
  · cases h; exact T45
  · cases h; exact T46
  · cases h; exact T47
  · cases h; exact T53
  · cases h; exact T54
  · cases h; exact T56
  · cases h; exact T57
  · cases h; exact T67
  · cases h; exact T68
  · cases h; exact T84
  · cases h; exact T85
  · cases h; exact T92
  · cases h; exact T109
  · cases h; exact T111
  · cases h; exact T121
  · cases h; exact T125
  · cases h; exact T145
  · cases h; exact T159
  · cases h; exact T160
  · cases h; exact T180
  · cases h; exact T217
  cases h
theorem mixed : Tryz.prog.follows .mixedOrders = true := by kernel_rfl
end Go.Proofs.YtpogdlmhmafjlaaGreat
/-
  Natural numbers as lists of 32-bit words, least first.
-/
namespace Go.Eng
def BB : Nat := 4294967296
def val : List Int → Nat
  | [] => 0
  | x :: xs => x.toNat + BB * val xs
def InR (xs : List Int) : Prop := ∀ x ∈ xs, 0 ≤ x ∧ x < 4294967296
def limbs (n : Nat) : List Int := if h : n = 0 then [] else ((n % BB : Nat) : Int) :: limbs (n / BB)
termination_by n
decreasing_by exact Nat.div_lt_self (by omega) (by decide)
theorem limbs_zero : limbs 0 = [] := by unfold limbs; simp
theorem limbs_pos {n : Nat} (h : 0 < n) : limbs n = ((n % BB : Nat) : Int) :: limbs (n / BB) := by
  rw [limbs]; rw [dif_neg (by omega)]
theorem InR.nil : InR [] := fun _ h => by simp at h
theorem InR.cons {x : Int} {xs : List Int} (hx : 0 ≤ x ∧ x < 4294967296) (h : InR xs) : InR (x :: xs) := fun y hy => by
  rcases List.mem_cons.1 hy with rfl | hy
  · exact hx
  exact h y hy
theorem InR.tail {x : Int} {xs : List Int} (h : InR (x :: xs)) : InR xs := fun y hy => h y (by simp [hy])
theorem InR.head {x : Int} {xs : List Int} (h : InR (x :: xs)) : 0 ≤ x ∧ x < 4294967296 := h x (by simp)
theorem InR.append {xs ys : List Int} (h : InR xs) (h' : InR ys) : InR (xs ++ ys) := fun y hy => by
  rcases List.mem_append.1 hy with hy | hy
  · exact h y hy
  exact h' y hy
theorem InR.take {xs : List Int} (h : InR xs) (i : Nat) : InR (xs.take i) := fun y hy => h y (List.mem_of_mem_take hy)
theorem InR.drop {xs : List Int} (h : InR xs) (i : Nat) : InR (xs.drop i) := fun y hy => h y (List.mem_of_mem_drop hy)
theorem InR.getD {xs : List Int} (h : InR xs) (i : Nat) : 0 ≤ xs.getD i 0 ∧ xs.getD i 0 < 4294967296 := by
  rw [X7]
  cases hi : xs[i]? with
  | none => simp
  | some x => exact h x (List.mem_of_getElem? hi)
theorem InR.set {xs : List Int} (h : InR xs) (i : Nat) {x : Int} (hx : 0 ≤ x ∧ x < 4294967296) : InR (xs.set i x) := fun y hy => by
  rcases List.mem_or_eq_of_mem_set hy with hy | rfl
  · exact h y hy
  exact hx
theorem InR.replicate (n : Nat) : InR (List.replicate n 0) := fun y hy => by
  rw [(List.mem_replicate.1 hy).2]; decide
theorem InR.one {x : Int} (h : 0 ≤ x ∧ x < 4294967296) : InR [x] := InR.cons h InR.nil
theorem InR.limbs : ∀ (n : Nat), InR (limbs n) := by
  intro n
  induction n using Nat.strongRecOn with
  | _ n ih =>
    by_cases h : n = 0
    · subst h; rw [limbs_zero]; exact InR.nil
    rw [limbs_pos (by omega)]
    have : n % BB < 4294967296 := Nat.mod_lt n (show BB > 0 by decide)
    exact InR.cons ⟨by omega, by omega⟩ (ih _ (Nat.div_lt_self (by omega) (by decide)))
theorem val_limbs : ∀ (n : Nat), val (limbs n) = n := by
  intro n
  induction n using Nat.strongRecOn with
  | _ n ih =>
    by_cases h : n = 0
    · subst h; rw [limbs_zero]; rfl
    rw [limbs_pos (by omega)]
    simp only [val]
    rw [ih _ (Nat.div_lt_self (by omega) (by decide))]
    have := Nat.mod_add_div n BB
    omega
theorem val_append : ∀ (xs ys : List Int), val (xs ++ ys) = val xs + BB ^ xs.length * val ys
  | [], ys => by simp [val]
  | x :: xs, ys => by
    simp only [List.cons_append,val,val_append xs ys,List.length_cons,Nat.pow_succ]
    rw [Nat.mul_add, Nat.mul_comm (BB ^ xs.length) BB, Nat.mul_assoc]
    omega
theorem val_lt : ∀ {xs : List Int}, InR xs → val xs < BB ^ xs.length
  | [], _ => by simp [val]
  | x :: xs, h => by
    have h1 := val_lt h.tail
    have h2 := h.head
    simp only [val,List.length_cons,Nat.pow_succ]
    have : BB * (val xs + 1) ≤ BB * BB ^ xs.length := Nat.mul_le_mul_left _ h1
    rw [Nat.mul_comm (BB ^ xs.length) BB]
    have h3 : x.toNat < BB := by unfold BB; omega
    rw [Nat.mul_add] at this
    omega
theorem val_replicate : ∀ (n : Nat), val (List.replicate n 0) = 0
  | 0 => rfl
  | n + 1 => by simp [List.replicate_succ, val, val_replicate n]
theorem getD_val : ∀ {xs : List Int}, InR xs → ∀ i, xs.getD i 0 = ((val xs / BB ^ i % BB : Nat) : Int)
  | [], _, i => by simp [val]
  | x :: xs, h, 0 => by
    have h2 := h.head
    have h3 : x.toNat < BB := by unfold BB; omega
    simp only [X0,val,Nat.pow_zero,Nat.div_one,Nat.add_mul_mod_self_left,Nat.mod_eq_of_lt h3]
    omega
  | x :: xs, h, i + 1 => by
    have h2 := h.head
    have h3 : x.toNat < BB := by unfold BB; omega
    simp only [X1,val]
    rw [getD_val h.tail i, Nat.pow_succ, Nat.mul_comm (BB ^ i) BB, ← Nat.div_div_eq_div_mul, Nat.add_mul_div_left _ _ (by decide : 0 < BB), Nat.div_eq_of_lt h3, Nat.zero_add]
theorem val_take {xs : List Int} (h : InR xs) (i : Nat) : val (xs.take i) = val xs % BB ^ i := by
  by_cases hi : i ≤ xs.length
  · have e := val_append (xs.take i) (xs.drop i)
    rw [List.take_append_drop, X5, Nat.min_eq_left hi] at e
    have hl := val_lt (h.take i)
    rw [X5, Nat.min_eq_left hi] at hl
    rw [e, Nat.add_mul_mod_self_left, Nat.mod_eq_of_lt hl]
  rw [List.take_of_length_le (by omega), Nat.mod_eq_of_lt]
  exact Nat.lt_of_lt_of_le (val_lt h) (Nat.pow_le_pow_right (by decide) (by omega))
theorem val_drop {xs : List Int} (h : InR xs) (i : Nat) : val (xs.drop i) = val xs / BB ^ i := by
  by_cases hi : i ≤ xs.length
  · have e := val_append (xs.take i) (xs.drop i)
    rw [List.take_append_drop, X5, Nat.min_eq_left hi] at e
    have hl := val_lt (h.take i)
    rw [X5, Nat.min_eq_left hi] at hl
    rw [e, Nat.add_mul_div_left _ _ (Nat.pow_pos (by decide)), Nat.div_eq_of_lt hl, Nat.zero_add]
  rw [List.drop_of_length_le (by omega), Nat.div_eq_of_lt]; rfl
  exact Nat.lt_of_lt_of_le (val_lt h) (Nat.pow_le_pow_right (by decide) (by omega))
theorem val_set : ∀ {xs : List Int} {i : Nat} {x : Int}, i < xs.length → val (xs.set i x) + BB ^ i * (xs.getD i 0).toNat = val xs + BB ^ i * x.toNat
  | [], i, x, h => by simp at h
  | y :: ys, 0, x, _ => by simp [val]; omega
  | y :: ys, i + 1, x, h => by
    have := val_set (xs := ys) (i := i) (x := x) (by simpa using h)
    simp only [List.set_cons_succ,val,X1,Nat.pow_succ]
    rw [Nat.mul_comm (BB ^ i) BB, Nat.mul_assoc, Nat.mul_assoc]
    have h2 : BB * (val (ys.set i x) + BB ^ i * (ys.getD i 0).toNat) = BB * (val ys + BB ^ i * x.toNat) := by rw [this]
    rw [Nat.mul_add, Nat.mul_add] at h2
    omega
theorem limbs_val_last : ∀ {xs : List Int}, InR xs → (xs = [] ∨ xs.getD (xs.length - 1) 0 ≠ 0) → limbs (val xs) = xs
  | [], _, _ => limbs_zero
  | [x], h, hl => by
    have h2 := h.head
    have hx : x ≠ 0 := by simpa using hl
    have h3 : x.toNat < BB := by unfold BB; omega
    simp only [val,Nat.mul_zero,Nat.add_zero]
    rw [limbs_pos (by omega), Nat.mod_eq_of_lt h3, Nat.div_eq_of_lt h3, limbs_zero]
    congr 1; omega
  | x :: y :: ys, h, hl => by
    have h2 := h.head
    have h3 : x.toNat < BB := by unfold BB; omega
    have ih := limbs_val_last h.tail (.inr (by
      rcases hl with hl | hl
      · cases hl
      simpa using hl))
    have hpos : 0 < val (y :: ys) := by
      rcases Nat.eq_zero_or_pos (val (y :: ys)) with h0 | h0
      · rw [h0, limbs_zero] at ih; cases ih
      exact h0
    have e : val (x :: y :: ys) = x.toNat + BB * val (y :: ys) := rfl
    have hp : 0 < val (x :: y :: ys) := by
      rw [e]
      have : 0 < BB * val (y :: ys) := Nat.mul_pos (by decide) hpos
      omega
    rw [limbs_pos hp, e, Nat.add_mul_mod_self_left, Nat.mod_eq_of_lt h3, Nat.add_mul_div_left _ _ (by decide : 0 < BB), Nat.div_eq_of_lt h3, Nat.zero_add, ih]
    congr 1; omega
theorem limbs_val_ge {xs : List Int} (h : InR xs) (hl : xs.length = 0 ∨ BB ^ (xs.length - 1) ≤ val xs) : limbs (val xs) = xs := by
  refine limbs_val_last h ?_
  rcases hl with hl | hl
  · exact .inl (List.length_eq_zero_iff.1 hl)
  by_cases hn : xs = []
  · exact .inl hn
  refine .inr fun h0 => ?_
  have hp : 0 < xs.length := List.length_pos_iff.2 hn
  rw [getD_val h] at h0
  have hv := val_lt h
  have h1 : val xs / BB ^ (xs.length - 1) < BB := by
    rw [Nat.div_lt_iff_lt_mul (Nat.pow_pos (by decide)), Nat.mul_comm, ← Nat.pow_succ, show (xs.length - 1).succ = xs.length by omega]; exact hv
  rw [Nat.mod_eq_of_lt h1] at h0
  have h2 : 1 ≤ val xs / BB ^ (xs.length - 1) := by
    rw [Nat.le_div_iff_mul_le (Nat.pow_pos (by decide))]; omega
  omega
def nl (n : Nat) : Nat := (limbs n).length
theorem limbs_length (n : Nat) : (limbs n).length = nl n := rfl
theorem take_limbs (n : Nat) : (limbs n).take (nl n) = limbs n := List.take_length
theorem nl_zero : nl 0 = 0 := by unfold nl; rw [limbs_zero]; rfl
theorem nl_le_of_lt : ∀ {k n : Nat}, n < BB ^ k → nl n ≤ k
  | 0, n, h => by
    have : n = 0 := by simpa using h
    subst this; rw [nl_zero]; omega
  | k + 1, n, h => by
    by_cases h0 : n = 0
    · subst h0; rw [nl_zero]; omega
    unfold nl
    rw [limbs_pos (by omega)]
    have : nl (n / BB) ≤ k := nl_le_of_lt (by rw [Nat.div_lt_iff_lt_mul (by decide), ← Nat.pow_succ]; exact h)
    unfold nl at this
    simp only [List.length_cons]; omega
theorem lt_of_nl (n : Nat) : n < BB ^ nl n := by
  have := val_lt (InR.limbs n)
  rw [val_limbs] at this; exact this
theorem nl_le_iff {k n : Nat} : nl n ≤ k ↔ n < BB ^ k :=
  ⟨fun h => Nat.lt_of_lt_of_le (lt_of_nl n) (Nat.pow_le_pow_right (by decide) h), nl_le_of_lt⟩
theorem nl_mono {m n : Nat} (h : m ≤ n) : nl m ≤ nl n := nl_le_of_lt (Nat.lt_of_le_of_lt h (lt_of_nl n))
theorem nl_pos {n : Nat} : 0 < nl n ↔ 0 < n := by
  constructor
  · intro h
    rcases Nat.eq_zero_or_pos n with h0 | h0
    · subst h0; rw [nl_zero] at h; omega
    exact h0
  intro h
  rcases Nat.eq_zero_or_pos (nl n) with h0 | h0
  · have := lt_of_nl n
    rw [h0] at this
    simp at this; omega
  exact h0
theorem nl_eq_zero {n : Nat} : nl n = 0 ↔ n = 0 := by
  have := nl_pos (n := n); omega
theorem ge_of_nl {n : Nat} (h : 0 < n) : BB ^ (nl n - 1) ≤ n := by
  rcases Nat.lt_or_ge n (BB ^ (nl n - 1)) with h1 | h1
  · have := nl_le_of_lt h1
    have := nl_pos.2 h
    omega
  exact h1
theorem nl_mul (m n : Nat) : nl (m * n) ≤ nl m + nl n := by
  apply nl_le_of_lt
  rw [Nat.pow_add]
  exact Nat.mul_lt_mul'' (lt_of_nl m) (lt_of_nl n)
theorem nl_add (m n : Nat) : nl (m + n) ≤ max (nl m) (nl n) + 1 := by
  apply nl_le_of_lt
  rw [Nat.pow_succ]
  have h1 : m < BB ^ max (nl m) (nl n) := nl_le_iff.1 (Nat.le_max_left _ _)
  have h2 : n < BB ^ max (nl m) (nl n) := nl_le_iff.1 (Nat.le_max_right _ _)
  have h3 : BB ^ max (nl m) (nl n) * 2 ≤ BB ^ max (nl m) (nl n) * BB := Nat.mul_le_mul_left _ (by decide)
  omega
open Go
theorem wI (i : Nat) (h : i + 1 < 9223372036854775808) : IntKind.i64.wrap ((i : Int) + 1) = ((i + 1 : Nat) : Int) := by rw [Go.IntWalk.i64_in _ (by omega)]; omega
set_option linter.defProp false in
def vx := And.intro vcs (And.intro vcu (And.intro vcn (And.intro vcl (And.intro vcr (And.intro @limbs_length (And.intro @take_limbs (And.intro @Nat.min_def (And.intro @IntKind.bits.eq_1 (And.intro @IntKind.bits.eq_2 (And.intro @IntKind.bits.eq_3 (And.intro @IntKind.bits.eq_4 (And.intro @IntKind.bits.eq_5 (And.intro @IntKind.bits.eq_6 (And.intro @IntKind.bits.eq_7 (@IntKind.bits.eq_8)))))))))))))))
set_option linter.defProp false in
def rx := And.intro vcn (And.intro vcl (And.intro vcq (And.intro @limbs_length (@take_limbs))))
end Go.Eng
namespace Go.Proofs.YtpogdlmhmafjlaaGreat
open Go Go.Eng
theorem val_trim {ys : List Int} (h : InR ys) (h0 : 0 < ys.length) (hl : ys.getD (ys.length - 1) 0 = 0) : val (ys.take (ys.length - 1)) = val ys := by
  have e := val_append (ys.take (ys.length - 1)) (ys.drop (ys.length - 1))
  rw [List.take_append_drop] at e
  have h1 : ys.drop (ys.length - 1) = [0] := by
    rw [X7, X8 (by omega)] at hl
    rw [List.drop_eq_getElem_cons (by omega), List.drop_of_length_le (by omega)]
    simpa using hl
  rw [h1] at e
  simp [val] at e
  exact e.symm
theorem itrim_spec (xs : List Int) (hr : InR xs) (hx : xs.length < 2 ^ 62) : Pr Tryz.prog 111 [.one (.ints .u32 xs)] (.one (.ints .u32 (limbs (val xs)))) := by
  refine pv T_ok mixed Tryz.func111 rfl (by decide) _ (by simp [Tryz.ntmps111]) ⟨[0, 2, 14], []⟩ (by kernel_rfl) _ ?_
  show vc T _ _ (Option.get! Tryz.f111.body) _ _
  simp only [Tryz.f111,Tryz.ntmps111,Option.get!,iS,iM,eO,J1]
  simp only [vx,T,K5,J0,K6,K7,↓reduceIte,J1,J2,J3,J4,J5,J6,J7,J8,J9,reduceCtorEq,K1,K2,K3,K4]
  refine Lk (fun ys : {l : List Int // l.length < 2 ^ 62 ∧ InR l ∧ val l = val xs} => ⟨[(0, .one (.ints .u32 ys))], [], 3, 21⟩) (fun ys => ys.1.length) ⟨xs, hx, hr, rfl⟩ ?_ (fun ⟨ys, hy, hyr, hyv⟩ => ?_)
  · refine Sa ?_; simp only [rx,Y0,Y1,Y2,Y3,Y4,Y5,Y6,Y7,ren,↓reduceIte,J1,J2,J3,J4,J5,J6,J7,J8,J9,reduceCtorEq,K1,K2,K3,K4,Y8,Y9,X2,X3,X4]
  simp only [vx,T,K5,J0,K6,K7,↓reduceIte,J1,J2,J3,J4,J5,J6,J7,J8,J9,reduceCtorEq,K1,K2,K3,K4]
  refine ⟨fun h => Lg ?_, fun h => Lg ?_⟩
  · simp only [vx,T,K5,J0,K6,K7,↓reduceIte,J1,J2,J3,J4,J5,J6,J7,J8,J9,reduceCtorEq,K1,K2,K3,K4]
    rw [IntWalk.i64_in _ (by omega)]
    refine ⟨by omega, ?_⟩
    refine ⟨fun h => Lg ?_, fun h => Lg ?_⟩
    · simp only [vx,T,K5,J0,K6,K7,↓reduceIte,J1,J2,J3,J4,J5,J6,J7,J8,J9,reduceCtorEq,K1,K2,K3,K4]
      rw [IntWalk.i64_in _ (by omega)]
      refine ⟨by omega, Lq ⟨ys.take (ys.length - 1), by simp; omega, hyr.take _, ?_⟩ ?_ ?_⟩
      · rw [val_trim hyr (by omega) (by rw [show ys.length - 1 = ((ys.length : Int) - 1).toNat by omega]; exact h), hyv]
      · refine Sa ?_; simp only [rx,Y0,Y1,Y2,Y3,Y4,Y5,Y6,Y7,ren,↓reduceIte,J1,J2,J3,J4,J5,J6,J7,J8,J9,reduceCtorEq,K1,K2,K3,K4,Y8,Y9,X2,X3,X4]
        rw [show ((ys.length : Int) - 1).toNat = ys.length - 1 by omega]
      simp; omega
    simp only [vx,T,K5,J0,K6,K7,↓reduceIte,J1,J2,J3,J4,J5,J6,J7,J8,J9,reduceCtorEq,K1,K2,K3,K4]
    refine Ve ?_
    rw [← hyv, limbs_val_last hyr (.inr (by rw [show ys.length - 1 = ((ys.length : Int) - 1).toNat by omega]; exact h))]
  simp only [vx,T,K5,J0,K6,K7,↓reduceIte,J1,J2,J3,J4,J5,J6,J7,J8,J9,reduceCtorEq,K1,K2,K3,K4]
  refine Ve ?_
  rw [← hyv, limbs_val_last hyr (.inl (List.length_eq_zero_iff.1 (by omega)))]
theorem rtrim_spec (xs : List Int) (hr : InR xs) (hx : xs.length < 2 ^ 62) : Pr Tryz.prog 60 [.one (.ints .u32 xs)] (.one (.ints .u32 (limbs (val xs)))) := by
  refine pv T_ok mixed Tryz.func60 rfl (by decide) _ (by simp [Tryz.ntmps60]) ⟨[0, 2, 14], []⟩ (by kernel_rfl) _ ?_
  show vc T _ _ (Option.get! Tryz.f60.body) _ _
  simp only [Tryz.f60,Tryz.ntmps60,Option.get!,iS,iM,eO,J1]
  simp only [vx,T,K5,J0,K6,K7,↓reduceIte,J1,J2,J3,J4,J5,J6,J7,J8,J9,reduceCtorEq,K1,K2,K3,K4]
  refine Lk (fun ys : {l : List Int // l.length < 2 ^ 62 ∧ InR l ∧ val l = val xs} => ⟨[(0, .one (.ints .u32 ys))], [], 3, 21⟩) (fun ys => ys.1.length) ⟨xs, hx, hr, rfl⟩ ?_ (fun ⟨ys, hy, hyr, hyv⟩ => ?_)
  · refine Sa ?_; simp only [rx,Y0,Y1,Y2,Y3,Y4,Y5,Y6,Y7,ren,↓reduceIte,J1,J2,J3,J4,J5,J6,J7,J8,J9,reduceCtorEq,K1,K2,K3,K4,Y8,Y9,X2,X3,X4]
  simp only [vx,T,K5,J0,K6,K7,↓reduceIte,J1,J2,J3,J4,J5,J6,J7,J8,J9,reduceCtorEq,K1,K2,K3,K4]
  refine ⟨fun h => Lg ?_, fun h => Lg ?_⟩
  · simp only [vx,T,K5,J0,K6,K7,↓reduceIte,J1,J2,J3,J4,J5,J6,J7,J8,J9,reduceCtorEq,K1,K2,K3,K4]
    rw [IntWalk.i64_in _ (by omega)]
    refine ⟨by omega, ?_⟩
    refine ⟨fun h => Lg ?_, fun h => Lg ?_⟩
    · simp only [vx,T,K5,J0,K6,K7,↓reduceIte,J1,J2,J3,J4,J5,J6,J7,J8,J9,reduceCtorEq,K1,K2,K3,K4]
      rw [IntWalk.i64_in _ (by omega)]
      refine ⟨by omega, Lq ⟨ys.take (ys.length - 1), by simp; omega, hyr.take _, ?_⟩ ?_ ?_⟩
      · rw [val_trim hyr (by omega) (by rw [show ys.length - 1 = ((ys.length : Int) - 1).toNat by omega]; exact h), hyv]
      · refine Sa ?_; simp only [rx,Y0,Y1,Y2,Y3,Y4,Y5,Y6,Y7,ren,↓reduceIte,J1,J2,J3,J4,J5,J6,J7,J8,J9,reduceCtorEq,K1,K2,K3,K4,Y8,Y9,X2,X3,X4]
        rw [show ((ys.length : Int) - 1).toNat = ys.length - 1 by omega]
      simp; omega
    simp only [vx,T,K5,J0,K6,K7,↓reduceIte,J1,J2,J3,J4,J5,J6,J7,J8,J9,reduceCtorEq,K1,K2,K3,K4]
    refine Ve ?_
    rw [← hyv, limbs_val_last hyr (.inr (by rw [show ys.length - 1 = ((ys.length : Int) - 1).toNat by omega]; exact h))]
  simp only [vx,T,K5,J0,K6,K7,↓reduceIte,J1,J2,J3,J4,J5,J6,J7,J8,J9,reduceCtorEq,K1,K2,K3,K4]
  refine Ve ?_
  rw [← hyv, limbs_val_last hyr (.inl (List.length_eq_zero_iff.1 (by omega)))]
theorem InR_words (n : Nat) : InR [IntKind.u32.wrap n, IntKind.u32.wrap ((n : Int).fdiv 4294967296)] := by
  refine InR.cons ?_ (InR.one ?_) <;> (rw [IntKind.wrap_u32]; omega)
theorem val_words {n : Nat} (hn : n < 2 ^ 64) : val [IntKind.u32.wrap n, IntKind.u32.wrap ((n : Int).fdiv 4294967296)] = n := by
  simp only [val,IntKind.wrap_u32,BB]
  rw [Int.fdiv_eq_ediv_of_nonneg _ (by decide)]
  have h1 : ((n : Int) % 4294967296).toNat = n % 4294967296 := by omega
  have h2 : ((n : Int) / 4294967296 % 4294967296).toNat = n / 4294967296 := by omega
  rw [h1, h2]
  omega
theorem ifromUint_spec (n : Nat) (hn : n < 2 ^ 64) : Pr Tryz.prog 115 [.one (.int .u64 n)] (.one (.ints .u32 (limbs n))) := by
  refine pv T_ok mixed Tryz.func115 rfl (by decide) _ (by simp [Tryz.ntmps115]) ⟨[0, 2], []⟩ (by kernel_rfl) _ ?_
  show vc T _ _ (Option.get! Tryz.f115.body) _ _
  simp only [Tryz.f115,Tryz.ntmps115,Option.get!,iS,iM,eO,J1]
  simp only [vx,T,K5,J0,K6,K7,↓reduceIte,J1,J2,J3,J4,J5,J6,J7,J8,J9,reduceCtorEq,K1,K2,K3,K4]
  refine Cg (itrim_spec _ (InR_words n) (by simp)) ?_
  rw [val_words hn]
  simp only [vx,T,K5,J0,K6,K7,↓reduceIte,J1,J2,J3,J4,J5,J6,J7,J8,J9,reduceCtorEq,K1,K2,K3,K4]
  refine Va ?_; simp only [vLe,vLeL,rx,Y0,Y1,Y2,Y3,Y4,Y5,Y6,Y7,ren,↓reduceIte,J1,J2,J3,J4,J5,J6,J7,J8,J9,reduceCtorEq,K1,K2,K3,K4]
theorem rwords_spec (n : Nat) (hn : n < 2 ^ 64) : Pr Tryz.prog 72 [.one (.int .u64 n)] (.one (.ints .u32 (limbs n))) := by
  refine pv T_ok mixed Tryz.func72 rfl (by decide) _ (by simp [Tryz.ntmps72]) ⟨[0, 2], []⟩ (by kernel_rfl) _ ?_
  show vc T _ _ (Option.get! Tryz.f72.body) _ _
  simp only [Tryz.f72,Tryz.ntmps72,Option.get!,iS,iM,eO,J1]
  simp only [vx,T,K5,J0,K6,K7,↓reduceIte,J1,J2,J3,J4,J5,J6,J7,J8,J9,reduceCtorEq,K1,K2,K3,K4]
  refine Cg (rtrim_spec _ (InR_words n) (by simp)) ?_
  rw [val_words hn]
  simp only [vx,T,K5,J0,K6,K7,↓reduceIte,J1,J2,J3,J4,J5,J6,J7,J8,J9,reduceCtorEq,K1,K2,K3,K4]
  refine Va ?_; simp only [vLe,vLeL,rx,Y0,Y1,Y2,Y3,Y4,Y5,Y6,Y7,ren,↓reduceIte,J1,J2,J3,J4,J5,J6,J7,J8,J9,reduceCtorEq,K1,K2,K3,K4]
theorem limbs_len_zero {n : Nat} (h : (nl n : Int) = 0) : n = 0 := nl_eq_zero.1 (by omega)
theorem limbs_len_pos {n : Nat} (h : ¬ (nl n : Int) = 0) : 0 < n := nl_pos.1 (by omega)
theorem isigned_spec (b : Bool) (xs : List Int) (hr : InR xs) (hx : xs.length < 2 ^ 62) : Pr Tryz.prog 109 [.one (.bool b), .one (.ints .u32 xs)] (.agg [.bool (b && decide (0 < val xs)), .ints .u32 (limbs (val xs))]) := by
  refine pv T_ok mixed Tryz.func109 rfl (by decide) _ (by simp [Tryz.ntmps109]) ⟨[0, 1, 4, 9], []⟩ (by kernel_rfl) _ ?_
  show vc T _ _ (Option.get! Tryz.f109.body) _ _
  simp only [Tryz.f109,Tryz.ntmps109,Option.get!,iS,iM,eO,J1]
  simp only [vx,T,K5,J0,K6,K7,↓reduceIte,J1,J2,J3,J4,J5,J6,J7,J8,J9,reduceCtorEq,K1,K2,K3,K4]
  refine Cg (itrim_spec xs hr hx) ?_
  simp only [vx,T,K5,J0,K6,K7,↓reduceIte,J1,J2,J3,J4,J5,J6,J7,J8,J9,reduceCtorEq,K1,K2,K3,K4]
  refine ⟨fun h => Lg ?_, fun h => Lg ?_⟩
  · simp only [vx,T,K5,J0,K6,K7,↓reduceIte,J1,J2,J3,J4,J5,J6,J7,J8,J9,reduceCtorEq,K1,K2,K3,K4]
    have h0 := limbs_len_zero h
    refine Va ?_; simp only [vLe,vLeL,rx,Y0,Y1,Y2,Y3,Y4,Y5,Y6,Y7,ren,↓reduceIte,J1,J2,J3,J4,J5,J6,J7,J8,J9,reduceCtorEq,K1,K2,K3,K4,h0,limbs_zero,Nat.lt_irrefl]
  simp only [vx,T,K5,J0,K6,K7,↓reduceIte,J1,J2,J3,J4,J5,J6,J7,J8,J9,reduceCtorEq,K1,K2,K3,K4]
  have h0 := limbs_len_pos h
  refine Va ?_; simp only [vLe,vLeL,rx,Y0,Y1,Y2,Y3,Y4,Y5,Y6,Y7,ren,↓reduceIte,J1,J2,J3,J4,J5,J6,J7,J8,J9,reduceCtorEq,K1,K2,K3,K4,h0]
theorem rsigned_spec (b : Bool) (xs : List Int) (hr : InR xs) (hx : xs.length < 2 ^ 62) : Pr Tryz.prog 56 [.one (.bool b), .one (.ints .u32 xs)] (.agg [.bool (b && decide (0 < val xs)), .ints .u32 (limbs (val xs))]) := by
  refine pv T_ok mixed Tryz.func56 rfl (by decide) _ (by simp [Tryz.ntmps56]) ⟨[0, 1, 4], []⟩ (by kernel_rfl) _ ?_
  show vc T _ _ (Option.get! Tryz.f56.body) _ _
  simp only [Tryz.f56,Tryz.ntmps56,Option.get!,iS,iM,eO,J1]
  simp only [vx,T,K5,J0,K6,K7,↓reduceIte,J1,J2,J3,J4,J5,J6,J7,J8,J9,reduceCtorEq,K1,K2,K3,K4]
  refine Cg (rtrim_spec xs hr hx) ?_
  simp only [vx,T,K5,J0,K6,K7,↓reduceIte,J1,J2,J3,J4,J5,J6,J7,J8,J9,reduceCtorEq,K1,K2,K3,K4]
  refine ⟨fun h0 => Lg ?_, fun h0 => Lg ?_⟩
  · subst h0
    simp only [vx,T,K5,J0,K6,K7,↓reduceIte,J1,J2,J3,J4,J5,J6,J7,J8,J9,reduceCtorEq,K1,K2,K3,K4]
    by_cases h : 0 < val xs
    · have h1 := nl_pos.2 h
      refine Va ?_; simp only [vLe,vLeL,rx,Y0,Y1,Y2,Y3,Y4,Y5,Y6,Y7,ren,↓reduceIte,J1,J2,J3,J4,J5,J6,J7,J8,J9,reduceCtorEq,K1,K2,K3,K4,h,decide_true,Bool.true_and,Int.natCast_pos,h1]
    have h1 : val xs = 0 := by omega
    refine Va ?_; simp only [vLe,vLeL,rx,Y0,Y1,Y2,Y3,Y4,Y5,Y6,Y7,ren,↓reduceIte,J1,J2,J3,J4,J5,J6,J7,J8,J9,reduceCtorEq,K1,K2,K3,K4,h1,limbs_zero,nl_zero,Nat.lt_irrefl,X4,Int.lt_irrefl]
  subst h0
  simp only [vx,T,K5,J0,K6,K7,↓reduceIte,J1,J2,J3,J4,J5,J6,J7,J8,J9,reduceCtorEq,K1,K2,K3,K4]
  refine Va ?_; simp only [vLe,vLeL,rx,Y0,Y1,Y2,Y3,Y4,Y5,Y6,Y7,ren,↓reduceIte,J1,J2,J3,J4,J5,J6,J7,J8,J9,reduceCtorEq,K1,K2,K3,K4]
open Go Go.Eng
def cmpI (x y : Int) : Int := if x < y then -1 else if y < x then 1 else 0
theorem cmpI_lt {x y : Int} (h : x < y) : cmpI x y = -1 := if_pos h
theorem cmpI_gt {x y : Int} (h : y < x) : cmpI x y = 1 := by unfold cmpI; rw [if_neg (by omega), if_pos h]
theorem cmpI_eq {x y : Int} (h : x = y) : cmpI x y = 0 := by unfold cmpI; rw [if_neg (by omega), if_neg (by omega)]
theorem lG (n i : Nat) : (limbs n).getD i 0 = ((n / BB ^ i % BB : Nat) : Int) := by
  rw [getD_val (InR.limbs n), val_limbs]
theorem digit_lt {m n i : Nat} (h : m / BB ^ (i + 1) = n / BB ^ (i + 1)) (hd : m / BB ^ i % BB < n / BB ^ i % BB) : m < n := by
  have e : ∀ x : Nat, x / BB ^ (i + 1) = x / BB ^ i / BB := fun x => by rw [Nat.pow_succ, Nat.div_div_eq_div_mul]
  rw [e, e] at h
  have h1 := Nat.div_add_mod (m / BB ^ i) BB
  have h2 := Nat.div_add_mod (n / BB ^ i) BB
  rw [h] at h1
  rcases Nat.lt_or_ge m n with h3 | h3
  · exact h3
  have := Nat.div_le_div_right (c := BB ^ i) h3
  omega
theorem digit_eq {m n i : Nat} (h : m / BB ^ (i + 1) = n / BB ^ (i + 1)) (hd : m / BB ^ i % BB = n / BB ^ i % BB) : m / BB ^ i = n / BB ^ i := by
  have e : ∀ x : Nat, x / BB ^ (i + 1) = x / BB ^ i / BB := fun x => by rw [Nat.pow_succ, Nat.div_div_eq_div_mul]
  rw [e, e] at h
  have h1 := Nat.div_add_mod (m / BB ^ i) BB
  have h2 := Nat.div_add_mod (n / BB ^ i) BB
  rw [h, hd] at h1
  omega
theorem div_top {m k : Nat} (h : nl m ≤ k) : m / BB ^ k = 0 := Nat.div_eq_of_lt (nl_le_iff.1 h)
theorem isNaN_i64_spec (x : Int) : Pr Tryz.prog 156 [.one (.int .i64 x)] (.one (.bool false)) := by
  refine pv T_ok mixed Tryz.func156 rfl (by decide) _ (by simp [Tryz.ntmps156]) ⟨[0, 2], []⟩ (by kernel_rfl) _ ?_
  show vc T _ _ (Option.get! Tryz.f156.body) _ _
  simp only [Tryz.f156,Tryz.ntmps156,Option.get!,iS,iM,eO,J1]
  simp only [vx,T,K5,J0,K6,K7,↓reduceIte,J1,J2,J3,J4,J5,J6,J7,J8,J9,reduceCtorEq,K1,K2,K3,K4]
  refine Va ?_; simp only [vLe,vLeL,rx,Y0,Y1,Y2,Y3,Y4,Y5,Y6,Y7,ren,↓reduceIte,J1,J2,J3,J4,J5,J6,J7,J8,J9,reduceCtorEq,K1,K2,K3,K4,not_true_eq_false,decide_false]
theorem Compare_i64_spec (x y : Int) : Pr Tryz.prog 117 [.one (.int .i64 x), .one (.int .i64 y)] (.one (.int .i64 (cmpI x y))) := by
  refine pv T_ok mixed Tryz.func117 rfl (by decide) _ (by simp [Tryz.ntmps117]) ⟨[0, 1, 4, 5, 6, 11, 12, 13, 16, 19], []⟩ (by kernel_rfl) _ ?_
  show vc T _ _ (Option.get! Tryz.f117.body) _ _
  simp only [Tryz.f117,Tryz.ntmps117,Option.get!,iS,iM,eO,J1]
  simp only [vx,T,K5,J0,K6,K7,↓reduceIte,J1,J2,J3,J4,J5,J6,J7,J8,J9,reduceCtorEq,K1,K2,K3,K4]
  refine Cg (isNaN_i64_spec _) ?_
  simp only [vx,T,K5,J0,K6,K7,↓reduceIte,J1,J2,J3,J4,J5,J6,J7,J8,J9,reduceCtorEq,K1,K2,K3,K4]
  refine Cg (isNaN_i64_spec _) ?_
  simp only [vx,T,K5,J0,K6,K7,↓reduceIte,J1,J2,J3,J4,J5,J6,J7,J8,J9,reduceCtorEq,K1,K2,K3,K4]
  refine ⟨fun h => Lg ?_, fun h => Lg ?_⟩
  · simp only [vx,T,K5,J0,K6,K7,↓reduceIte,J1,J2,J3,J4,J5,J6,J7,J8,J9,reduceCtorEq,K1,K2,K3,K4]
    refine Va ?_; simp only [vLe,vLeL,rx,Y0,Y1,Y2,Y3,Y4,Y5,Y6,Y7,ren,↓reduceIte,J1,J2,J3,J4,J5,J6,J7,J8,J9,reduceCtorEq,K1,K2,K3,K4,cmpI_lt h]
  simp only [vx,T,K5,J0,K6,K7,↓reduceIte,J1,J2,J3,J4,J5,J6,J7,J8,J9,reduceCtorEq,K1,K2,K3,K4]
  refine ⟨fun h' => Lg ?_, fun h' => Lg ?_⟩
  · simp only [vx,T,K5,J0,K6,K7,↓reduceIte,J1,J2,J3,J4,J5,J6,J7,J8,J9,reduceCtorEq,K1,K2,K3,K4]
    refine Va ?_; simp only [vLe,vLeL,rx,Y0,Y1,Y2,Y3,Y4,Y5,Y6,Y7,ren,↓reduceIte,J1,J2,J3,J4,J5,J6,J7,J8,J9,reduceCtorEq,K1,K2,K3,K4,cmpI_gt h']
  simp only [vx,T,K5,J0,K6,K7,↓reduceIte,J1,J2,J3,J4,J5,J6,J7,J8,J9,reduceCtorEq,K1,K2,K3,K4]
  refine Va ?_; simp only [vLe,vLeL,rx,Y0,Y1,Y2,Y3,Y4,Y5,Y6,Y7,ren,↓reduceIte,J1,J2,J3,J4,J5,J6,J7,J8,J9,reduceCtorEq,K1,K2,K3,K4,cmpI_eq (show x = y by omega)]
theorem isNaN_u32_spec (x : Int) : Pr Tryz.prog 214 [.one (.int .u32 x)] (.one (.bool false)) := by
  refine pv T_ok mixed Tryz.func214 rfl (by decide) _ (by simp [Tryz.ntmps214]) ⟨[0, 2], []⟩ (by kernel_rfl) _ ?_
  show vc T _ _ (Option.get! Tryz.f214.body) _ _
  simp only [Tryz.f214,Tryz.ntmps214,Option.get!,iS,iM,eO,J1]
  simp only [vx,T,K5,J0,K6,K7,↓reduceIte,J1,J2,J3,J4,J5,J6,J7,J8,J9,reduceCtorEq,K1,K2,K3,K4]
  refine Va ?_; simp only [vLe,vLeL,rx,Y0,Y1,Y2,Y3,Y4,Y5,Y6,Y7,ren,↓reduceIte,J1,J2,J3,J4,J5,J6,J7,J8,J9,reduceCtorEq,K1,K2,K3,K4,not_true_eq_false,decide_false]
theorem Compare_u32_spec (x y : Int) : Pr Tryz.prog 190 [.one (.int .u32 x), .one (.int .u32 y)] (.one (.int .i64 (cmpI x y))) := by
  refine pv T_ok mixed Tryz.func190 rfl (by decide) _ (by simp [Tryz.ntmps190]) ⟨[0, 1, 4, 5, 6, 11, 12, 13, 16, 19], []⟩ (by kernel_rfl) _ ?_
  show vc T _ _ (Option.get! Tryz.f190.body) _ _
  simp only [Tryz.f190,Tryz.ntmps190,Option.get!,iS,iM,eO,J1]
  simp only [vx,T,K5,J0,K6,K7,↓reduceIte,J1,J2,J3,J4,J5,J6,J7,J8,J9,reduceCtorEq,K1,K2,K3,K4]
  refine Cg (isNaN_u32_spec _) ?_
  simp only [vx,T,K5,J0,K6,K7,↓reduceIte,J1,J2,J3,J4,J5,J6,J7,J8,J9,reduceCtorEq,K1,K2,K3,K4]
  refine Cg (isNaN_u32_spec _) ?_
  simp only [vx,T,K5,J0,K6,K7,↓reduceIte,J1,J2,J3,J4,J5,J6,J7,J8,J9,reduceCtorEq,K1,K2,K3,K4]
  refine ⟨fun h => Lg ?_, fun h => Lg ?_⟩
  · simp only [vx,T,K5,J0,K6,K7,↓reduceIte,J1,J2,J3,J4,J5,J6,J7,J8,J9,reduceCtorEq,K1,K2,K3,K4]
    refine Va ?_; simp only [vLe,vLeL,rx,Y0,Y1,Y2,Y3,Y4,Y5,Y6,Y7,ren,↓reduceIte,J1,J2,J3,J4,J5,J6,J7,J8,J9,reduceCtorEq,K1,K2,K3,K4,cmpI_lt h]
  simp only [vx,T,K5,J0,K6,K7,↓reduceIte,J1,J2,J3,J4,J5,J6,J7,J8,J9,reduceCtorEq,K1,K2,K3,K4]
  refine ⟨fun h' => Lg ?_, fun h' => Lg ?_⟩
  · simp only [vx,T,K5,J0,K6,K7,↓reduceIte,J1,J2,J3,J4,J5,J6,J7,J8,J9,reduceCtorEq,K1,K2,K3,K4]
    refine Va ?_; simp only [vLe,vLeL,rx,Y0,Y1,Y2,Y3,Y4,Y5,Y6,Y7,ren,↓reduceIte,J1,J2,J3,J4,J5,J6,J7,J8,J9,reduceCtorEq,K1,K2,K3,K4,cmpI_gt h']
  simp only [vx,T,K5,J0,K6,K7,↓reduceIte,J1,J2,J3,J4,J5,J6,J7,J8,J9,reduceCtorEq,K1,K2,K3,K4]
  refine Va ?_; simp only [vLe,vLeL,rx,Y0,Y1,Y2,Y3,Y4,Y5,Y6,Y7,ren,↓reduceIte,J1,J2,J3,J4,J5,J6,J7,J8,J9,reduceCtorEq,K1,K2,K3,K4,cmpI_eq (show x = y by omega)]
theorem len_cmp {m n : Nat} (h : ¬ (nl m : Int) = nl n) : cmpI (nl m) (nl n) = cmpI m n := by
  rcases Nat.lt_trichotomy m n with h1 | h1 | h1
  · have := nl_mono (Nat.le_of_lt h1)
    rw [cmpI_lt (by omega), cmpI_lt (by omega)]
  · subst h1; exact absurd rfl h
  have := nl_mono (Nat.le_of_lt h1)
  rw [cmpI_gt (by omega), cmpI_gt (by omega)]
theorem icompare_spec (m n : Nat) (hm : nl m < 2 ^ 62) (hn : nl n < 2 ^ 62) : Pr Tryz.prog 158 [.one (.ints .u32 (limbs m)), .one (.ints .u32 (limbs n))] (.one (.int .i64 (cmpI m n))) := by
  refine pv T_ok mixed Tryz.func158 rfl (by decide) _ (by simp [Tryz.ntmps158]) ⟨[0, 1, 4, 5, 10, 20, 31], []⟩ (by kernel_rfl) _ ?_
  show vc T _ _ (Option.get! Tryz.f158.body) _ _
  simp only [Tryz.f158,Tryz.ntmps158,Option.get!,iS,iM,eO,J1]
  simp only [vx,T,K5,J0,K6,K7,↓reduceIte,J1,J2,J3,J4,J5,J6,J7,J8,J9,reduceCtorEq,K1,K2,K3,K4]
  refine ⟨fun h => Lg ?_, fun h => Lg ?_⟩
  · simp only [vx,T,K5,J0,K6,K7,↓reduceIte,J1,J2,J3,J4,J5,J6,J7,J8,J9,reduceCtorEq,K1,K2,K3,K4]
    refine Cg (Compare_i64_spec _ _) ?_
    simp only [vx,T,K5,J0,K6,K7,↓reduceIte,J1,J2,J3,J4,J5,J6,J7,J8,J9,reduceCtorEq,K1,K2,K3,K4]
    refine Va ?_; simp only [vLe,vLeL,rx,Y0,Y1,Y2,Y3,Y4,Y5,Y6,Y7,ren,↓reduceIte,J1,J2,J3,J4,J5,J6,J7,J8,J9,reduceCtorEq,K1,K2,K3,K4,len_cmp h]
  simp only [vx,T,K5,J0,K6,K7,↓reduceIte,J1,J2,J3,J4,J5,J6,J7,J8,J9,reduceCtorEq,K1,K2,K3,K4]
  rw [IntWalk.i64_in _ (by omega)]
  refine Lk (fun i : {i : Nat // i ≤ nl m ∧ m / BB ^ i = n / BB ^ i} => ⟨[(0, .one (.ints .u32 (limbs m))), (1, .one (.ints .u32 (limbs n))), (5, .one (.int .i64 ((i.1 : Int) - 1)))], [], 3, 41⟩) (fun i => i.1) ⟨nl m, Nat.le_refl _, by rw [div_top (Nat.le_refl _), div_top (by omega)]⟩ ?_ (fun ⟨i, hi, hd⟩ => ?_)
  · refine Sa ?_; simp only [rx,Y0,Y1,Y2,Y3,Y4,Y5,Y6,Y7,ren,↓reduceIte,J1,J2,J3,J4,J5,J6,J7,J8,J9,reduceCtorEq,K1,K2,K3,K4,Y8,Y9,X2,X3,X4]
  simp only [vx,T,K5,J0,K6,K7,↓reduceIte,J1,J2,J3,J4,J5,J6,J7,J8,J9,reduceCtorEq,K1,K2,K3,K4]
  refine ⟨fun hi0 => Lg ?_, fun hi0 => Lg ?_⟩
  · obtain ⟨j, rfl⟩ : ∃ j, i = j + 1 := ⟨i - 1, by omega⟩
    simp only [show ((j + 1 : Nat) : Int) - 1 = (j : Int) by omega,Int.toNat_natCast] at hi0 ⊢
    simp only [vx,T,K5,J0,K6,K7,↓reduceIte,J1,J2,J3,J4,J5,J6,J7,J8,J9,reduceCtorEq,K1,K2,K3,K4]
    refine ⟨by omega, by omega, ?_⟩
    refine ⟨fun hdig => Lg ?_, fun hdig => Lg ?_⟩
    · simp only [vx,T,K5,J0,K6,K7,↓reduceIte,J1,J2,J3,J4,J5,J6,J7,J8,J9,reduceCtorEq,K1,K2,K3,K4]
      refine ⟨by omega, by omega, Cg (Compare_u32_spec _ _) ?_⟩
      simp only [vx,T,K5,J0,K6,K7,↓reduceIte,J1,J2,J3,J4,J5,J6,J7,J8,J9,reduceCtorEq,K1,K2,K3,K4]
      simp only [lG] at hdig ⊢
      refine Ve ?_
      rcases Nat.lt_or_ge (m / BB ^ j % BB) (n / BB ^ j % BB) with h1 | h1
      · rw [cmpI_lt (by omega), cmpI_lt (by have := digit_lt hd h1; omega)]
      rw [cmpI_gt (by omega), cmpI_gt (by have := digit_lt (m := n) (n := m) hd.symm (by omega); omega)]
    simp only [vx,T,K5,J0,K6,K7,↓reduceIte,J1,J2,J3,J4,J5,J6,J7,J8,J9,reduceCtorEq,K1,K2,K3,K4]
    simp only [lG] at hdig
    rw [IntWalk.i64_in _ (by omega)]
    refine Lq ⟨j, by omega, digit_eq hd (by omega)⟩ ?_ ?_
    · refine Sa ?_; simp only [rx,Y0,Y1,Y2,Y3,Y4,Y5,Y6,Y7,ren,↓reduceIte,J1,J2,J3,J4,J5,J6,J7,J8,J9,reduceCtorEq,K1,K2,K3,K4,Y8,Y9,X2,X3,X4]
    simp
  have h0 : i = 0 := by omega
  subst h0
  simp only [vx,T,K5,J0,K6,K7,↓reduceIte,J1,J2,J3,J4,J5,J6,J7,J8,J9,reduceCtorEq,K1,K2,K3,K4]
  have h0 : m = n := by simpa using hd
  refine Va ?_; simp only [vLe,vLeL,rx,Y0,Y1,Y2,Y3,Y4,Y5,Y6,Y7,ren,↓reduceIte,J1,J2,J3,J4,J5,J6,J7,J8,J9,reduceCtorEq,K1,K2,K3,K4,cmpI_eq (show (m : Int) = n by omega)]
theorem rcompare_spec (m n : Nat) (hm : nl m < 2 ^ 62) (hn : nl n < 2 ^ 62) : Pr Tryz.prog 58 [.one (.ints .u32 (limbs m)), .one (.ints .u32 (limbs n))] (.one (.int .i64 (cmpI m n))) := by
  refine pv T_ok mixed Tryz.func58 rfl (by decide) _ (by simp [Tryz.ntmps58]) ⟨[0, 1, 4, 5, 10, 15, 20, 31, 40], []⟩ (by kernel_rfl) _ ?_
  show vc T _ _ (Option.get! Tryz.f58.body) _ _
  simp only [Tryz.f58,Tryz.ntmps58,Option.get!,iS,iM,eO,J1]
  simp only [vx,T,K5,J0,K6,K7,↓reduceIte,J1,J2,J3,J4,J5,J6,J7,J8,J9,reduceCtorEq,K1,K2,K3,K4]
  refine ⟨fun h => Lg ?_, fun h => Lg ?_⟩
  · simp only [vx,T,K5,J0,K6,K7,↓reduceIte,J1,J2,J3,J4,J5,J6,J7,J8,J9,reduceCtorEq,K1,K2,K3,K4]
    rw [← len_cmp h]
    refine ⟨fun h1 => Lg ?_, fun h1 => Lg ?_⟩
    · simp only [vx,T,K5,J0,K6,K7,↓reduceIte,J1,J2,J3,J4,J5,J6,J7,J8,J9,reduceCtorEq,K1,K2,K3,K4]
      refine Va ?_; simp only [vLe,vLeL,rx,Y0,Y1,Y2,Y3,Y4,Y5,Y6,Y7,ren,↓reduceIte,J1,J2,J3,J4,J5,J6,J7,J8,J9,reduceCtorEq,K1,K2,K3,K4,cmpI_lt h1]
    simp only [vx,T,K5,J0,K6,K7,↓reduceIte,J1,J2,J3,J4,J5,J6,J7,J8,J9,reduceCtorEq,K1,K2,K3,K4]
    refine Va ?_; simp only [vLe,vLeL,rx,Y0,Y1,Y2,Y3,Y4,Y5,Y6,Y7,ren,↓reduceIte,J1,J2,J3,J4,J5,J6,J7,J8,J9,reduceCtorEq,K1,K2,K3,K4,cmpI_gt (show (nl n : Int) < nl m by omega)]
  simp only [vx,T,K5,J0,K6,K7,↓reduceIte,J1,J2,J3,J4,J5,J6,J7,J8,J9,reduceCtorEq,K1,K2,K3,K4]
  rw [IntWalk.i64_in _ (by omega)]
  refine Lk (fun i : {i : Nat // i ≤ nl m ∧ m / BB ^ i = n / BB ^ i} => ⟨[(0, .one (.ints .u32 (limbs m))), (1, .one (.ints .u32 (limbs n))), (5, .one (.int .i64 ((i.1 : Int) - 1)))], [], 3, 41⟩) (fun i => i.1) ⟨nl m, Nat.le_refl _, by rw [div_top (Nat.le_refl _), div_top (by omega)]⟩ ?_ (fun ⟨i, hi, hd⟩ => ?_)
  · refine Sa ?_; simp only [rx,Y0,Y1,Y2,Y3,Y4,Y5,Y6,Y7,ren,↓reduceIte,J1,J2,J3,J4,J5,J6,J7,J8,J9,reduceCtorEq,K1,K2,K3,K4,Y8,Y9,X2,X3,X4]
  simp only [vx,T,K5,J0,K6,K7,↓reduceIte,J1,J2,J3,J4,J5,J6,J7,J8,J9,reduceCtorEq,K1,K2,K3,K4]
  refine ⟨fun hi0 => Lg ?_, fun hi0 => Lg ?_⟩
  · obtain ⟨j, rfl⟩ : ∃ j, i = j + 1 := ⟨i - 1, by omega⟩
    simp only [show ((j + 1 : Nat) : Int) - 1 = (j : Int) by omega,Int.toNat_natCast] at hi0 ⊢
    simp only [vx,T,K5,J0,K6,K7,↓reduceIte,J1,J2,J3,J4,J5,J6,J7,J8,J9,reduceCtorEq,K1,K2,K3,K4]
    refine ⟨by omega, by omega, ?_⟩
    refine ⟨fun hdig => Lg ?_, fun hdig => Lg ?_⟩
    · simp only [vx,T,K5,J0,K6,K7,↓reduceIte,J1,J2,J3,J4,J5,J6,J7,J8,J9,reduceCtorEq,K1,K2,K3,K4]
      simp only [lG] at hdig
      have hlt : (m : Int) < n := by have := digit_lt hd (show m / BB ^ j % BB < n / BB ^ j % BB by omega); omega
      refine Va ?_; simp only [vLe,vLeL,rx,Y0,Y1,Y2,Y3,Y4,Y5,Y6,Y7,ren,↓reduceIte,J1,J2,J3,J4,J5,J6,J7,J8,J9,reduceCtorEq,K1,K2,K3,K4,cmpI_lt hlt]
    simp only [vx,T,K5,J0,K6,K7,↓reduceIte,J1,J2,J3,J4,J5,J6,J7,J8,J9,reduceCtorEq,K1,K2,K3,K4]
    refine ⟨by omega, by omega, ?_⟩
    refine ⟨fun hdig2 => Lg ?_, fun hdig2 => Lg ?_⟩
    · simp only [vx,T,K5,J0,K6,K7,↓reduceIte,J1,J2,J3,J4,J5,J6,J7,J8,J9,reduceCtorEq,K1,K2,K3,K4]
      simp only [lG] at hdig2
      have hlt : (n : Int) < m := by have := digit_lt (m := n) (n := m) hd.symm (show n / BB ^ j % BB < m / BB ^ j % BB by omega); omega
      refine Va ?_; simp only [vLe,vLeL,rx,Y0,Y1,Y2,Y3,Y4,Y5,Y6,Y7,ren,↓reduceIte,J1,J2,J3,J4,J5,J6,J7,J8,J9,reduceCtorEq,K1,K2,K3,K4,cmpI_gt hlt]
    simp only [vx,T,K5,J0,K6,K7,↓reduceIte,J1,J2,J3,J4,J5,J6,J7,J8,J9,reduceCtorEq,K1,K2,K3,K4]
    simp only [lG] at hdig hdig2
    rw [IntWalk.i64_in _ (by omega)]
    refine Lq ⟨j, by omega, digit_eq hd (by omega)⟩ ?_ ?_
    · refine Sa ?_; simp only [rx,Y0,Y1,Y2,Y3,Y4,Y5,Y6,Y7,ren,↓reduceIte,J1,J2,J3,J4,J5,J6,J7,J8,J9,reduceCtorEq,K1,K2,K3,K4,Y8,Y9,X2,X3,X4]
    simp
  have h0 : i = 0 := by omega
  subst h0
  simp only [vx,T,K5,J0,K6,K7,↓reduceIte,J1,J2,J3,J4,J5,J6,J7,J8,J9,reduceCtorEq,K1,K2,K3,K4]
  have h0 : m = n := by simpa using hd
  refine Va ?_; simp only [vLe,vLeL,rx,Y0,Y1,Y2,Y3,Y4,Y5,Y6,Y7,ren,↓reduceIte,J1,J2,J3,J4,J5,J6,J7,J8,J9,reduceCtorEq,K1,K2,K3,K4,cmpI_eq (show (m : Int) = n by omega)]
open Go Go.Eng
theorem carry_step {P v c A B' s x y : Nat} (h : v + P * c = A + B') (hs : s = c + x + y) : (v + P * (s % BB)) + (P * BB) * (s / BB) = (A + P * x) + (B' + P * y) := by
  have h1 : P * s = P * (BB * (s / BB)) + P * (s % BB) := by rw [← Nat.mul_add, Nat.div_add_mod]
  have h2 : (P * BB) * (s / BB) = P * (BB * (s / BB)) := Nat.mul_assoc _ _ _
  have h3 : P * s = P * c + P * x + P * y := by rw [hs, Nat.mul_add, Nat.mul_add]
  omega
theorem mod_next (x i : Nat) : x % BB ^ (i + 1) = x % BB ^ i + BB ^ i * (x / BB ^ i % BB) := Nat.mod_pow_succ
theorem mod_all {x k : Nat} (h : nl x ≤ k) : x % BB ^ k = x := Nat.mod_eq_of_lt (nl_le_iff.1 h)
theorem digit_out {x k : Nat} (h : nl x ≤ k) : x / BB ^ k % BB = 0 := by rw [div_top h]; rfl
theorem wrapBB (s : Nat) : IntKind.u32.wrap (s : Int) = ((s % BB : Nat) : Int) := by
  rw [IntKind.wrap_u32, Int.natCast_emod]; rfl
theorem fdivBB (s : Nat) : (s : Int).fdiv 4294967296 = ((s / BB : Nat) : Int) := by
  rw [Int.fdiv_eq_ediv_of_nonneg _ (by decide), Int.natCast_ediv]; rfl
theorem modBB (s : Nat) : s % BB < 4294967296 := Nat.mod_lt _ (by decide)
theorem InR.digit (s : Nat) : InR [((s % BB : Nat) : Int)] := InR.one ⟨by omega, by have := modBB s; omega⟩
theorem val_one (x : Nat) : val [(x : Int)] = x := by simp [val]
structure PlusInv (a b i : Nat) (os : List Int) (c : Nat) : Prop where
  le : i ≤ nl a
  inr : InR (os.take i)
  len : i ≤ os.length
  eq : val (os.take i) + BB ^ i * c = a % BB ^ i + b % BB ^ i
  c : c ≤ 1
theorem PlusInv.step {a b i : Nat} {os : List Int} {c s : Nat} (h : PlusInv a b i os c) (hi : i < nl a) (hs : s = c + a / BB ^ i % BB + b / BB ^ i % BB) : PlusInv a b (i + 1) (os.take i ++ [((s % BB : Nat) : Int)]) (s / BB) := by
  have hlen : (os.take i).length = i := by have := h.len; simp; omega
  have ht : (os.take i ++ [((s % BB : Nat) : Int)]).take (i + 1) = os.take i ++ [((s % BB : Nat) : Int)] := List.take_of_length_le (by rw [X6, hlen]; simp)
  refine ⟨hi, ?_, ?_, ?_, ?_⟩
  · rw [ht]; exact h.inr.append (InR.digit s)
  · rw [X6, hlen]; simp
  · rw [ht, val_append, hlen, val_one, mod_next a, mod_next b, Nat.pow_succ]
    exact carry_step h.eq hs
  have h1 := modBB (a / BB ^ i)
  have h2 := modBB (b / BB ^ i)
  have h3 := h.c
  have : s / BB < 2 := by rw [Nat.div_lt_iff_lt_mul (by decide)]; unfold BB at *; omega
  omega
theorem PlusInv.sum {a b : Nat} {os : List Int} {c : Nat} (hb : nl b ≤ nl a) (h : PlusInv a b (nl a) os c) : val (os.take (nl a)) + BB ^ nl a * c = a + b := by
  have := h.eq
  rw [mod_all (Nat.le_refl _), mod_all hb] at this; exact this
theorem PlusInv.done0 {a b : Nat} {os : List Int} (hb : nl b ≤ nl a) (h : PlusInv a b (nl a) os 0) : os.take (nl a) = limbs (a + b) := by
  have hs := h.sum hb
  have hlen : (os.take (nl a)).length = nl a := by have := h.len; simp; omega
  simp only [Nat.mul_zero,Nat.add_zero] at hs
  rw [← hs]
  refine (limbs_val_ge h.inr ?_).symm
  rw [hlen, hs]
  rcases Nat.eq_zero_or_pos a with h0 | h0
  · left; subst h0; exact nl_zero
  right; have := ge_of_nl h0; omega
theorem PlusInv.done1 {a b : Nat} {os : List Int} {c : Nat} (hb : nl b ≤ nl a) (h : PlusInv a b (nl a) os c) (hc : 0 < c) : os.take (nl a) ++ [((c % BB : Nat) : Int)] = limbs (a + b) := by
  have hs := h.sum hb
  have hlen : (os.take (nl a)).length = nl a := by have := h.len; simp; omega
  have h1 : c = 1 := by have := h.c; omega
  subst h1
  have e : val (os.take (nl a) ++ [((1 % BB : Nat) : Int)]) = a + b := by rw [val_append, val_one, hlen]; exact hs
  rw [← e]
  refine (limbs_val_ge (h.inr.append (InR.digit 1)) (.inr ?_)).symm
  rw [e, X6, hlen, ← hs]
  simp
theorem iplus_aux (swap : Bool) (a b : Nat) (hab : nl b ≤ nl a) (hsw : swap = true → nl b < nl a) (ha : nl a < 2 ^ 40) : Pr Tryz.prog 157 [.one (.ints .u32 (limbs (if swap then b else a))), .one (.ints .u32 (limbs (if swap then a else b)))] (.one (.ints .u32 (limbs (a + b)))) := by
  refine pv T_ok mixed Tryz.func157 rfl (by decide) _ (by simp [Tryz.ntmps157]) ⟨[0, 1, 4, 5, 6, 7, 8, 13, 20, 21, 22, 23, 34, 51], []⟩ (by kernel_rfl) _ ?_
  show vc T _ _ (Option.get! Tryz.f157.body) _ _
  simp only [Tryz.f157,Tryz.ntmps157,Option.get!,iS,iM,eO,J1]
  cases swap
  case' false => have hlt : ((nl a : Int) < nl b) = False := by simp; omega
  case' true => have hlt : ((nl b : Int) < nl a) = True := by have := hsw rfl; simp; omega
  all_goals
    simp only [vx,T,K5,J0,K6,K7,↓reduceIte,J1,J2,J3,J4,J5,J6,J7,J8,J9,reduceCtorEq,K1,K2,K3,K4,hlt]
    rw [IntWalk.i64_in _ (by omega)]
    refine ⟨⟨by omega, by omega, by omega⟩, Lk (fun i : {i : Nat × List Int × Nat // PlusInv a b i.1 i.2.1 i.2.2} => ⟨[(0, .one (.ints .u32 (limbs a))), (1, .one (.ints .u32 (limbs b))), (5, .one (.own 1 1 0 i.1.1)), (6, .one (.int .u64 i.1.2.2)), (20, .one (.ints .u32 (limbs a))), (21, .one (.int .i64 (nl a))), (22, .one (.int .i64 i.1.1))], [(1, ⟨.ints 92 .u32 i.1.2.1, true⟩)], 3, 58⟩) (fun i => nl a - i.1.1) ⟨(0, List.replicate ((nl a : Int) + 1).toNat 0, 0), Nat.zero_le _, InR.nil, Nat.zero_le _, by simp [val, Nat.mod_one], Nat.zero_le _⟩ ?_ (fun ⟨⟨i, os, c⟩, hi⟩ => ?_)⟩
    · refine Sa ?_; simp only [rx,Y0,Y1,Y2,Y3,Y4,Y5,Y6,Y7,ren,↓reduceIte,J1,J2,J3,J4,J5,J6,J7,J8,J9,reduceCtorEq,K1,K2,K3,K4,Y8,Y9,X2,X3,X4]
    have h1 := hi.le
    have h2 := hi.len
    have h3 := hi.c
    simp only at h1 h2 h3
    simp only [vx,T,K5,J0,K6,K7,↓reduceIte,J1,J2,J3,J4,J5,J6,J7,J8,J9,reduceCtorEq,K1,K2,K3,K4]
    refine ⟨fun h => Lg ?_, fun h => Lg ?_⟩
    · simp only [vx,T,K5,J0,K6,K7,↓reduceIte,J1,J2,J3,J4,J5,J6,J7,J8,J9,reduceCtorEq,K1,K2,K3,K4]
      refine ⟨⟨by omega, by omega⟩, ?_⟩
      have hlen : (os.take i).length = i := by simp; omega
      have hx := modBB (a / BB ^ i)
      have hy := modBB (b / BB ^ i)
      simp (disch := omega) only [lG,← X2,← Int.natCast_mul,Int.toNat_natCast,IntWalk.i64_in,IntWalk.u64_in,wrapBB,fdivBB,true_and,and_true]
      refine ⟨fun h' => Lg ?_, fun h' => Lg ?_⟩
      · simp only [vx,T,K5,J0,K6,K7,↓reduceIte,J1,J2,J3,J4,J5,J6,J7,J8,J9,reduceCtorEq,K1,K2,K3,K4]
        refine ⟨⟨by omega, by omega⟩, ?_⟩
        simp (disch := omega) only [lG,← X2,← Int.natCast_mul,Int.toNat_natCast,IntWalk.i64_in,IntWalk.u64_in,wrapBB,fdivBB,true_and,and_true,hlen,X6]
        refine ⟨by omega, Lq ⟨(i + 1, _, _), hi.step (by omega) rfl⟩ ?_ ?_⟩
        · refine Sa ?_; simp only [rx,Y0,Y1,Y2,Y3,Y4,Y5,Y6,Y7,ren,↓reduceIte,J1,J2,J3,J4,J5,J6,J7,J8,J9,reduceCtorEq,K1,K2,K3,K4,Y8,Y9,X2,X3,X4,hlen,X6]
        simp only; omega
      simp only [vx,T,K5,J0,K6,K7,↓reduceIte,J1,J2,J3,J4,J5,J6,J7,J8,J9,reduceCtorEq,K1,K2,K3,K4]
      have hy0 := digit_out (x := b) (k := i) (by omega)
      simp (disch := omega) only [lG,← X2,← Int.natCast_mul,Int.toNat_natCast,IntWalk.i64_in,IntWalk.u64_in,wrapBB,fdivBB,true_and,and_true,hlen,X6]
      refine ⟨by omega, Lq ⟨(i + 1, _, _), hi.step (s := c + a / BB ^ i % BB) (by omega) (by rw [hy0]; rfl)⟩ ?_ ?_⟩
      · refine Sa ?_; simp only [rx,Y0,Y1,Y2,Y3,Y4,Y5,Y6,Y7,ren,↓reduceIte,J1,J2,J3,J4,J5,J6,J7,J8,J9,reduceCtorEq,K1,K2,K3,K4,Y8,Y9,X2,X3,X4,hlen,X6]
      simp only; omega
    simp only [vx,T,K5,J0,K6,K7,↓reduceIte,J1,J2,J3,J4,J5,J6,J7,J8,J9,reduceCtorEq,K1,K2,K3,K4]
    have hia : i = nl a := by omega
    subst hia
    refine ⟨fun h' => Lg ?_, fun h' => Lg ?_⟩
    · simp only [vx,T,K5,J0,K6,K7,↓reduceIte,J1,J2,J3,J4,J5,J6,J7,J8,J9,reduceCtorEq,K1,K2,K3,K4]
      simp only [wrapBB]
      refine ⟨by simp; omega, ?_⟩
      have hd1 := hi.done1 hab (by simp only; omega)
      refine Va ?_; simp only [vLe,vLeL,rx,Y0,Y1,Y2,Y3,Y4,Y5,Y6,Y7,ren,↓reduceIte,J1,J2,J3,J4,J5,J6,J7,J8,J9,reduceCtorEq,K1,K2,K3,K4,hd1]
    simp only [vx,T,K5,J0,K6,K7,↓reduceIte,J1,J2,J3,J4,J5,J6,J7,J8,J9,reduceCtorEq,K1,K2,K3,K4]
    have hc0 : c = 0 := by omega
    subst hc0
    have hd0 := hi.done0 hab
    refine Va ?_; simp only [vLe,vLeL,rx,Y0,Y1,Y2,Y3,Y4,Y5,Y6,Y7,ren,↓reduceIte,J1,J2,J3,J4,J5,J6,J7,J8,J9,reduceCtorEq,K1,K2,K3,K4,hd0]
open Go Go.Eng
theorem iplus_spec (m n : Nat) (hm : nl m < 2 ^ 40) (hn : nl n < 2 ^ 40) : Pr Tryz.prog 157 [.one (.ints .u32 (limbs m)), .one (.ints .u32 (limbs n))] (.one (.ints .u32 (limbs (m + n)))) := by
  rcases Nat.lt_or_ge (nl m) (nl n) with h | h
  · have := iplus_aux true n m (by omega) (fun _ => h) hn
    rw [Nat.add_comm]; exact this
  exact iplus_aux false m n h (fun h => by cases h) hm
theorem take_set_succ {os : List Int} {i : Nat} {d : Int} (h : i < os.length) : (os.set i d).take (i + 1) = os.take i ++ [d] := by
  rw [List.take_set, List.take_succ_eq_append_getElem h, List.set_append_right _ _ (by simp; omega)]
  have : i - (os.take i).length = 0 := by simp; omega
  rw [this]; rfl
theorem PlusInv.of_take {a b i : Nat} {os os' : List Int} {c : Nat} (h : PlusInv a b i os c) (he : os'.take i = os.take i) (hl : i ≤ os'.length) : PlusInv a b i os' c :=
  ⟨h.le, by rw [he]; exact h.inr, hl, by rw [he]; exact h.eq, h.c⟩
theorem PlusInv.put {a b i : Nat} {os : List Int} {c s : Nat} (h : PlusInv a b i os c) (hi : i < nl a) (hl : i < os.length) (hs : s = c + a / BB ^ i % BB + b / BB ^ i % BB) : PlusInv a b (i + 1) (os.set i ((s % BB : Nat) : Int)) (s / BB) :=
  (h.step hi hs).of_take (by rw [take_set_succ hl, List.take_of_length_le (l := os.take i ++ _) (by simp; omega)]) (by simp; omega)
theorem PlusInv.last {a b : Nat} {os : List Int} {c : Nat} (hb : nl b ≤ nl a) (h : PlusInv a b (nl a) os c) (hl : os.length = nl a + 1) : val (os.set (nl a) ((c % BB : Nat) : Int)) = a + b ∧ InR (os.set (nl a) ((c % BB : Nat) : Int)) := by
  have e : os.set (nl a) ((c % BB : Nat) : Int) = os.take (nl a) ++ [((c % BB : Nat) : Int)] := by
    rw [← take_set_succ (by omega), List.take_of_length_le (by simp; omega)]
  have h1 : c % BB = c := Nat.mod_eq_of_lt (by have := h.c; unfold BB; omega)
  have hlen : (os.take (nl a)).length = nl a := by simp; omega
  refine ⟨?_, by rw [e]; exact h.inr.append (InR.digit c)⟩
  rw [e, val_append, val_one, h1, hlen]
  exact h.sum hb
theorem rplus_aux (swap : Bool) (a b : Nat) (hab : nl b ≤ nl a) (hsw : swap = true → nl b < nl a) (ha : nl a < 2 ^ 40) : Pr Tryz.prog 57 [.one (.ints .u32 (limbs (if swap then b else a))), .one (.ints .u32 (limbs (if swap then a else b)))] (.one (.ints .u32 (limbs (a + b)))) := by
  refine pv T_ok mixed Tryz.func57 rfl (by decide) _ (by simp [Tryz.ntmps57]) ⟨[0, 1, 4, 5, 6, 7, 12, 22, 35], []⟩ (by kernel_rfl) _ ?_
  show vc T _ _ (Option.get! Tryz.f57.body) _ _
  simp only [Tryz.f57,Tryz.ntmps57,Option.get!,iS,iM,eO,J1]
  cases swap
  case' false => have hlt : ((nl a : Int) < nl b) = False := by simp; omega
  case' true => have hlt : ((nl b : Int) < nl a) = True := by have := hsw rfl; simp; omega
  all_goals
    simp only [vx,T,K5,J0,K6,K7,↓reduceIte,J1,J2,J3,J4,J5,J6,J7,J8,J9,reduceCtorEq,K1,K2,K3,K4,hlt]
    rw [IntWalk.i64_in _ (by omega)]
    refine ⟨⟨by omega, by omega, by omega⟩, Lk (fun i : {i : Nat × List Int × Nat // PlusInv a b i.1 i.2.1 i.2.2 ∧ i.2.1.length = nl a + 1} => ⟨[(0, .one (.ints .u32 (limbs a))), (1, .one (.ints .u32 (limbs b))), (5, .one (.own 1 1 0 (nl a + 1))), (6, .one (.int .u64 i.1.2.2)), (7, .one (.int .i64 i.1.1))], [(1, ⟨.ints 92 .u32 i.1.2.1, true⟩)], 3, 58⟩) (fun i => nl a - i.1.1) ⟨(0, List.replicate (nl a + 1) 0, 0), ⟨Nat.zero_le _, InR.nil, Nat.zero_le _, by simp [val, Nat.mod_one], Nat.zero_le _⟩, by simp⟩ ?_ (fun ⟨⟨i, os, c⟩, hi, hl⟩ => ?_)⟩
    · have e : ((nl a : Int) + 1).toNat = nl a + 1 := by omega
      refine Sa ?_; simp only [rx,Y0,Y1,Y2,Y3,Y4,Y5,Y6,Y7,ren,↓reduceIte,J1,J2,J3,J4,J5,J6,J7,J8,J9,reduceCtorEq,K1,K2,K3,K4,Y8,Y9,X2,X3,X4,e]
    have h1 := hi.le
    have h2 := hi.len
    have h3 := hi.c
    simp only at h1 h2 h3 hl
    simp only [vx,T,K5,J0,K6,K7,↓reduceIte,J1,J2,J3,J4,J5,J6,J7,J8,J9,reduceCtorEq,K1,K2,K3,K4]
    refine ⟨fun h => Lg ?_, fun h => Lg ?_⟩
    · simp only [vx,T,K5,J0,K6,K7,↓reduceIte,J1,J2,J3,J4,J5,J6,J7,J8,J9,reduceCtorEq,K1,K2,K3,K4]
      refine ⟨⟨by omega, by omega⟩, ?_⟩
      have hx := modBB (a / BB ^ i)
      have hy := modBB (b / BB ^ i)
      simp (disch := omega) only [lG,← X2,← Int.natCast_mul,Int.toNat_natCast,IntWalk.i64_in,IntWalk.u64_in,wrapBB,fdivBB,true_and,and_true]
      refine ⟨fun h' => Lg ?_, fun h' => Lg ?_⟩
      · simp only [vx,T,K5,J0,K6,K7,↓reduceIte,J1,J2,J3,J4,J5,J6,J7,J8,J9,reduceCtorEq,K1,K2,K3,K4]
        refine ⟨⟨by omega, by omega⟩, ?_⟩
        simp (disch := omega) only [lG,← X2,← Int.natCast_mul,Int.toNat_natCast,IntWalk.i64_in,IntWalk.u64_in,wrapBB,fdivBB,true_and,and_true]
        refine ⟨by omega, Lq ⟨(i + 1, _, _), hi.put (by omega) (by simp only; omega) rfl, by simp only [List.length_set]; exact hl⟩ ?_ ?_⟩
        · refine Sa ?_; simp only [rx,Y0,Y1,Y2,Y3,Y4,Y5,Y6,Y7,ren,↓reduceIte,J1,J2,J3,J4,J5,J6,J7,J8,J9,reduceCtorEq,K1,K2,K3,K4,Y8,Y9,X2,X3,X4]
        simp only; omega
      simp only [vx,T,K5,J0,K6,K7,↓reduceIte,J1,J2,J3,J4,J5,J6,J7,J8,J9,reduceCtorEq,K1,K2,K3,K4]
      have hy0 := digit_out (x := b) (k := i) (by omega)
      simp (disch := omega) only [lG,← X2,← Int.natCast_mul,Int.toNat_natCast,IntWalk.i64_in,IntWalk.u64_in,wrapBB,fdivBB,true_and,and_true]
      refine ⟨by omega, Lq ⟨(i + 1, _, _), hi.put (s := c + a / BB ^ i % BB) (by omega) (by simp only; omega) (by rw [hy0]; rfl), by simp only [List.length_set]; exact hl⟩ ?_ ?_⟩
      · refine Sa ?_; simp only [rx,Y0,Y1,Y2,Y3,Y4,Y5,Y6,Y7,ren,↓reduceIte,J1,J2,J3,J4,J5,J6,J7,J8,J9,reduceCtorEq,K1,K2,K3,K4,Y8,Y9,X2,X3,X4]
      simp only; omega
    simp only [vx,T,K5,J0,K6,K7,↓reduceIte,J1,J2,J3,J4,J5,J6,J7,J8,J9,reduceCtorEq,K1,K2,K3,K4]
    have hia : i = nl a := by omega
    subst hia
    refine ⟨⟨by omega, by omega⟩, ?_⟩
    obtain ⟨hv, hr⟩ := hi.last hab hl
    simp only at hv hr
    simp (disch := omega) only [lG,← X2,← Int.natCast_mul,Int.toNat_natCast,IntWalk.i64_in,IntWalk.u64_in,wrapBB,fdivBB,true_and,and_true]
    rw [List.take_of_length_le (by simp; omega)]
    refine Cg (rtrim_spec _ hr (by simp; omega)) ?_
    rw [hv]
    simp only [vx,T,K5,J0,K6,K7,↓reduceIte,J1,J2,J3,J4,J5,J6,J7,J8,J9,reduceCtorEq,K1,K2,K3,K4]
    refine Va ?_; simp only [vLe,vLeL,rx,Y0,Y1,Y2,Y3,Y4,Y5,Y6,Y7,ren,↓reduceIte,J1,J2,J3,J4,J5,J6,J7,J8,J9,reduceCtorEq,K1,K2,K3,K4]
theorem rplus_spec (m n : Nat) (hm : nl m < 2 ^ 40) (hn : nl n < 2 ^ 40) : Pr Tryz.prog 57 [.one (.ints .u32 (limbs m)), .one (.ints .u32 (limbs n))] (.one (.ints .u32 (limbs (m + n)))) := by
  rcases Nat.lt_or_ge (nl m) (nl n) with h | h
  · have := rplus_aux true n m (by omega) (fun _ => h) hn
    rw [Nat.add_comm]; exact this
  exact rplus_aux false m n h (fun h => by cases h) hm
structure MinusInv (a b i : Nat) (os : List Int) (c : Nat) : Prop where
  le : i ≤ nl a
  inr : InR (os.take i)
  len : os.length = nl a
  eq : val (os.take i) + b % BB ^ i = a % BB ^ i + BB ^ i * c
  c : c ≤ 1
@[irreducible] def dBor (x y c : Nat) : Nat := if x < y + c then 1 else 0
@[irreducible] def dDig (x y c : Nat) : Nat := x + BB * dBor x y c - (y + c)
theorem dDig_eq {x y c : Nat} (hx : x < BB) (hy : y < BB) (hc : c ≤ 1) : dDig x y c + (y + c) = x + BB * dBor x y c ∧ dDig x y c < BB ∧ dBor x y c ≤ 1 := by
  unfold dDig dBor
  unfold BB at *
  split <;> omega
theorem bor_step {P v c A B' x y d c' : Nat} (h : v + B' = A + P * c) (hd : d + (y + c) = x + BB * c') : (v + P * d) + (B' + P * y) = (A + P * x) + (P * BB) * c' := by
  have h1 : P * d + P * y + P * c = P * x + P * (BB * c') := by rw [← Nat.mul_add, ← Nat.mul_add, ← Nat.mul_add, ← hd, Nat.add_assoc]
  rw [Nat.mul_assoc]
  omega
theorem MinusInv.put {a b i : Nat} {os : List Int} {c : Nat} (h : MinusInv a b i os c) (hi : i < nl a) : MinusInv a b (i + 1) (os.set i ((dDig (a / BB ^ i % BB) (b / BB ^ i % BB) c : Nat) : Int)) (dBor (a / BB ^ i % BB) (b / BB ^ i % BB) c) := by
  have hl : i < os.length := by rw [h.len]; exact hi
  obtain ⟨h1, h2, h3⟩ := dDig_eq (modBB (a / BB ^ i)) (modBB (b / BB ^ i)) h.c
  have hlen : (os.take i).length = i := by simp; omega
  refine ⟨hi, ?_, by rw [List.length_set]; exact h.len, ?_, h3⟩
  · rw [take_set_succ hl]
    have h4 : dDig (a / BB ^ i % BB) (b / BB ^ i % BB) c < 4294967296 := h2
    exact h.inr.append (InR.one ⟨by omega, by omega⟩)
  rw [take_set_succ hl, val_append, hlen, val_one, mod_next a, mod_next b, Nat.pow_succ]
  exact bor_step h.eq h1
theorem MinusInv.last {a b : Nat} {os : List Int} {c : Nat} (hb : b ≤ a) (h : MinusInv a b (nl a) os c) : val os = a - b ∧ InR os := by
  have e : os.take (nl a) = os := List.take_of_length_le (by rw [h.len]; exact Nat.le_refl _)
  have h1 := h.eq
  have h2 := h.inr
  rw [e] at h1 h2
  rw [mod_all (Nat.le_refl _), mod_all (nl_mono hb)] at h1
  have h3 := val_lt h2
  rw [h.len] at h3
  refine ⟨?_, h2⟩
  have h4 := h.c
  rcases Nat.lt_or_ge c 1 with h5 | h5
  · have : c = 0 := by omega
    subst this
    omega
  have : c = 1 := by omega
  subst this
  omega
theorem wrap_u64' (n : Int) : IntKind.u64.wrap n = n % 18446744073709551616 := by
  simp [IntKind.wrap, IntKind.bits, IntKind.signed]
theorem isub_dig {x y c : Nat} (hx : x < BB) (hy : y < BB) (hc : c ≤ 1) : IntKind.u32.wrap (IntKind.u64.wrap (IntKind.u64.wrap ((x : Int) - c) - y)) = (dDig x y c : Nat) := by
  unfold dDig dBor
  unfold BB at *
  rw [IntKind.wrap_u32, wrap_u64', wrap_u64']
  split <;> omega
theorem isub_bor {x y c : Nat} (hx : x < BB) (hy : y < BB) (hc : c ≤ 1) : (IntKind.u64.wrap (IntKind.u64.wrap ((x : Int) - c) - y)).fdiv 9223372036854775808 = (dBor x y c : Nat) := by
  unfold dBor
  unfold BB at *
  rw [wrap_u64', wrap_u64', Int.fdiv_eq_ediv_of_nonneg _ (by decide)]
  split <;> omega
theorem isub_dig0 {x c : Nat} (hx : x < BB) (hc : c ≤ 1) : IntKind.u32.wrap (IntKind.u64.wrap ((x : Int) - c)) = (dDig x 0 c : Nat) := by
  unfold dDig dBor
  unfold BB at *
  rw [IntKind.wrap_u32, wrap_u64']
  split <;> omega
theorem isub_bor0 {x c : Nat} (hx : x < BB) (hc : c ≤ 1) : (IntKind.u64.wrap ((x : Int) - c)).fdiv 9223372036854775808 = (dBor x 0 c : Nat) := by
  unfold dBor
  unfold BB at *
  rw [wrap_u64', Int.fdiv_eq_ediv_of_nonneg _ (by decide)]
  split <;> omega
theorem rsub_dig {x y c : Nat} (hx : x < BB) (hy : y < BB) (hc : c ≤ 1) : IntKind.u32.wrap (IntKind.u64.wrap (IntKind.u64.wrap (IntKind.u64.wrap ((x : Int) + 4294967296) - y) - c)) = (dDig x y c : Nat) := by
  unfold dDig dBor
  unfold BB at *
  rw [IntKind.wrap_u32, wrap_u64', wrap_u64', wrap_u64']
  split <;> omega
theorem rsub_bor {x y c : Nat} (hx : x < BB) (hy : y < BB) (hc : c ≤ 1) : IntKind.u64.wrap (1 - (IntKind.u64.wrap (IntKind.u64.wrap (IntKind.u64.wrap ((x : Int) + 4294967296) - y) - c)).fdiv 4294967296) = (dBor x y c : Nat) := by
  unfold dBor
  unfold BB at *
  rw [wrap_u64', wrap_u64', wrap_u64', wrap_u64', Int.fdiv_eq_ediv_of_nonneg _ (by decide)]
  split <;> omega
theorem rsub_dig0 {x c : Nat} (hx : x < BB) (hc : c ≤ 1) : IntKind.u32.wrap (IntKind.u64.wrap (IntKind.u64.wrap (IntKind.u64.wrap ((x : Int) + 4294967296)) - c)) = (dDig x 0 c : Nat) := by
  unfold dDig dBor
  unfold BB at *
  rw [IntKind.wrap_u32, wrap_u64', wrap_u64', wrap_u64']
  split <;> omega
theorem rsub_bor0 {x c : Nat} (hx : x < BB) (hc : c ≤ 1) : IntKind.u64.wrap (1 - (IntKind.u64.wrap (IntKind.u64.wrap (IntKind.u64.wrap ((x : Int) + 4294967296)) - c)).fdiv 4294967296) = (dBor x 0 c : Nat) := by
  unfold dBor
  unfold BB at *
  rw [wrap_u64', wrap_u64', wrap_u64', wrap_u64', Int.fdiv_eq_ediv_of_nonneg _ (by decide)]
  split <;> omega
theorem iminus_spec (a b : Nat) (hab : b ≤ a) (ha : nl a < 2 ^ 40) : Pr Tryz.prog 159 [.one (.ints .u32 (limbs a)), .one (.ints .u32 (limbs b))] (.one (.ints .u32 (limbs (a - b)))) := by
  have hba := nl_mono hab
  refine pv T_ok mixed Tryz.func159 rfl (by decide) _ (by simp [Tryz.ntmps159]) ⟨[0, 1, 4, 5, 6, 7, 8, 9, 13, 14, 15, 16, 27], []⟩ (by kernel_rfl) _ ?_
  show vc T _ _ (Option.get! Tryz.f159.body) _ _
  simp only [Tryz.f159,Tryz.ntmps159,Option.get!,iS,iM,eO,J1]
  simp only [vx,T,K5,J0,K6,K7,↓reduceIte,J1,J2,J3,J4,J5,J6,J7,J8,J9,reduceCtorEq,K1,K2,K3,K4]
  refine ⟨⟨by omega, by omega, by omega, by omega⟩, Lk (fun i : {i : Nat × List Int × Nat // MinusInv a b i.1 i.2.1 i.2.2} => ⟨[(0, .one (.ints .u32 (limbs a))), (1, .one (.ints .u32 (limbs b))), (5, .one (.own 1 1 0 (nl a))), (6, .one (.int .u64 i.1.2.2)), (13, .one (.ints .u32 (limbs a))), (14, .one (.int .i64 (nl a))), (15, .one (.int .i64 i.1.1))], [(1, ⟨.ints 92 .u32 i.1.2.1, true⟩)], 3, 45⟩) (fun i => nl a - i.1.1) ⟨(0, List.replicate (nl a) 0, 0), Nat.zero_le _, InR.nil, by simp, by simp [val, Nat.mod_one], Nat.zero_le _⟩ ?_ (fun ⟨⟨i, os, c⟩, hi⟩ => ?_)⟩
  · refine Sa ?_; simp only [rx,Y0,Y1,Y2,Y3,Y4,Y5,Y6,Y7,ren,↓reduceIte,J1,J2,J3,J4,J5,J6,J7,J8,J9,reduceCtorEq,K1,K2,K3,K4,Y8,Y9,X2,X3,X4]
  have h1 := hi.le
  have h2 := hi.len
  have h3 := hi.c
  simp only at h1 h2 h3
  simp only [vx,T,K5,J0,K6,K7,↓reduceIte,J1,J2,J3,J4,J5,J6,J7,J8,J9,reduceCtorEq,K1,K2,K3,K4]
  refine ⟨fun h => Lg ?_, fun h => Lg ?_⟩
  · simp only [vx,T,K5,J0,K6,K7,↓reduceIte,J1,J2,J3,J4,J5,J6,J7,J8,J9,reduceCtorEq,K1,K2,K3,K4]
    refine ⟨⟨by omega, by omega⟩, ?_⟩
    have hx := modBB (a / BB ^ i)
    have hy := modBB (b / BB ^ i)
    have e1 := IntWalk.u64_in (a / BB ^ i % BB : Nat) (by omega)
    have e2 := IntWalk.u64_in (b / BB ^ i % BB : Nat) (by omega)
    refine ⟨fun h' => Lg ?_, fun h' => Lg ?_⟩
    · simp only [vx,T,K5,J0,K6,K7,↓reduceIte,J1,J2,J3,J4,J5,J6,J7,J8,J9,reduceCtorEq,K1,K2,K3,K4]
      have hp := hi.put (by omega)
      simp only [lG,e1,e2,isub_dig hx hy h3,isub_bor hx hy h3,IntWalk.i64_in _ (show -9223372036854775808 ≤ (i : Int) + 1 ∧ (i : Int) + 1 ≤ 9223372036854775807 by omega)]
      refine ⟨⟨by omega, by omega⟩, ⟨by omega, by omega⟩, Lq ⟨(i + 1, _, _), hp⟩ ?_ ?_⟩
      · refine Sa ?_; simp only [rx,Y0,Y1,Y2,Y3,Y4,Y5,Y6,Y7,ren,↓reduceIte,J1,J2,J3,J4,J5,J6,J7,J8,J9,reduceCtorEq,K1,K2,K3,K4,Y8,Y9,X2,X3,X4]
      simp only; omega
    simp only [vx,T,K5,J0,K6,K7,↓reduceIte,J1,J2,J3,J4,J5,J6,J7,J8,J9,reduceCtorEq,K1,K2,K3,K4]
    have hy0 := digit_out (x := b) (k := i) (by omega)
    have hp := hi.put (by omega)
    rw [hy0] at hp
    simp only [lG,e1,e2,isub_dig0 hx h3,isub_bor0 hx h3,IntWalk.i64_in _ (show -9223372036854775808 ≤ (i : Int) + 1 ∧ (i : Int) + 1 ≤ 9223372036854775807 by omega)]
    refine ⟨⟨by omega, by omega⟩, Lq ⟨(i + 1, _, _), hp⟩ ?_ ?_⟩
    · refine Sa ?_; simp only [rx,Y0,Y1,Y2,Y3,Y4,Y5,Y6,Y7,ren,↓reduceIte,J1,J2,J3,J4,J5,J6,J7,J8,J9,reduceCtorEq,K1,K2,K3,K4,Y8,Y9,X2,X3,X4]
    simp only; omega
  simp only [vx,T,K5,J0,K6,K7,↓reduceIte,J1,J2,J3,J4,J5,J6,J7,J8,J9,reduceCtorEq,K1,K2,K3,K4]
  have hia : i = nl a := by omega
  subst hia
  obtain ⟨hv, hr⟩ := hi.last hab
  simp only at hv hr
  rw [List.take_of_length_le (by omega)]
  refine Cg (itrim_spec _ hr (by omega)) ?_
  rw [hv]
  simp only [vx,T,K5,J0,K6,K7,↓reduceIte,J1,J2,J3,J4,J5,J6,J7,J8,J9,reduceCtorEq,K1,K2,K3,K4]
  refine Va ?_; simp only [vLe,vLeL,rx,Y0,Y1,Y2,Y3,Y4,Y5,Y6,Y7,ren,↓reduceIte,J1,J2,J3,J4,J5,J6,J7,J8,J9,reduceCtorEq,K1,K2,K3,K4]
theorem rminus_spec (a b : Nat) (hab : b ≤ a) (ha : nl a < 2 ^ 40) : Pr Tryz.prog 59 [.one (.ints .u32 (limbs a)), .one (.ints .u32 (limbs b))] (.one (.ints .u32 (limbs (a - b)))) := by
  have hba := nl_mono hab
  refine pv T_ok mixed Tryz.func59 rfl (by decide) _ (by simp [Tryz.ntmps59]) ⟨[0, 1, 4, 5, 6, 7, 8, 9, 16, 22], []⟩ (by kernel_rfl) _ ?_
  show vc T _ _ (Option.get! Tryz.f59.body) _ _
  simp only [Tryz.f59,Tryz.ntmps59,Option.get!,iS,iM,eO,J1]
  simp only [vx,T,K5,J0,K6,K7,↓reduceIte,J1,J2,J3,J4,J5,J6,J7,J8,J9,reduceCtorEq,K1,K2,K3,K4]
  refine ⟨⟨by omega, by omega, by omega, by omega⟩, Lk (fun i : {i : Nat × List Int × Nat // MinusInv a b i.1 i.2.1 i.2.2} => ⟨[(0, .one (.ints .u32 (limbs a))), (1, .one (.ints .u32 (limbs b))), (5, .one (.own 1 1 0 (nl a))), (6, .one (.int .u64 i.1.2.2)), (7, .one (.int .i64 i.1.1))], [(1, ⟨.ints 92 .u32 i.1.2.1, true⟩)], 3, 48⟩) (fun i => nl a - i.1.1) ⟨(0, List.replicate (nl a) 0, 0), Nat.zero_le _, InR.nil, by simp, by simp [val, Nat.mod_one], Nat.zero_le _⟩ ?_ (fun ⟨⟨i, os, c⟩, hi⟩ => ?_)⟩
  · refine Sa ?_; simp only [rx,Y0,Y1,Y2,Y3,Y4,Y5,Y6,Y7,ren,↓reduceIte,J1,J2,J3,J4,J5,J6,J7,J8,J9,reduceCtorEq,K1,K2,K3,K4,Y8,Y9,X2,X3,X4]
  have h1 := hi.le
  have h2 := hi.len
  have h3 := hi.c
  simp only at h1 h2 h3
  simp only [vx,T,K5,J0,K6,K7,↓reduceIte,J1,J2,J3,J4,J5,J6,J7,J8,J9,reduceCtorEq,K1,K2,K3,K4]
  refine ⟨fun h => Lg ?_, fun h => Lg ?_⟩
  · simp only [vx,T,K5,J0,K6,K7,↓reduceIte,J1,J2,J3,J4,J5,J6,J7,J8,J9,reduceCtorEq,K1,K2,K3,K4]
    have hx := modBB (a / BB ^ i)
    have hy := modBB (b / BB ^ i)
    have e1 := IntWalk.u64_in (a / BB ^ i % BB : Nat) (by omega)
    have e2 := IntWalk.u64_in (b / BB ^ i % BB : Nat) (by omega)
    refine ⟨fun h' => Lg ?_, fun h' => Lg ?_⟩
    · simp only [vx,T,K5,J0,K6,K7,↓reduceIte,J1,J2,J3,J4,J5,J6,J7,J8,J9,reduceCtorEq,K1,K2,K3,K4]
      have hp := hi.put (by omega)
      simp only [lG,e1,e2,rsub_dig hx hy h3,rsub_bor hx hy h3,IntWalk.i64_in _ (show -9223372036854775808 ≤ (i : Int) + 1 ∧ (i : Int) + 1 ≤ 9223372036854775807 by omega)]
      refine ⟨⟨by omega, by omega⟩, ⟨by omega, by omega⟩, ⟨by omega, by omega⟩, Lq ⟨(i + 1, _, _), hp⟩ ?_ ?_⟩
      · refine Sa ?_; simp only [rx,Y0,Y1,Y2,Y3,Y4,Y5,Y6,Y7,ren,↓reduceIte,J1,J2,J3,J4,J5,J6,J7,J8,J9,reduceCtorEq,K1,K2,K3,K4,Y8,Y9,X2,X3,X4]
      simp only; omega
    simp only [vx,T,K5,J0,K6,K7,↓reduceIte,J1,J2,J3,J4,J5,J6,J7,J8,J9,reduceCtorEq,K1,K2,K3,K4]
    have hy0 := digit_out (x := b) (k := i) (by omega)
    have hp := hi.put (by omega)
    rw [hy0] at hp
    simp only [lG,e1,e2,rsub_dig0 hx h3,rsub_bor0 hx h3,IntWalk.i64_in _ (show -9223372036854775808 ≤ (i : Int) + 1 ∧ (i : Int) + 1 ≤ 9223372036854775807 by omega)]
    refine ⟨⟨by omega, by omega⟩, ⟨by omega, by omega⟩, Lq ⟨(i + 1, _, _), hp⟩ ?_ ?_⟩
    · refine Sa ?_; simp only [rx,Y0,Y1,Y2,Y3,Y4,Y5,Y6,Y7,ren,↓reduceIte,J1,J2,J3,J4,J5,J6,J7,J8,J9,reduceCtorEq,K1,K2,K3,K4,Y8,Y9,X2,X3,X4]
    simp only; omega
  simp only [vx,T,K5,J0,K6,K7,↓reduceIte,J1,J2,J3,J4,J5,J6,J7,J8,J9,reduceCtorEq,K1,K2,K3,K4]
  have hia : i = nl a := by omega
  subst hia
  obtain ⟨hv, hr⟩ := hi.last hab
  simp only at hv hr
  rw [List.take_of_length_le (by omega)]
  refine Cg (rtrim_spec _ hr (by omega)) ?_
  rw [hv]
  simp only [vx,T,K5,J0,K6,K7,↓reduceIte,J1,J2,J3,J4,J5,J6,J7,J8,J9,reduceCtorEq,K1,K2,K3,K4]
  refine Va ?_; simp only [vLe,vLeL,rx,Y0,Y1,Y2,Y3,Y4,Y5,Y6,Y7,ren,↓reduceIte,J1,J2,J3,J4,J5,J6,J7,J8,J9,reduceCtorEq,K1,K2,K3,K4]
open Go Go.Eng
structure MulOut (a b i : Nat) (os : List Int) : Prop where
  le : i ≤ nl a
  len : os.length = nl a + nl b
  inr : InR os
  zero : ∀ j, i + nl b ≤ j → os.getD j 0 = 0
  eq : val os = (a % BB ^ i) * b
structure MulIn (a b i k : Nat) (os : List Int) (c : Nat) : Prop where
  le : k ≤ nl b
  len : os.length = nl a + nl b
  inr : InR os
  zero : ∀ j, i + nl b ≤ j → os.getD j 0 = 0
  eq : val os + BB ^ (i + k) * c = (a % BB ^ i) * b + BB ^ i * ((a / BB ^ i % BB) * (b % BB ^ k))
  c : c < BB
theorem MulOut.init (a b : Nat) : MulOut a b 0 (List.replicate (nl a + nl b) 0) :=
  ⟨Nat.zero_le _, by simp, InR.replicate _, fun j _ => by simp [X7, List.getElem?_replicate]; split <;> rfl, by rw [val_replicate]; simp [Nat.mod_one]⟩
theorem MulOut.start {a b i : Nat} {os : List Int} (h : MulOut a b i os) : MulIn a b i 0 os 0 :=
  ⟨Nat.zero_le _, h.len, h.inr, h.zero, by rw [h.eq]; simp [Nat.mod_one], by decide⟩
theorem getD_set_ne {os : List Int} {i j : Nat} {d : Int} (h : i ≠ j) : (os.set i d).getD j 0 = os.getD j 0 := by
  rw [X7, X7, List.getElem?_set_ne h]
theorem MulIn.put {a b i k : Nat} {os : List Int} {c o s : Nat} (h : MulIn a b i k os c) (hi : i < nl a) (hk : k < nl b) (ho : os.getD (i + k) 0 = (o : Int)) (hs : s = (a / BB ^ i % BB) * (b / BB ^ k % BB) + o + c) :
    MulIn a b i (k + 1) (os.set (i + k) ((s % BB : Nat) : Int)) (s / BB) := by
  have hl : i + k < os.length := by rw [h.len]; omega
  have hx := modBB (a / BB ^ i)
  have hy := modBB (b / BB ^ k)
  have ho2 : o < BB := by have := h.inr.getD (i + k); rw [ho] at this; unfold BB; omega
  refine ⟨hk, by rw [List.length_set]; exact h.len, h.inr.set _ ⟨by omega, by have := modBB s; omega⟩, fun j hj => ?_, ?_, ?_⟩
  · rw [getD_set_ne (by omega)]; exact h.zero j hj
  · have e := val_set (xs := os) (x := ((s % BB : Nat) : Int)) hl
    rw [ho] at e
    simp only [Int.toNat_natCast] at e
    have h1 := h.eq
    have e2 : BB ^ (i + (k + 1)) * (s / BB) + BB ^ (i + k) * (s % BB) = BB ^ (i + k) * s := by
      rw [← Nat.add_assoc, Nat.pow_succ, Nat.mul_assoc, ← Nat.mul_add, Nat.div_add_mod]
    have e3 : BB ^ (i + k) * s = BB ^ i * ((a / BB ^ i % BB) * (BB ^ k * (b / BB ^ k % BB))) + BB ^ (i + k) * o + BB ^ (i + k) * c := by
      rw [hs, Nat.mul_add, Nat.mul_add, Nat.pow_add]
      congr 2
      simp only [Nat.mul_comm,Nat.mul_left_comm]
    rw [mod_next b k, Nat.mul_add, Nat.mul_add]
    omega
  have hp : (a / BB ^ i % BB) * (b / BB ^ k % BB) ≤ 4294967295 * 4294967295 := Nat.mul_le_mul (by omega) (by omega)
  have h3 := h.c
  rw [Nat.div_lt_iff_lt_mul (by decide)]
  unfold BB at *
  omega
theorem MulIn.next {a b i : Nat} {os : List Int} {c : Nat} (h : MulIn a b i (nl b) os c) (hi : i < nl a) : MulOut a b (i + 1) (os.set (i + nl b) ((c % BB : Nat) : Int)) := by
  have hl : i + nl b < os.length := by rw [h.len]; omega
  have hc : c % BB = c := Nat.mod_eq_of_lt h.c
  refine ⟨hi, by rw [List.length_set]; exact h.len, h.inr.set _ ⟨by omega, by have := modBB c; omega⟩, fun j hj => ?_, ?_⟩
  · rw [getD_set_ne (by omega)]; exact h.zero j (by omega)
  have e := val_set (xs := os) (x := ((c % BB : Nat) : Int)) hl
  rw [h.zero _ (Nat.le_refl _), hc] at e
  simp only [Int.toNat_natCast,Int.toNat_zero,Nat.mul_zero,Nat.add_zero] at e
  rw [hc, e, h.eq, mod_all (Nat.le_refl _), mod_next a, Nat.add_mul, Nat.mul_assoc]
theorem MulOut.done {a b : Nat} {os : List Int} (h : MulOut a b (nl a) os) : val os = a * b := by
  rw [h.eq, mod_all (Nat.le_refl _)]
theorem itimes_spec (a b : Nat) (ha : nl a < 2 ^ 40) (hb : nl b < 2 ^ 40) : Pr Tryz.prog 110 [.one (.ints .u32 (limbs a)), .one (.ints .u32 (limbs b))] (.one (.ints .u32 (limbs (a * b)))) := by
  refine pv T_ok mixed Tryz.func110 rfl (by decide) _ (by simp [Tryz.ntmps110]) ⟨[0, 1, 4, 5, 6, 7, 8, 9, 10, 18, 25, 26, 27, 28, 32, 33, 34, 35], []⟩ (by kernel_rfl) _ ?_
  show vc T _ _ (Option.get! Tryz.f110.body) _ _
  simp only [Tryz.f110,Tryz.ntmps110,Option.get!,iS,iM,eO,J1]
  simp only [vx,T,K5,J0,K6,K7,↓reduceIte,J1,J2,J3,J4,J5,J6,J7,J8,J9,reduceCtorEq,K1,K2,K3,K4]
  refine ⟨fun h0 => Lg ?_, fun h0 => Lg ?_⟩
  · simp only [vx,T,K5,J0,K6,K7,↓reduceIte,J1,J2,J3,J4,J5,J6,J7,J8,J9,reduceCtorEq,K1,K2,K3,K4]
    have h1 := limbs_len_zero h0
    refine Va ?_; simp only [vLe,vLeL,rx,Y0,Y1,Y2,Y3,Y4,Y5,Y6,Y7,ren,↓reduceIte,J1,J2,J3,J4,J5,J6,J7,J8,J9,reduceCtorEq,K1,K2,K3,K4,h1,Nat.zero_mul,limbs_zero]
  simp only [vx,T,K5,J0,K6,K7,↓reduceIte,J1,J2,J3,J4,J5,J6,J7,J8,J9,reduceCtorEq,K1,K2,K3,K4]
  refine ⟨fun h0 => Lg ?_, fun h0 => Lg ?_⟩
  · simp only [vx,T,K5,J0,K6,K7,↓reduceIte,J1,J2,J3,J4,J5,J6,J7,J8,J9,reduceCtorEq,K1,K2,K3,K4]
    have h1 := limbs_len_zero h0
    refine Va ?_; simp only [vLe,vLeL,rx,Y0,Y1,Y2,Y3,Y4,Y5,Y6,Y7,ren,↓reduceIte,J1,J2,J3,J4,J5,J6,J7,J8,J9,reduceCtorEq,K1,K2,K3,K4,h1,Nat.mul_zero,limbs_zero]
  simp only [vx,T,K5,J0,K6,K7,↓reduceIte,J1,J2,J3,J4,J5,J6,J7,J8,J9,reduceCtorEq,K1,K2,K3,K4]
  simp (disch := omega) only [lG,← X2,← Int.natCast_mul,Int.toNat_natCast,IntWalk.i64_in,IntWalk.u64_in,wrapBB,fdivBB,true_and,and_true]
  refine ⟨⟨by omega, by omega, by omega, by omega⟩, Lk (fun i : {i : Nat × List Int // MulOut a b i.1 i.2} => ⟨[(0, .one (.ints .u32 (limbs a))), (1, .one (.ints .u32 (limbs b))), (5, .one (.own 1 1 0 (nl a + nl b))), (25, .one (.ints .u32 (limbs a))), (26, .one (.int .i64 (nl a))), (27, .one (.int .i64 i.1.1))], [(1, ⟨.ints 92 .u32 i.1.2, true⟩)], 3, 75⟩) (fun i => nl a - i.1.1) ⟨(0, List.replicate (nl a + nl b) 0), MulOut.init a b⟩ ?_ (fun ⟨⟨i, os⟩, hi⟩ => ?_)⟩
  · refine Sa ?_; simp only [rx,Y0,Y1,Y2,Y3,Y4,Y5,Y6,Y7,ren,↓reduceIte,J1,J2,J3,J4,J5,J6,J7,J8,J9,reduceCtorEq,K1,K2,K3,K4,Y8,Y9,X2,X3,X4]
  have h1 := hi.le
  have h2 := hi.len
  simp only at h1 h2
  simp only [vx,T,K5,J0,K6,K7,↓reduceIte,J1,J2,J3,J4,J5,J6,J7,J8,J9,reduceCtorEq,K1,K2,K3,K4]
  refine ⟨fun h => Lg ?_, fun h => Lg ?_⟩
  · simp only [vx,T,K5,J0,K6,K7,↓reduceIte,J1,J2,J3,J4,J5,J6,J7,J8,J9,reduceCtorEq,K1,K2,K3,K4]
    have hx := modBB (a / BB ^ i)
    refine ⟨⟨by omega, by omega⟩, Lk (fun k : {k : Nat × List Int × Nat // MulIn a b i k.1 k.2.1 k.2.2} => ⟨[(0, .one (.ints .u32 (limbs a))), (1, .one (.ints .u32 (limbs b))), (5, .one (.own 1 1 0 (nl a + nl b))), (25, .one (.ints .u32 (limbs a))), (26, .one (.int .i64 (nl a))), (27, .one (.int .i64 i)), (6, .one (.int .i64 i)), (7, .one (.int .u32 (a / BB ^ i % BB : Nat))), (8, .one (.int .u64 k.1.2.2)), (32, .one (.ints .u32 (limbs b))), (33, .one (.int .i64 (nl b))), (34, .one (.int .i64 k.1.1))], [(1, ⟨.ints 92 .u32 k.1.2.1, true⟩)], 3, 75⟩) (fun k => nl b - k.1.1) ⟨(0, os, 0), hi.start⟩ ?_ (fun ⟨⟨k, os', c⟩, hk⟩ => ?_)⟩
    · refine Sa ?_; simp only [rx,Y0,Y1,Y2,Y3,Y4,Y5,Y6,Y7,ren,↓reduceIte,J1,J2,J3,J4,J5,J6,J7,J8,J9,reduceCtorEq,K1,K2,K3,K4,Y8,Y9,X2,X3,X4,lG]
    have h3 := hk.le
    have h4 := hk.len
    have h5 := hk.c
    have h5 : c < 4294967296 := h5
    have hz := hk.inr.getD (i + k)
    simp only at h3 h4 hz
    obtain ⟨o, ho⟩ := Int.eq_ofNat_of_zero_le hz.1
    rw [ho] at hz
    simp only [vx,T,K5,J0,K6,K7,↓reduceIte,J1,J2,J3,J4,J5,J6,J7,J8,J9,reduceCtorEq,K1,K2,K3,K4]
    refine ⟨fun h' => Lg ?_, fun h' => Lg ?_⟩
    · simp only [vx,T,K5,J0,K6,K7,↓reduceIte,J1,J2,J3,J4,J5,J6,J7,J8,J9,reduceCtorEq,K1,K2,K3,K4]
      have hy := modBB (b / BB ^ k)
      have hp : (a / BB ^ i % BB) * (b / BB ^ k % BB) ≤ 4294967295 * 4294967295 := Nat.mul_le_mul (by omega) (by omega)
      simp (disch := omega) only [lG,← X2,← Int.natCast_mul,Int.toNat_natCast,IntWalk.i64_in,IntWalk.u64_in,wrapBB,fdivBB,true_and,and_true,ho]
      refine ⟨by omega, by omega, by omega, Lq ⟨(k + 1, _, _), hk.put (s := c + ((a / BB ^ i % BB) * (b / BB ^ k % BB) + o)) (by omega) (by omega) ho (by simp only; omega)⟩ ?_ ?_⟩
      · refine Sa ?_; simp only [rx,Y0,Y1,Y2,Y3,Y4,Y5,Y6,Y7,ren,↓reduceIte,J1,J2,J3,J4,J5,J6,J7,J8,J9,reduceCtorEq,K1,K2,K3,K4,Y8,Y9,X2,X3,X4]
      simp only; omega
    simp only [vx,T,K5,J0,K6,K7,↓reduceIte,J1,J2,J3,J4,J5,J6,J7,J8,J9,reduceCtorEq,K1,K2,K3,K4]
    have hkb : k = nl b := by omega
    subst hkb
    simp (disch := omega) only [lG,← X2,← Int.natCast_mul,Int.toNat_natCast,IntWalk.i64_in,IntWalk.u64_in,wrapBB,fdivBB,true_and,and_true]
    refine ⟨by omega, Lq ⟨(i + 1, _), hk.next (by omega)⟩ ?_ ?_⟩
    · refine Sa ?_; simp only [rx,Y0,Y1,Y2,Y3,Y4,Y5,Y6,Y7,ren,↓reduceIte,J1,J2,J3,J4,J5,J6,J7,J8,J9,reduceCtorEq,K1,K2,K3,K4,Y8,Y9,X2,X3,X4]
    simp only; omega
  simp only [vx,T,K5,J0,K6,K7,↓reduceIte,J1,J2,J3,J4,J5,J6,J7,J8,J9,reduceCtorEq,K1,K2,K3,K4]
  have hia : i = nl a := by omega
  subst hia
  have hr := hi.inr
  have hv := hi.done
  simp only at hr hv
  rw [List.take_of_length_le (by omega)]
  refine Cg (itrim_spec _ hr (by omega)) ?_
  rw [hv]
  simp only [vx,T,K5,J0,K6,K7,↓reduceIte,J1,J2,J3,J4,J5,J6,J7,J8,J9,reduceCtorEq,K1,K2,K3,K4]
  refine Va ?_; simp only [vLe,vLeL,rx,Y0,Y1,Y2,Y3,Y4,Y5,Y6,Y7,ren,↓reduceIte,J1,J2,J3,J4,J5,J6,J7,J8,J9,reduceCtorEq,K1,K2,K3,K4]
theorem rtimes_spec (a b : Nat) (ha : nl a < 2 ^ 40) (hb : nl b < 2 ^ 40) : Pr Tryz.prog 62 [.one (.ints .u32 (limbs a)), .one (.ints .u32 (limbs b))] (.one (.ints .u32 (limbs (a * b)))) := by
  refine pv T_ok mixed Tryz.func62 rfl (by decide) _ (by simp [Tryz.ntmps62]) ⟨[0, 1, 4, 5, 6, 7, 8, 18, 24], []⟩ (by kernel_rfl) _ ?_
  show vc T _ _ (Option.get! Tryz.f62.body) _ _
  simp only [Tryz.f62,Tryz.ntmps62,Option.get!,iS,iM,eO,J1]
  simp only [vx,T,K5,J0,K6,K7,↓reduceIte,J1,J2,J3,J4,J5,J6,J7,J8,J9,reduceCtorEq,K1,K2,K3,K4]
  simp (disch := omega) only [lG,← X2,← Int.natCast_mul,Int.toNat_natCast,IntWalk.i64_in,IntWalk.u64_in,wrapBB,fdivBB,true_and,and_true]
  refine ⟨⟨by omega, by omega, by omega, by omega⟩, Lk (fun i : {i : Nat × List Int // MulOut a b i.1 i.2} => ⟨[(0, .one (.ints .u32 (limbs a))), (1, .one (.ints .u32 (limbs b))), (5, .one (.own 1 1 0 (nl a + nl b))), (6, .one (.int .i64 i.1.1))], [(1, ⟨.ints 92 .u32 i.1.2, true⟩)], 3, 67⟩) (fun i => nl a - i.1.1) ⟨(0, List.replicate (nl a + nl b) 0), MulOut.init a b⟩ ?_ (fun ⟨⟨i, os⟩, hi⟩ => ?_)⟩
  · refine Sa ?_; simp only [rx,Y0,Y1,Y2,Y3,Y4,Y5,Y6,Y7,ren,↓reduceIte,J1,J2,J3,J4,J5,J6,J7,J8,J9,reduceCtorEq,K1,K2,K3,K4,Y8,Y9,X2,X3,X4]
  have h1 := hi.le
  have h2 := hi.len
  simp only at h1 h2
  simp only [vx,T,K5,J0,K6,K7,↓reduceIte,J1,J2,J3,J4,J5,J6,J7,J8,J9,reduceCtorEq,K1,K2,K3,K4]
  refine ⟨fun h => Lg ?_, fun h => Lg ?_⟩
  · simp only [vx,T,K5,J0,K6,K7,↓reduceIte,J1,J2,J3,J4,J5,J6,J7,J8,J9,reduceCtorEq,K1,K2,K3,K4]
    have hx := modBB (a / BB ^ i)
    refine Lk (fun k : {k : Nat × List Int × Nat // MulIn a b i k.1 k.2.1 k.2.2} => ⟨[(0, .one (.ints .u32 (limbs a))), (1, .one (.ints .u32 (limbs b))), (5, .one (.own 1 1 0 (nl a + nl b))), (6, .one (.int .i64 i)), (7, .one (.int .u64 k.1.2.2)), (8, .one (.int .i64 k.1.1))], [(1, ⟨.ints 92 .u32 k.1.2.1, true⟩)], 3, 67⟩) (fun k => nl b - k.1.1) ⟨(0, os, 0), hi.start⟩ ?_ (fun ⟨⟨k, os', c⟩, hk⟩ => ?_)
    · refine Sa ?_; simp only [rx,Y0,Y1,Y2,Y3,Y4,Y5,Y6,Y7,ren,↓reduceIte,J1,J2,J3,J4,J5,J6,J7,J8,J9,reduceCtorEq,K1,K2,K3,K4,Y8,Y9,X2,X3,X4,lG]
    have h3 := hk.le
    have h4 := hk.len
    have h5 := hk.c
    have h5 : c < 4294967296 := h5
    have hz := hk.inr.getD (i + k)
    simp only at h3 h4 hz
    obtain ⟨o, ho⟩ := Int.eq_ofNat_of_zero_le hz.1
    rw [ho] at hz
    simp only [vx,T,K5,J0,K6,K7,↓reduceIte,J1,J2,J3,J4,J5,J6,J7,J8,J9,reduceCtorEq,K1,K2,K3,K4]
    refine ⟨fun h' => Lg ?_, fun h' => Lg ?_⟩
    · simp only [vx,T,K5,J0,K6,K7,↓reduceIte,J1,J2,J3,J4,J5,J6,J7,J8,J9,reduceCtorEq,K1,K2,K3,K4]
      have hy := modBB (b / BB ^ k)
      have hp : (a / BB ^ i % BB) * (b / BB ^ k % BB) ≤ 4294967295 * 4294967295 := Nat.mul_le_mul (by omega) (by omega)
      simp (disch := omega) only [lG,← X2,← Int.natCast_mul,Int.toNat_natCast,IntWalk.i64_in,IntWalk.u64_in,wrapBB,fdivBB,true_and,and_true,ho]
      refine ⟨by omega, by omega, by omega, by omega, Lq ⟨(k + 1, _, _), hk.put (s := c + o + (a / BB ^ i % BB) * (b / BB ^ k % BB)) (by omega) (by omega) ho (by simp only; omega)⟩ ?_ ?_⟩
      · refine Sa ?_; simp only [rx,Y0,Y1,Y2,Y3,Y4,Y5,Y6,Y7,ren,↓reduceIte,J1,J2,J3,J4,J5,J6,J7,J8,J9,reduceCtorEq,K1,K2,K3,K4,Y8,Y9,X2,X3,X4]
      simp only; omega
    simp only [vx,T,K5,J0,K6,K7,↓reduceIte,J1,J2,J3,J4,J5,J6,J7,J8,J9,reduceCtorEq,K1,K2,K3,K4]
    have hkb : k = nl b := by omega
    subst hkb
    simp (disch := omega) only [lG,← X2,← Int.natCast_mul,Int.toNat_natCast,IntWalk.i64_in,IntWalk.u64_in,wrapBB,fdivBB,true_and,and_true]
    refine ⟨by omega, Lq ⟨(i + 1, _), hk.next (by omega)⟩ ?_ ?_⟩
    · refine Sa ?_; simp only [rx,Y0,Y1,Y2,Y3,Y4,Y5,Y6,Y7,ren,↓reduceIte,J1,J2,J3,J4,J5,J6,J7,J8,J9,reduceCtorEq,K1,K2,K3,K4,Y8,Y9,X2,X3,X4]
    simp only; omega
  simp only [vx,T,K5,J0,K6,K7,↓reduceIte,J1,J2,J3,J4,J5,J6,J7,J8,J9,reduceCtorEq,K1,K2,K3,K4]
  have hia : i = nl a := by omega
  subst hia
  have hr := hi.inr
  have hv := hi.done
  simp only at hr hv
  rw [List.take_of_length_le (by omega)]
  refine Cg (rtrim_spec _ hr (by omega)) ?_
  rw [hv]
  simp only [vx,T,K5,J0,K6,K7,↓reduceIte,J1,J2,J3,J4,J5,J6,J7,J8,J9,reduceCtorEq,K1,K2,K3,K4]
  refine Va ?_; simp only [vLe,vLeL,rx,Y0,Y1,Y2,Y3,Y4,Y5,Y6,Y7,ren,↓reduceIte,J1,J2,J3,J4,J5,J6,J7,J8,J9,reduceCtorEq,K1,K2,K3,K4]
open Go Go.Eng
theorem bits_or {a b : Nat} (ha : a < 2 ^ 64) (hb : b < 2 ^ 64) : bitsOp .or .u64 (a : Int) (b : Int) = ((a ||| b : Nat) : Int) := by
  have hab : a ||| b < 2 ^ 64 := Nat.or_lt_two_pow ha hb
  show IntKind.u64.wrap ((BitVec.ofInt 64 (a : Int) ||| BitVec.ofInt 64 (b : Int)).toNat : Int) = _
  simp only [BitVec.ofInt_natCast,BitVec.toNat_or,BitVec.toNat_ofNat]
  rw [Nat.mod_eq_of_lt ha, Nat.mod_eq_of_lt hb, wrap_u64']
  omega
theorem orBB {r d : Nat} (hr : r < BB) (hd : d < BB) : bitsOp .or .u64 (IntKind.u64.wrap ((r : Int) * 4294967296)) (d : Int) = ((BB * r + d : Nat) : Int) := by
  have h1 : ((r : Int) * 4294967296) = ((BB * r : Nat) : Int) := by unfold BB; omega
  rw [h1, IntWalk.u64_in _ (by unfold BB at *; omega), bits_or (by unfold BB at *; omega) (by unfold BB at *; omega)]
  have := Nat.two_pow_add_eq_or_of_lt (i := 32) (b := d) (by unfold BB at hd; omega) r
  have h2 : BB = 2 ^ 32 := rfl
  rw [h2, this]
theorem div_next (x i : Nat) : x / BB ^ i = BB * (x / BB ^ (i + 1)) + x / BB ^ i % BB := by
  rw [Nat.pow_succ, ← Nat.div_div_eq_div_mul, Nat.div_add_mod]
theorem quo_next {h d b : Nat} (hb : 0 < b) : (BB * h + d) / b = BB * (h / b) + (BB * (h % b) + d) / b ∧ (BB * h + d) % b = (BB * (h % b) + d) % b := by
  have e : BB * h + d = BB * (h % b) + d + b * (BB * (h / b)) := by
    have h1 := Nat.div_add_mod h b
    have h2 : BB * h = BB * (b * (h / b)) + BB * (h % b) := by rw [← Nat.mul_add, h1]
    rw [Nat.mul_left_comm b BB]; omega
  rw [e, Nat.add_mul_div_left _ _ hb, Nat.add_mul_mod_self_left]
  exact ⟨Nat.add_comm _ _, rfl⟩
theorem quo_lt {r d b : Nat} (hr : r < b) (hd : d < BB) : (BB * r + d) / b < BB := by
  rw [Nat.div_lt_iff_lt_mul (by omega)]
  have : BB * (r + 1) ≤ BB * b := Nat.mul_le_mul_left _ hr
  rw [Nat.mul_add] at this
  omega
theorem drop_set_self {os : List Int} {i : Nat} {d : Int} (h : i < os.length) : (os.set i d).drop i = d :: os.drop (i + 1) := by
  rw [List.drop_eq_getElem_cons (by simp; omega)]
  simp [List.drop_set]
structure DivInv (a b j : Nat) (os : List Int) (r : Nat) : Prop where
  le : j ≤ nl a
  len : os.length = nl a
  inr : InR os
  eq : val (os.drop j) = a / BB ^ j / b
  r : r = a / BB ^ j % b
theorem DivInv.init (a b : Nat) (hb : 0 < b) : DivInv a b (nl a) (List.replicate (nl a) 0) 0 :=
  ⟨Nat.le_refl _, by simp, InR.replicate _, by rw [List.drop_of_length_le (by simp), div_top (Nat.le_refl _)]; simp [val], by rw [div_top (Nat.le_refl _)]; simp⟩
theorem DivInv.put {a b i : Nat} {os : List Int} {r : Nat} (hb : 0 < b) (h : DivInv a b (i + 1) os r) :
    DivInv a b i (os.set i (((BB * r + a / BB ^ i % BB) / b % BB : Nat) : Int)) ((BB * r + a / BB ^ i % BB) % b) := by
  have hl : i < os.length := by rw [h.len]; exact h.le
  have hr : r < b := by rw [h.r]; exact Nat.mod_lt _ hb
  obtain ⟨h1, h2⟩ := quo_next (h := a / BB ^ (i + 1)) (d := a / BB ^ i % BB) hb
  rw [← div_next] at h1 h2
  have hq := quo_lt (d := a / BB ^ i % BB) hr (Nat.mod_lt _ (by decide))
  refine ⟨Nat.le_of_lt h.le, by rw [List.length_set]; exact h.len, h.inr.set _ ⟨by omega, by have := modBB ((BB * r + a / BB ^ i % BB) / b); omega⟩, ?_, ?_⟩
  · rw [drop_set_self hl]
    simp only [val,Int.toNat_natCast]
    rw [h.eq, h1, Nat.mod_eq_of_lt hq, ← h.r]
    omega
  rw [h2, ← h.r]
theorem idivideWord_spec (a b : Nat) (ha : nl a < 2 ^ 40) (hb : 0 < b) (hb2 : b < BB) : Pr Tryz.prog 182 [.one (.ints .u32 (limbs a)), .one (.int .u32 b)] (.tup [.one (.ints .u32 (limbs (a / b))), .one (.ints .u32 (limbs (a % b)))]) := by
  have hb3 : b < 4294967296 := hb2
  refine pv T_ok mixed Tryz.func182 rfl (by decide) _ (by simp [Tryz.ntmps182]) ⟨[0, 1, 4, 5, 6, 7, 8, 16], []⟩ (by kernel_rfl) _ ?_
  show vc T _ _ (Option.get! Tryz.f182.body) _ _
  simp only [Tryz.f182,Tryz.ntmps182,Option.get!,iS,iM,eO,J1]
  simp only [vx,T,K5,J0,K6,K7,↓reduceIte,J1,J2,J3,J4,J5,J6,J7,J8,J9,reduceCtorEq,K1,K2,K3,K4]
  simp (disch := omega) only [lG,← X2,← Int.natCast_mul,Int.toNat_natCast,IntWalk.i64_in,IntWalk.u64_in,wrapBB,fdivBB,true_and,and_true]
  refine ⟨⟨by omega, by omega, by omega, by omega⟩, Lk (fun j : {j : Nat × List Int × Nat // DivInv a b j.1 j.2.1 j.2.2} => ⟨[(0, .one (.ints .u32 (limbs a))), (1, .one (.int .u32 b)), (6, .one (.own 1 1 0 (nl a))), (7, .one (.int .u64 j.1.2.2)), (8, .one (.int .i64 ((j.1.1 : Int) - 1)))], [(1, ⟨.ints 92 .u32 j.1.2.1, true⟩)], 3, 43⟩) (fun j => j.1.1) ⟨(nl a, List.replicate (nl a) 0, 0), DivInv.init a b hb⟩ ?_ (fun ⟨⟨j, os, r⟩, hj⟩ => ?_)⟩
  · refine Sa ?_; simp only [rx,Y0,Y1,Y2,Y3,Y4,Y5,Y6,Y7,ren,↓reduceIte,J1,J2,J3,J4,J5,J6,J7,J8,J9,reduceCtorEq,K1,K2,K3,K4,Y8,Y9,X2,X3,X4]
  have h1 := hj.le
  have h2 := hj.len
  have h3 : r < b := by have := hj.r; simp only at this; rw [this]; exact Nat.mod_lt _ hb
  simp only at h1 h2
  simp only [vx,T,K5,J0,K6,K7,↓reduceIte,J1,J2,J3,J4,J5,J6,J7,J8,J9,reduceCtorEq,K1,K2,K3,K4]
  refine ⟨fun h => Lg ?_, fun h => Lg ?_⟩
  · obtain ⟨i, rfl⟩ : ∃ i, j = i + 1 := ⟨j - 1, by omega⟩
    simp only [show ((i + 1 : Nat) : Int) - 1 = (i : Int) by omega,Int.toNat_natCast] at h ⊢
    simp only [vx,T,K5,J0,K6,K7,↓reduceIte,J1,J2,J3,J4,J5,J6,J7,J8,J9,reduceCtorEq,K1,K2,K3,K4]
    have hx := modBB (a / BB ^ i)
    have e1 := IntWalk.u64_in (a / BB ^ i % BB : Nat) (by omega)
    have e2 := IntWalk.u64_in (b : Int) (by omega)
    have e3 : (((BB * r + a / BB ^ i % BB : Nat) : Int).tdiv b) = (((BB * r + a / BB ^ i % BB) / b : Nat) : Int) := rfl
    have e4 : (((BB * r + a / BB ^ i % BB : Nat) : Int).tmod b) = (((BB * r + a / BB ^ i % BB) % b : Nat) : Int) := rfl
    have hq := quo_lt (d := a / BB ^ i % BB) h3 hx
    have hq2 : (BB * r + a / BB ^ i % BB) / b < 4294967296 := hq
    have e5 : IntKind.u64.wrap (((BB * r + a / BB ^ i % BB) / b : Nat) : Int) = (((BB * r + a / BB ^ i % BB) / b : Nat) : Int) := by
      generalize (BB * r + a / BB ^ i % BB) / b = q at hq2
      exact IntWalk.u64_in _ (by omega)
    simp only [lG,e1,e2,orBB (show r < BB by unfold BB; omega) hx,e3,e4,e5]
    simp (disch := omega) only [lG,← X2,← Int.natCast_mul,Int.toNat_natCast,IntWalk.i64_in,IntWalk.u64_in,wrapBB,fdivBB,true_and,and_true]
    refine ⟨⟨by omega, by omega⟩, by omega, ⟨by omega, by omega⟩, by omega, Lq ⟨(i, _, _), hj.put hb⟩ ?_ ?_⟩
    · refine Sa ?_; simp only [rx,Y0,Y1,Y2,Y3,Y4,Y5,Y6,Y7,ren,↓reduceIte,J1,J2,J3,J4,J5,J6,J7,J8,J9,reduceCtorEq,K1,K2,K3,K4,Y8,Y9,X2,X3,X4]
    simp only; omega
  simp only [vx,T,K5,J0,K6,K7,↓reduceIte,J1,J2,J3,J4,J5,J6,J7,J8,J9,reduceCtorEq,K1,K2,K3,K4]
  have hj0 : j = 0 := by omega
  subst hj0
  have hr := hj.inr
  have hv := hj.eq
  have hrr := hj.r
  simp only [Nat.pow_zero,Nat.div_one,List.drop_zero] at hr hv hrr
  rw [List.take_of_length_le (by omega)]
  refine Cg (itrim_spec _ hr (by omega)) ?_
  rw [hv]
  simp only [vx,T,K5,J0,K6,K7,↓reduceIte,J1,J2,J3,J4,J5,J6,J7,J8,J9,reduceCtorEq,K1,K2,K3,K4]
  refine Cg (ifromUint_spec r (by omega)) ?_
  rw [hrr]
  simp only [vx,T,K5,J0,K6,K7,↓reduceIte,J1,J2,J3,J4,J5,J6,J7,J8,J9,reduceCtorEq,K1,K2,K3,K4]
  refine Va ?_; simp only [vLe,vLeL,rx,Y0,Y1,Y2,Y3,Y4,Y5,Y6,Y7,ren,↓reduceIte,J1,J2,J3,J4,J5,J6,J7,J8,J9,reduceCtorEq,K1,K2,K3,K4]
theorem rby_spec (a b : Nat) (ha : nl a < 2 ^ 40) (hb : 0 < b) (hb2 : b < BB) : Pr Tryz.prog 92 [.one (.ints .u32 (limbs a)), .one (.int .u32 b)] (.tup [.one (.ints .u32 (limbs (a / b))), .one (.int .u32 (a % b : Nat))]) := by
  have hb3 : b < 4294967296 := hb2
  refine pv T_ok mixed Tryz.func92 rfl (by decide) _ (by simp [Tryz.ntmps92]) ⟨[0, 1, 4, 5, 6, 7, 8, 16], []⟩ (by kernel_rfl) _ ?_
  show vc T _ _ (Option.get! Tryz.f92.body) _ _
  simp only [Tryz.f92,Tryz.ntmps92,Option.get!,iS,iM,eO,J1]
  simp only [vx,T,K5,J0,K6,K7,↓reduceIte,J1,J2,J3,J4,J5,J6,J7,J8,J9,reduceCtorEq,K1,K2,K3,K4]
  simp (disch := omega) only [lG,← X2,← Int.natCast_mul,Int.toNat_natCast,IntWalk.i64_in,IntWalk.u64_in,wrapBB,fdivBB,true_and,and_true]
  refine ⟨⟨by omega, by omega, by omega, by omega⟩, Lk (fun j : {j : Nat × List Int × Nat // DivInv a b j.1 j.2.1 j.2.2} => ⟨[(0, .one (.ints .u32 (limbs a))), (1, .one (.int .u32 b)), (6, .one (.own 1 1 0 (nl a))), (7, .one (.int .u64 j.1.2.2)), (8, .one (.int .i64 ((j.1.1 : Int) - 1)))], [(1, ⟨.ints 92 .u32 j.1.2.1, true⟩)], 3, 43⟩) (fun j => j.1.1) ⟨(nl a, List.replicate (nl a) 0, 0), DivInv.init a b hb⟩ ?_ (fun ⟨⟨j, os, r⟩, hj⟩ => ?_)⟩
  · refine Sa ?_; simp only [rx,Y0,Y1,Y2,Y3,Y4,Y5,Y6,Y7,ren,↓reduceIte,J1,J2,J3,J4,J5,J6,J7,J8,J9,reduceCtorEq,K1,K2,K3,K4,Y8,Y9,X2,X3,X4]
  have h1 := hj.le
  have h2 := hj.len
  have h3 : r < b := by have := hj.r; simp only at this; rw [this]; exact Nat.mod_lt _ hb
  simp only at h1 h2
  simp only [vx,T,K5,J0,K6,K7,↓reduceIte,J1,J2,J3,J4,J5,J6,J7,J8,J9,reduceCtorEq,K1,K2,K3,K4]
  refine ⟨fun h => Lg ?_, fun h => Lg ?_⟩
  · obtain ⟨i, rfl⟩ : ∃ i, j = i + 1 := ⟨j - 1, by omega⟩
    simp only [show ((i + 1 : Nat) : Int) - 1 = (i : Int) by omega,Int.toNat_natCast] at h ⊢
    simp only [vx,T,K5,J0,K6,K7,↓reduceIte,J1,J2,J3,J4,J5,J6,J7,J8,J9,reduceCtorEq,K1,K2,K3,K4]
    have hx := modBB (a / BB ^ i)
    have e1 := IntWalk.u64_in (a / BB ^ i % BB : Nat) (by omega)
    have e2 := IntWalk.u64_in (b : Int) (by omega)
    have e3 : (((BB * r + a / BB ^ i % BB : Nat) : Int).tdiv b) = (((BB * r + a / BB ^ i % BB) / b : Nat) : Int) := rfl
    have e4 : (((BB * r + a / BB ^ i % BB : Nat) : Int).tmod b) = (((BB * r + a / BB ^ i % BB) % b : Nat) : Int) := rfl
    have hq := quo_lt (d := a / BB ^ i % BB) h3 hx
    have hq2 : (BB * r + a / BB ^ i % BB) / b < 4294967296 := hq
    have e5 : IntKind.u64.wrap (((BB * r + a / BB ^ i % BB) / b : Nat) : Int) = (((BB * r + a / BB ^ i % BB) / b : Nat) : Int) := by
      generalize (BB * r + a / BB ^ i % BB) / b = q at hq2
      exact IntWalk.u64_in _ (by omega)
    simp only [lG,e1,e2,orBB (show r < BB by unfold BB; omega) hx,e3,e4,e5]
    simp (disch := omega) only [lG,← X2,← Int.natCast_mul,Int.toNat_natCast,IntWalk.i64_in,IntWalk.u64_in,wrapBB,fdivBB,true_and,and_true]
    refine ⟨⟨by omega, by omega⟩, by omega, ⟨by omega, by omega⟩, by omega, Lq ⟨(i, _, _), hj.put hb⟩ ?_ ?_⟩
    · refine Sa ?_; simp only [rx,Y0,Y1,Y2,Y3,Y4,Y5,Y6,Y7,ren,↓reduceIte,J1,J2,J3,J4,J5,J6,J7,J8,J9,reduceCtorEq,K1,K2,K3,K4,Y8,Y9,X2,X3,X4]
    simp only; omega
  simp only [vx,T,K5,J0,K6,K7,↓reduceIte,J1,J2,J3,J4,J5,J6,J7,J8,J9,reduceCtorEq,K1,K2,K3,K4]
  have hj0 : j = 0 := by omega
  subst hj0
  have hr := hj.inr
  have hv := hj.eq
  have hrr := hj.r
  simp only [Nat.pow_zero,Nat.div_one,List.drop_zero] at hr hv hrr
  rw [List.take_of_length_le (by omega)]
  refine Cg (rtrim_spec _ hr (by omega)) ?_
  rw [hv]
  simp only [vx,T,K5,J0,K6,K7,↓reduceIte,J1,J2,J3,J4,J5,J6,J7,J8,J9,reduceCtorEq,K1,K2,K3,K4]
  have e6 : IntKind.u32.wrap (r : Int) = r := IntWalk.u32_in _ (by omega)
  rw [e6, hrr]
  refine Va ?_; simp only [vLe,vLeL,rx,Y0,Y1,Y2,Y3,Y4,Y5,Y6,Y7,ren,↓reduceIte,J1,J2,J3,J4,J5,J6,J7,J8,J9,reduceCtorEq,K1,K2,K3,K4]
open Go Go.Eng
structure ResInv (xs : List Int) (off y i : Nat) (zs : List Int) (c : Nat) : Prop where
  le : i ≤ nl y
  len : zs.length = xs.length
  inr : InR zs
  up : zs.drop (off + nl y + 1) = xs.drop (off + nl y + 1)
  eq : val zs + BB ^ (off + i) * c = val xs + BB ^ off * (y % BB ^ i)
  c : c ≤ 1
theorem set_drop {zs : List Int} {i j : Nat} {d : Int} (h : i < j) : (zs.set i d).drop j = zs.drop j := List.drop_set_of_lt h
theorem ResInv.put {xs : List Int} {off y i : Nat} {zs : List Int} {c o s : Nat} (h : ResInv xs off y i zs c) (hi : i < nl y) (hl : off + nl y < xs.length) (ho : zs.getD (off + i) 0 = (o : Int)) (hs : s = o + y / BB ^ i % BB + c) :
    ResInv xs off y (i + 1) (zs.set (off + i) ((s % BB : Nat) : Int)) (s / BB) := by
  have hl2 : off + i < zs.length := by rw [h.len]; omega
  have hy := modBB (y / BB ^ i)
  have ho2 : o < 4294967296 := by have := h.inr.getD (off + i); rw [ho] at this; omega
  refine ⟨hi, by rw [List.length_set]; exact h.len, h.inr.set _ ⟨by omega, by have := modBB s; omega⟩, by rw [set_drop (by omega)]; exact h.up, ?_, ?_⟩
  · have e := val_set (xs := zs) (x := ((s % BB : Nat) : Int)) hl2
    rw [ho] at e
    simp only [Int.toNat_natCast] at e
    have h1 := h.eq
    have e2 : BB ^ (off + (i + 1)) * (s / BB) + BB ^ (off + i) * (s % BB) = BB ^ (off + i) * s := by
      rw [← Nat.add_assoc, Nat.pow_succ, Nat.mul_assoc, ← Nat.mul_add, Nat.div_add_mod]
    have e3 : BB ^ (off + i) * s = BB ^ (off + i) * o + BB ^ off * (BB ^ i * (y / BB ^ i % BB)) + BB ^ (off + i) * c := by
      rw [hs, Nat.mul_add, Nat.mul_add, ← Nat.mul_assoc (BB ^ off), ← Nat.pow_add]
    rw [mod_next y i, Nat.mul_add]
    omega
  have h3 := h.c
  have : s / BB < 2 := by rw [Nat.div_lt_iff_lt_mul (by decide)]; unfold BB at *; omega
  omega
def ResR (xs : List Int) (off y : Nat) (r : V) (B' : Bk) : Prop :=
  r = .tup [] ∧ ∃ zs k, B' = .ints 92 .u32 zs ∧ zs.length = xs.length ∧ InR zs ∧ zs.drop (off + nl y + 1) = xs.drop (off + nl y + 1) ∧ val zs + BB ^ (off + nl y + 1) * k = val xs + BB ^ off * y
theorem ResInv.done {xs : List Int} {off y : Nat} {zs : List Int} {c o : Nat} (h : ResInv xs off y (nl y) zs c) (hl : off + nl y < xs.length) (ho : zs.getD (off + nl y) 0 = (o : Int)) :
    ResR xs off y (.tup []) (.ints 92 .u32 (zs.set (off + nl y) (((o + c % BB) % BB : Nat) : Int))) := by
  have hl2 : off + nl y < zs.length := by rw [h.len]; omega
  have hc : c % BB = c := Nat.mod_eq_of_lt (by have := h.c; unfold BB; omega)
  refine ⟨rfl, _, (o + c) / BB, rfl, by rw [List.length_set]; exact h.len, h.inr.set _ ⟨by omega, by have := modBB (o + c % BB); omega⟩, by rw [set_drop (by omega)]; exact h.up, ?_⟩
  have e := val_set (xs := zs) (x := (((o + c) % BB : Nat) : Int)) hl2
  rw [ho] at e
  simp only [Int.toNat_natCast] at e
  have h1 := h.eq
  rw [mod_all (Nat.le_refl _)] at h1
  have e2 : BB ^ (off + nl y + 1) * ((o + c) / BB) + BB ^ (off + nl y) * ((o + c) % BB) = BB ^ (off + nl y) * (o + c) := by
    rw [Nat.pow_succ, Nat.mul_assoc, ← Nat.mul_add, Nat.div_add_mod]
  rw [Nat.mul_add] at e2
  rw [hc]
  omega
theorem irestore_spec (xs : List Int) (off y : Nat) (hx : InR xs) (hl : off + nl y < xs.length) (hlen : xs.length < 2 ^ 40) : Mc Tryz.prog 186 [.one (.own 0 1 off (nl y + 1)), .one (.ints .u32 (limbs y))] (.ints 92 .u32 xs) (ResR xs off y) := by
  refine mut_of_vc T_ok mixed Tryz.func186 rfl (by decide) _ (by simp [Tryz.ntmps186]) ⟨[0, 1, 4, 5, 6, 7, 8, 9, 10], []⟩ (by kernel_rfl) (.ints 92 .u32 xs) trivial _ ?_
  show vc T _ _ (Option.get! Tryz.f186.body) _ _
  simp only [Tryz.f186,Tryz.ntmps186,Option.get!,iS,iM,eO,J1]
  simp only [vx,T,K5,J0,K6,K7,↓reduceIte,J1,J2,J3,J4,J5,J6,J7,J8,J9,reduceCtorEq,K1,K2,K3,K4]
  refine Lk (fun i : {i : Nat × List Int × Nat // ResInv xs off y i.1 i.2.1 i.2.2} => ⟨[(0, .one (.own 0 1 off (nl y + 1))), (1, .one (.ints .u32 (limbs y))), (4, .one (.int .u64 i.1.2.2)), (7, .one (.ints .u32 (limbs y))), (8, .one (.int .i64 (nl y))), (9, .one (.int .i64 i.1.1))], [(0, ⟨.ints 92 .u32 i.1.2.1, true⟩)], 3, 41⟩) (fun i => nl y - i.1.1) ⟨(0, xs, 0), Nat.zero_le _, rfl, hx, rfl, by simp [Nat.mod_one], Nat.zero_le _⟩ ?_ (fun ⟨⟨i, zs, c⟩, hi⟩ => ?_)
  · refine Sa ?_; simp only [rx,Y0,Y1,Y2,Y3,Y4,Y5,Y6,Y7,ren,↓reduceIte,J1,J2,J3,J4,J5,J6,J7,J8,J9,reduceCtorEq,K1,K2,K3,K4,Y8,Y9,X2,X3,X4]
  have h1 := hi.le
  have h2 := hi.len
  have h3 := hi.c
  have hz := hi.inr.getD (off + i)
  simp only at h1 h2 h3 hz
  obtain ⟨o, ho⟩ := Int.eq_ofNat_of_zero_le hz.1
  rw [ho] at hz
  simp only [vx,T,K5,J0,K6,K7,↓reduceIte,J1,J2,J3,J4,J5,J6,J7,J8,J9,reduceCtorEq,K1,K2,K3,K4]
  refine ⟨fun h => Lg ?_, fun h => Lg ?_⟩
  · simp only [vx,T,K5,J0,K6,K7,↓reduceIte,J1,J2,J3,J4,J5,J6,J7,J8,J9,reduceCtorEq,K1,K2,K3,K4]
    have hy := modBB (y / BB ^ i)
    simp (disch := omega) only [lG,← X2,← Int.natCast_mul,Int.toNat_natCast,IntWalk.i64_in,IntWalk.u64_in,wrapBB,fdivBB,true_and,and_true,ho]
    refine ⟨by omega, by omega, by omega, Lq ⟨(i + 1, _, _), hi.put (s := c + (o + y / BB ^ i % BB)) (by simp only; omega) hl ho (by simp only; omega)⟩ ?_ ?_⟩
    · refine Sa ?_; simp only [rx,Y0,Y1,Y2,Y3,Y4,Y5,Y6,Y7,ren,↓reduceIte,J1,J2,J3,J4,J5,J6,J7,J8,J9,reduceCtorEq,K1,K2,K3,K4,Y8,Y9,X2,X3,X4]
    simp only; omega
  simp only [vx,T,K5,J0,K6,K7,↓reduceIte,J1,J2,J3,J4,J5,J6,J7,J8,J9,reduceCtorEq,K1,K2,K3,K4]
  have hiy : i = nl y := by omega
  subst hiy
  simp (disch := omega) only [lG,← X2,← Int.natCast_mul,Int.toNat_natCast,IntWalk.i64_in,IntWalk.u64_in,wrapBB,fdivBB,true_and,and_true,ho]
  exact ⟨by omega, by omega, hi.done hl ho⟩
open Go Go.Eng
theorem wsub_dig {x c : Nat} (hx : x < BB) (hc : c < BB) : IntKind.u32.wrap (IntKind.u64.wrap ((x : Int) - c)) = (dDig x c 0 : Nat) := by
  unfold dDig dBor
  unfold BB at *
  rw [IntKind.wrap_u32, wrap_u64']
  split <;> omega
theorem wsub_bor {x c : Nat} (hx : x < BB) (hc : c < BB) : (IntKind.u64.wrap ((x : Int) - c)).fdiv 9223372036854775808 = (dBor x c 0 : Nat) := by
  unfold dBor
  unfold BB at *
  rw [wrap_u64', Int.fdiv_eq_ediv_of_nonneg _ (by decide)]
  split <;> omega
structure SubInv (xs : List Int) (off y D i : Nat) (zs : List Int) (c : Nat) : Prop where
  le : i ≤ nl y
  len : zs.length = xs.length
  inr : InR zs
  up : zs.drop (off + nl y + 1) = xs.drop (off + nl y + 1)
  eq : val zs + BB ^ off * (D * (y % BB ^ i)) = val xs + BB ^ (off + i) * c
  c : c < BB
theorem sub_carry {x D c o : Nat} (hx : x < BB) (hD : D < BB) (hc : c < BB) (ho : o < BB) : dDig o ((x * D + c) % BB) 0 + (x * D + c) = o + BB * ((x * D + c) / BB + dBor o ((x * D + c) % BB) 0) ∧ dDig o ((x * D + c) % BB) 0 < BB ∧ (x * D + c) / BB + dBor o ((x * D + c) % BB) 0 < BB := by
  obtain ⟨h1, h2, h3⟩ := dDig_eq ho (Nat.mod_lt (x * D + c) (show BB > 0 by decide)) (Nat.zero_le 1)
  have h4 := Nat.div_add_mod (x * D + c) BB
  have h5 : x * D ≤ 4294967295 * 4294967295 := Nat.mul_le_mul (by unfold BB at hx; omega) (by unfold BB at hD; omega)
  refine ⟨by rw [Nat.mul_add]; omega, h2, ?_⟩
  have h6 : dBor o ((x * D + c) % BB) 0 = 1 → 0 < (x * D + c) % BB := by
    intro h
    unfold dBor at h
    split at h
    · omega
    cases h
  generalize dBor o ((x * D + c) % BB) 0 = bor at *
  generalize (x * D + c) % BB = low at *
  generalize (x * D + c) / BB = q at *
  unfold BB at *
  rcases Nat.lt_or_ge bor 1 with h7 | h7
  · omega
  have := h6 (by omega)
  omega
theorem SubInv.put {xs : List Int} {off y D i : Nat} {zs : List Int} {c o : Nat} (h : SubInv xs off y D i zs c) (hD : D < BB) (hi : i < nl y) (hl : off + nl y < xs.length) (ho : zs.getD (off + i) 0 = (o : Int)) :
    SubInv xs off y D (i + 1) (zs.set (off + i) ((dDig o ((y / BB ^ i % BB * D + c) % BB) 0 : Nat) : Int)) ((y / BB ^ i % BB * D + c) / BB + dBor o ((y / BB ^ i % BB * D + c) % BB) 0) := by
  have hl2 : off + i < zs.length := by rw [h.len]; omega
  have ho2 : o < BB := by have := h.inr.getD (off + i); rw [ho] at this; unfold BB; omega
  obtain ⟨h1, h2, h3⟩ := sub_carry (modBB (y / BB ^ i)) hD h.c ho2
  refine ⟨hi, by rw [List.length_set]; exact h.len, h.inr.set _ ⟨by omega, by have : dDig o ((y / BB ^ i % BB * D + c) % BB) 0 < 4294967296 := h2; omega⟩, by rw [set_drop (by omega)]; exact h.up, ?_, h3⟩
  have e := val_set (xs := zs) (x := ((dDig o ((y / BB ^ i % BB * D + c) % BB) 0 : Nat) : Int)) hl2
  rw [ho] at e
  simp only [Int.toNat_natCast] at e
  have h4 := h.eq
  generalize dDig o ((y / BB ^ i % BB * D + c) % BB) 0 = dd at *
  generalize (y / BB ^ i % BB * D + c) / BB + dBor o ((y / BB ^ i % BB * D + c) % BB) 0 = cc at *
  have e2 : BB ^ (off + (i + 1)) * cc = BB ^ (off + i) * (BB * cc) := by rw [← Nat.add_assoc, Nat.pow_succ, Nat.mul_assoc]
  have e3 : BB ^ (off + i) * dd + BB ^ (off + i) * (y / BB ^ i % BB * D) + BB ^ (off + i) * c = BB ^ (off + i) * o + BB ^ (off + i) * (BB * cc) := by
    rw [← Nat.mul_add, ← Nat.mul_add, ← Nat.mul_add, ← h1, Nat.add_assoc]
  have e4 : BB ^ off * (D * (y % BB ^ (i + 1))) = BB ^ off * (D * (y % BB ^ i)) + BB ^ (off + i) * (y / BB ^ i % BB * D) := by
    rw [mod_next y i, Nat.mul_add, Nat.mul_add, Nat.pow_add, Nat.mul_assoc, Nat.mul_left_comm D, Nat.mul_comm D (y / BB ^ i % BB)]
  rw [e2, e4]
  omega
def SubR (xs : List Int) (off y D : Nat) (r : V) (B' : Bk) : Prop :=
  ∃ t zs, r = .one (.bool t) ∧ B' = .ints 92 .u32 zs ∧ zs.length = xs.length ∧ InR zs ∧ zs.drop (off + nl y + 1) = xs.drop (off + nl y + 1) ∧ val zs + BB ^ off * (D * y) = val xs + BB ^ (off + nl y + 1) * (if t then 1 else 0)
theorem SubInv.done {xs : List Int} {off y D : Nat} {zs : List Int} {c o : Nat} (h : SubInv xs off y D (nl y) zs c) (hl : off + nl y < xs.length) (ho : zs.getD (off + nl y) 0 = (o : Int)) :
    SubR xs off y D (.one (.bool (decide (((dBor o c 0 : Nat) : Int) = 1)))) (.ints 92 .u32 (zs.set (off + nl y) ((dDig o c 0 : Nat) : Int))) := by
  have hl2 : off + nl y < zs.length := by rw [h.len]; omega
  have ho2 : o < BB := by have := h.inr.getD (off + nl y); rw [ho] at this; unfold BB; omega
  obtain ⟨h1, h2, h3⟩ := dDig_eq ho2 h.c (Nat.zero_le 1)
  refine ⟨_, _, rfl, rfl, by rw [List.length_set]; exact h.len, h.inr.set _ ⟨by omega, by have : dDig o c 0 < 4294967296 := h2; omega⟩, by rw [set_drop (by omega)]; exact h.up, ?_⟩
  have e := val_set (xs := zs) (x := ((dDig o c 0 : Nat) : Int)) hl2
  rw [ho] at e
  simp only [Int.toNat_natCast] at e
  have h4 := h.eq
  rw [mod_all (Nat.le_refl _)] at h4
  have hb : (if decide (((dBor o c 0 : Nat) : Int) = 1) = true then 1 else 0) = dBor o c 0 := by
    by_cases h5 : dBor o c 0 = 1
    · rw [h5]; rfl
    rw [if_neg (by simp; omega)]; omega
  rw [hb]
  generalize dDig o c 0 = dd at *
  generalize dBor o c 0 = bb at *
  have e3 : BB ^ (off + nl y) * dd + BB ^ (off + nl y) * c = BB ^ (off + nl y) * o + BB ^ (off + nl y + 1) * bb := by
    rw [Nat.pow_succ, Nat.mul_assoc, ← Nat.mul_add, ← Nat.mul_add]
    congr 1
  omega
theorem isubtract_spec (xs : List Int) (off y D : Nat) (hx : InR xs) (hl : off + nl y < xs.length) (hlen : xs.length < 2 ^ 40) (hD : D < BB) : Mc Tryz.prog 185 [.one (.own 0 1 off (nl y + 1)), .one (.ints .u32 (limbs y)), .one (.int .u64 D)] (.ints 92 .u32 xs) (SubR xs off y D) := by
  have hD2 : D < 4294967296 := hD
  refine mut_of_vc T_ok mixed Tryz.func185 rfl (by decide) _ (by simp [Tryz.ntmps185]) ⟨[0, 1, 2, 6, 7, 8, 9, 10, 11, 12, 13, 14, 15, 16], []⟩ (by kernel_rfl) (.ints 92 .u32 xs) trivial _ ?_
  show vc T _ _ (Option.get! Tryz.f185.body) _ _
  simp only [Tryz.f185,Tryz.ntmps185,Option.get!,iS,iM,eO,J1]
  simp only [vx,T,K5,J0,K6,K7,↓reduceIte,J1,J2,J3,J4,J5,J6,J7,J8,J9,reduceCtorEq,K1,K2,K3,K4]
  refine Lk (fun i : {i : Nat × List Int × Nat // SubInv xs off y D i.1 i.2.1 i.2.2} => ⟨[(0, .one (.own 0 1 off (nl y + 1))), (1, .one (.ints .u32 (limbs y))), (2, .one (.int .u64 D)), (7, .one (.int .u64 i.1.2.2)), (13, .one (.ints .u32 (limbs y))), (14, .one (.int .i64 (nl y))), (15, .one (.int .i64 i.1.1))], [(0, ⟨.ints 92 .u32 i.1.2.1, true⟩)], 3, 63⟩) (fun i => nl y - i.1.1) ⟨(0, xs, 0), Nat.zero_le _, rfl, hx, rfl, by simp [Nat.mod_one], by simp only; decide⟩ ?_ (fun ⟨⟨i, zs, c⟩, hi⟩ => ?_)
  · refine Sa ?_; simp only [rx,Y0,Y1,Y2,Y3,Y4,Y5,Y6,Y7,ren,↓reduceIte,J1,J2,J3,J4,J5,J6,J7,J8,J9,reduceCtorEq,K1,K2,K3,K4,Y8,Y9,X2,X3,X4]
  have h1 := hi.le
  have h2 := hi.len
  have h3 := hi.c
  have h3' : c < 4294967296 := h3
  have hz := hi.inr.getD (off + i)
  simp only at h1 h2 h3 hz
  obtain ⟨o, ho⟩ := Int.eq_ofNat_of_zero_le hz.1
  rw [ho] at hz
  have ho2 : o < BB := by unfold BB; omega
  simp only [vx,T,K5,J0,K6,K7,↓reduceIte,J1,J2,J3,J4,J5,J6,J7,J8,J9,reduceCtorEq,K1,K2,K3,K4]
  refine ⟨fun h => Lg ?_, fun h => Lg ?_⟩
  · simp only [vx,T,K5,J0,K6,K7,↓reduceIte,J1,J2,J3,J4,J5,J6,J7,J8,J9,reduceCtorEq,K1,K2,K3,K4]
    have hy := modBB (y / BB ^ i)
    have hp : y / BB ^ i % BB * D ≤ 4294967295 * 4294967295 := Nat.mul_le_mul (by omega) (by omega)
    simp (disch := omega) only [lG,← X2,← Int.natCast_mul,Int.toNat_natCast,IntWalk.i64_in,IntWalk.u64_in,wrapBB,fdivBB,true_and,and_true,ho]
    have hm := modBB (y / BB ^ i % BB * D + c)
    obtain ⟨_, _, hcc⟩ := sub_carry hy hD h3 ho2
    have e1 : IntKind.u64.wrap (((y / BB ^ i % BB * D + c) % BB : Nat) : Int) = (((y / BB ^ i % BB * D + c) % BB : Nat) : Int) := IntWalk.u64_in _ (by omega)
    have e2 : IntKind.u64.wrap (((y / BB ^ i % BB * D + c) / BB + dBor o ((y / BB ^ i % BB * D + c) % BB) 0 : Nat) : Int) = (((y / BB ^ i % BB * D + c) / BB + dBor o ((y / BB ^ i % BB * D + c) % BB) 0 : Nat) : Int) := by
      generalize (y / BB ^ i % BB * D + c) / BB + dBor o ((y / BB ^ i % BB * D + c) % BB) 0 = q at hcc
      exact IntWalk.u64_in _ (by unfold BB at hcc; omega)
    simp only [e1,wsub_dig ho2 hm,wsub_bor ho2 hm,← X2,e2]
    refine ⟨by omega, by omega, by omega, Lq ⟨(i + 1, _, _), hi.put hD (by simp only; omega) hl ho⟩ ?_ ?_⟩
    · refine Sa ?_; simp only [rx,Y0,Y1,Y2,Y3,Y4,Y5,Y6,Y7,ren,↓reduceIte,J1,J2,J3,J4,J5,J6,J7,J8,J9,reduceCtorEq,K1,K2,K3,K4,Y8,Y9,X2,X3,X4]
    simp only; omega
  simp only [vx,T,K5,J0,K6,K7,↓reduceIte,J1,J2,J3,J4,J5,J6,J7,J8,J9,reduceCtorEq,K1,K2,K3,K4]
  have hiy : i = nl y := by omega
  subst hiy
  simp (disch := omega) only [lG,← X2,← Int.natCast_mul,Int.toNat_natCast,IntWalk.i64_in,IntWalk.u64_in,wrapBB,fdivBB,true_and,and_true,ho]
  simp only [wsub_dig ho2 h3,wsub_bor ho2 h3]
  exact ⟨by omega, by omega, hi.done hl ho⟩
end Go.Proofs.YtpogdlmhmafjlaaGreat
/-
  Natural numbers as lists of a given number of words; the law of the long division's digit.
-/
namespace Go.Eng
def dig : Nat → Nat → List Int
  | 0, _ => []
  | k + 1, n => ((n % BB : Nat) : Int) :: dig k (n / BB)
theorem dig_length : ∀ k n, (dig k n).length = k
  | 0, _ => rfl
  | k + 1, n => by simp [dig, dig_length k]
theorem dig_inr : ∀ k n, InR (dig k n)
  | 0, _ => InR.nil
  | k + 1, n => InR.cons ⟨by omega, by have := Nat.mod_lt n (show BB > 0 by decide); unfold BB at *; omega⟩ (dig_inr k _)
theorem val_dig : ∀ k n, val (dig k n) = n % BB ^ k
  | 0, n => by simp [dig, val, Nat.mod_one]
  | k + 1, n => by
    simp only [dig,val,val_dig k,Int.toNat_natCast]
    rw [Nat.pow_succ, Nat.mul_comm (BB ^ k), Nat.mod_mul]
theorem dig_val : ∀ {xs : List Int}, InR xs → dig xs.length (val xs) = xs
  | [], _ => rfl
  | x :: xs, h => by
    have h2 := h.head
    have h3 : x.toNat < BB := by unfold BB; omega
    simp only [List.length_cons,dig,val]
    rw [Nat.add_mul_mod_self_left, Nat.mod_eq_of_lt h3, Nat.add_mul_div_left _ _ (by decide : 0 < BB), Nat.div_eq_of_lt h3, Nat.zero_add, dig_val h.tail]
    congr 1; omega
theorem dig_of {xs : List Int} {k n : Nat} (h : InR xs) (hl : xs.length = k) (hv : val xs = n) : xs = dig k n := by
  rw [← hl, ← hv, dig_val h]
theorem kn_init {U V P high next Vr top u2 Ur : Nat} (hU : U = (top * BB + u2) * P + Ur) (hV : V = (high * BB + next) * P + Vr) (hUr : Ur < P) (hu2 : u2 < BB) (hh : 0 < high) : U / V ≤ top / high := by
  rw [Nat.le_div_iff_mul_le hh]
  have h1 := Nat.div_mul_le_self U V
  generalize U / V = q at h1 ⊢
  rcases Nat.lt_or_ge top (q * high) with h2 | h2
  · exfalso
    have h3 : (top + 1) * (BB * P) ≤ q * high * (BB * P) := Nat.mul_le_mul_right _ h2
    have h4 : q * high * (BB * P) ≤ q * V := by
      rw [hV, Nat.mul_assoc]
      refine Nat.mul_le_mul_left _ ?_
      rw [Nat.add_mul, Nat.mul_assoc]
      omega
    have h5 : (u2 + 1) * P ≤ BB * P := Nat.mul_le_mul_right _ hu2
    rw [Nat.add_mul, Nat.mul_assoc top] at hU
    rw [Nat.add_mul] at h3 h5
    omega
  exact h2
theorem kn_step {U V P V2 Vr T3 Ur D : Nat} (hU : U = T3 * P + Ur) (hV : V = V2 * P + Vr) (hUr : Ur < P) (hD : T3 < D * V2) : U / V < D := by
  have h1 := Nat.div_mul_le_self U V
  generalize U / V = q at h1 ⊢
  rcases Nat.lt_or_ge q D with h2 | h2
  · exact h2
  exfalso
  have h3 : D * V2 ≤ q * V2 := Nat.mul_le_mul_right _ h2
  have h4 : (T3 + 1) * P ≤ q * V2 * P := Nat.mul_le_mul_right _ (by omega)
  have h5 : q * V2 * P ≤ q * V := by rw [hV, Nat.mul_assoc]; exact Nat.mul_le_mul_left _ (by omega)
  rw [Nat.add_mul] at h4
  omega
theorem kn_end {U V P V2 Vr T3 Ur D : Nat} (hU : U = T3 * P + Ur) (hV : V = V2 * P + Vr) (hVr : Vr < P) (hD : D * V2 ≤ T3) (hl : D ≤ V2) (hV0 : 0 < V) : D ≤ U / V + 1 := by
  rcases Nat.lt_or_ge (U / V + 1) D with h | h
  · exfalso
    have h1 : U < (U / V + 1) * V := by
      have e := Nat.div_add_mod U V
      have l := Nat.mod_lt U hV0
      rw [Nat.add_mul, Nat.mul_comm (U / V)]
      omega
    generalize U / V = q at h h1
    have h2 : (q + 1) * V ≤ (q + 1) * ((V2 + 1) * P) := Nat.mul_le_mul_left _ (by rw [hV, Nat.add_mul]; omega)
    have h3 : D * V2 * P ≤ T3 * P := Nat.mul_le_mul_right _ hD
    have h4 : D * V2 * P < (q + 1) * (V2 + 1) * P := by rw [Nat.mul_assoc (q + 1)]; omega
    have h5 : D * V2 < (q + 1) * (V2 + 1) := Nat.lt_of_mul_lt_mul_right h4
    have h6 : (q + 2) * V2 ≤ D * V2 := Nat.mul_le_mul_right _ h
    have e1 : (q + 2) * V2 = q * V2 + 2 * V2 := Nat.add_mul _ _ _
    have e2 : (q + 1) * (V2 + 1) = q * V2 + V2 + q + 1 := by rw [Nat.add_mul, Nat.mul_add]; omega
    omega
  exact h
end Go.Eng
namespace Go.Proofs.YtpogdlmhmafjlaaGreat
open Go Go.Eng
theorem bits_or32 {a b : Nat} (ha : a < 2 ^ 32) (hb : b < 2 ^ 32) : bitsOp .or .u32 (a : Int) (b : Int) = ((a ||| b : Nat) : Int) := by
  have hab : a ||| b < 2 ^ 32 := Nat.or_lt_two_pow ha hb
  show IntKind.u32.wrap ((BitVec.ofInt 32 (a : Int) ||| BitVec.ofInt 32 (b : Int)).toNat : Int) = _
  simp only [BitVec.ofInt_natCast,BitVec.toNat_or,BitVec.toNat_ofNat]
  rw [Nat.mod_eq_of_lt ha, Nat.mod_eq_of_lt hb, IntKind.wrap_u32]
  omega
theorem shl_mod {w n : Nat} (hn : n ≤ 32) : (w * 2 ^ n) % BB = 2 ^ n * (w % 2 ^ (32 - n)) := by
  have : BB = 2 ^ n * 2 ^ (32 - n) := by rw [← Nat.pow_add, show n + (32 - n) = 32 by omega]; rfl
  rw [this, Nat.mul_comm w, Nat.mul_mod_mul_left]
theorem or_low {w n o : Nat} (hn : n < 32) (ho : o < 2 ^ n) : bitsOp .or .u32 (o : Int) (((w * 2 ^ n) % BB : Nat) : Int) = ((o + (w * 2 ^ n) % BB : Nat) : Int) ∧ o + (w * 2 ^ n) % BB < BB := by
  have h1 : 2 ^ n ≤ 2 ^ 31 := Nat.pow_le_pow_right (by decide) (by omega)
  have hm := modBB (w * 2 ^ n)
  have e := Nat.two_pow_add_eq_or_of_lt ho (w % 2 ^ (32 - n))
  rw [← shl_mod (by omega)] at e
  have e3 : o ||| (w * 2 ^ n) % BB = o + (w * 2 ^ n) % BB := by rw [Nat.or_comm, ← e, Nat.add_comm]
  have h2 : o ||| (w * 2 ^ n) % BB < 2 ^ 32 := Nat.or_lt_two_pow (by omega) (by omega)
  rw [e3] at h2
  refine ⟨by rw [bits_or32 (by omega) (by omega), e3], h2⟩
structure ShInv (a n i : Nat) (zs : List Int) : Prop where
  le : i ≤ nl a
  len : zs.length = nl a + 1
  inr : InR zs
  eq : val zs = (a % BB ^ i) * 2 ^ n
theorem ShInv.init (a n : Nat) : ShInv a n 0 (List.replicate (nl a + 1) 0) := ⟨Nat.zero_le _, by simp, InR.replicate _, by rw [val_replicate]; simp [Nat.mod_one]⟩
def shO (a n i : Nat) : Nat := (a % BB ^ i) * 2 ^ n / BB ^ i
theorem ShInv.get {a n i : Nat} {zs : List Int} (h : ShInv a n i zs) (hn : n < 32) : zs.getD i 0 = (shO a n i : Nat) ∧ shO a n i < 2 ^ n ∧ zs.getD (i + 1) 0 = 0 := by
  have hp : 0 < BB ^ i := Nat.pow_pos (by decide)
  have h1 : shO a n i < 2 ^ n := by
    unfold shO
    rw [Nat.div_lt_iff_lt_mul hp, Nat.mul_comm]
    exact Nat.mul_lt_mul_of_pos_left (Nat.mod_lt _ hp) (Nat.pow_pos (by decide))
  have h2 : 2 ^ n ≤ 2 ^ 31 := Nat.pow_le_pow_right (by decide) (by omega)
  have h3 : shO a n i < BB := by unfold BB; omega
  refine ⟨?_, h1, ?_⟩
  · rw [getD_val h.inr, h.eq]
    show ((shO a n i % BB : Nat) : Int) = _
    rw [Nat.mod_eq_of_lt h3]
  rw [getD_val h.inr, h.eq, Nat.pow_succ, ← Nat.div_div_eq_div_mul]
  show ((shO a n i / BB % BB : Nat) : Int) = 0
  rw [Nat.div_eq_of_lt h3]; rfl
theorem set2b {P o v1 v2 A Z W : Nat} (e1 : A + P * o = Z + P * v1) (e2 : W = A + P * (BB * v2)) : W + P * o = Z + P * v1 + P * (BB * v2) := by omega
theorem set2 {zs : List Int} {i o v1 v2 : Nat} (hr : InR zs) (hl : i + 1 < zs.length) (ho : zs.getD i 0 = (o : Int)) (hz : zs.getD (i + 1) 0 = 0) (h1 : v1 < 4294967296) (h2 : v2 < 4294967296) :
    InR ((zs.set i (v1 : Int)).set (i + 1) (v2 : Int)) ∧ val ((zs.set i (v1 : Int)).set (i + 1) (v2 : Int)) + BB ^ i * o = val zs + BB ^ i * v1 + BB ^ i * (BB * v2) := by
  refine ⟨(hr.set _ ⟨by omega, by omega⟩).set _ ⟨by omega, by omega⟩, ?_⟩
  have e1 : val (zs.set i (v1 : Int)) + BB ^ i * o = val zs + BB ^ i * v1 := by
    have e := val_set (xs := zs) (i := i) (x := (v1 : Int)) (by omega)
    rw [ho] at e
    exact e
  have e2 : val ((zs.set i (v1 : Int)).set (i + 1) (v2 : Int)) = val (zs.set i (v1 : Int)) + BB ^ i * (BB * v2) := by
    have e := val_set (xs := zs.set i (v1 : Int)) (i := i + 1) (x := (v2 : Int)) (by rw [List.length_set]; exact hl)
    rw [getD_set_ne (by omega), hz, Nat.pow_succ, Nat.mul_assoc, Nat.mul_assoc] at e
    exact e
  exact set2b e1 e2
theorem ShInv.put {a n i : Nat} {zs : List Int} (h : ShInv a n i zs) (hn : n < 32) (hi : i < nl a) :
    ShInv a n (i + 1) ((zs.set i ((shO a n i + (a / BB ^ i % BB * 2 ^ n) % BB : Nat) : Int)).set (i + 1) (((a / BB ^ i % BB * 2 ^ n) / BB % BB : Nat) : Int)) := by
  obtain ⟨g1, g2, g3⟩ := h.get hn
  obtain ⟨_, g4⟩ := or_low (w := a / BB ^ i % BB) hn g2
  have h2 : 2 ^ n ≤ 2 ^ 31 := Nat.pow_le_pow_right (by decide) (by omega)
  have h4 : a / BB ^ i % BB * 2 ^ n / BB < BB := by
    rw [Nat.div_lt_iff_lt_mul (by decide)]
    exact Nat.lt_of_le_of_lt (Nat.mul_le_mul_left _ (Nat.le_trans h2 (by decide : 2 ^ 31 ≤ BB))) (Nat.mul_lt_mul_of_pos_right (modBB _) (by decide))
  rw [Nat.mod_eq_of_lt h4]
  obtain ⟨k1, k2⟩ := set2 h.inr (by rw [h.len]; omega) g1 g3 g4 h4
  refine ⟨hi, by simp only [List.length_set]; exact h.len, k1, ?_⟩
  have e4 : (a % BB ^ (i + 1)) * 2 ^ n = (a % BB ^ i) * 2 ^ n + BB ^ i * (a / BB ^ i % BB * 2 ^ n) := by
    rw [mod_next a i, Nat.add_mul, Nat.mul_assoc]
  rw [e4, ← h.eq]
  generalize a / BB ^ i % BB * 2 ^ n = X at k2 ⊢
  have e5 := Nat.div_add_mod X BB
  have e6 : BB ^ i * X = BB ^ i * (BB * (X / BB)) + BB ^ i * (X % BB) := by rw [← Nat.mul_add, e5]
  rw [Nat.mul_add] at k2
  omega
theorem pow_cast (n : Nat) : (2 : Int) ^ n = ((2 ^ n : Nat) : Int) := by simp
theorem sh_lt {w n : Nat} (hw : w < BB) (hn : n < 32) : w * 2 ^ n < 9223372036854775808 := by
  have h2 : 2 ^ n ≤ 2 ^ 31 := Nat.pow_le_pow_right (by decide) (by omega)
  exact Nat.lt_of_le_of_lt (Nat.mul_le_mul_left _ h2) (Nat.mul_lt_mul_of_pos_right hw (by decide))
theorem ShInv.done {a n : Nat} {zs : List Int} (h : ShInv a n (nl a) zs) : zs = dig (nl a + 1) (a * 2 ^ n) :=
  dig_of h.inr h.len (by rw [h.eq, mod_all (Nat.le_refl _)])
theorem ishiftLeft_spec (a n : Nat) (ha : nl a < 2 ^ 40) (hn : n < 32) : Fr Tryz.prog 184 [.one (.ints .u32 (limbs a)), .one (.int .i64 n)] (.ints 92 .u32 (dig (nl a + 1) (a * 2 ^ n))) := by
  have hn' : n ≤ 64 := by omega
  refine fresh_of_vc T_ok mixed Tryz.func184 rfl (by decide) _ (by simp [Tryz.ntmps184]) ⟨[0, 1, 4, 5, 6, 7, 8, 13, 14, 15, 16], []⟩ (by kernel_rfl) _ trivial ?_
  show vc T _ _ (Option.get! Tryz.f184.body) _ _
  simp only [Tryz.f184,Tryz.ntmps184,Option.get!,iS,iM,eO,J1]
  simp only [vx,T,K5,J0,K6,K7,↓reduceIte,J1,J2,J3,J4,J5,J6,J7,J8,J9,reduceCtorEq,K1,K2,K3,K4]
  simp (disch := omega) only [lG,← X2,← Int.natCast_mul,Int.toNat_natCast,IntWalk.i64_in,IntWalk.u64_in,wrapBB,fdivBB,true_and,and_true]
  refine ⟨⟨by omega, by omega, by omega, by omega⟩, Lk (fun i : {i : Nat × List Int // ShInv a n i.1 i.2} => ⟨[(0, .one (.ints .u32 (limbs a))), (1, .one (.int .i64 n)), (5, .one (.own 1 1 0 (nl a + 1))), (13, .one (.ints .u32 (limbs a))), (14, .one (.int .i64 (nl a))), (15, .one (.int .i64 i.1.1))], [(1, ⟨.ints 92 .u32 i.1.2, true⟩)], 2, 41⟩) (fun i => nl a - i.1.1) ⟨(0, _), ShInv.init a n⟩ ?_ (fun ⟨⟨i, zs⟩, hi⟩ => ?_)⟩
  · refine Sa ?_; simp only [rx,Y0,Y1,Y2,Y3,Y4,Y5,Y6,Y7,ren,↓reduceIte,J1,J2,J3,J4,J5,J6,J7,J8,J9,reduceCtorEq,K1,K2,K3,K4,Y8,Y9,X2,X3,X4]
    rw [show ((nl a : Int) + 1).toNat = nl a + 1 by omega]
    exact ⟨rfl, rfl⟩
  have h1 := hi.le
  have h2 := hi.len
  obtain ⟨g1, g2, g3⟩ := hi.get hn
  simp only at h1 h2 g1 g2 g3
  simp only [vx,T,K5,J0,K6,K7,↓reduceIte,J1,J2,J3,J4,J5,J6,J7,J8,J9,reduceCtorEq,K1,K2,K3,K4,hn']
  refine ⟨fun h => Lg ?_, fun h => Lg ?_⟩
  · simp only [vx,T,K5,J0,K6,K7,↓reduceIte,J1,J2,J3,J4,J5,J6,J7,J8,J9,reduceCtorEq,K1,K2,K3,K4,hn']
    have hy := modBB (a / BB ^ i)
    have g4 := sh_lt hy hn
    have g5 := (or_low (w := a / BB ^ i % BB) hn g2).1
    simp (disch := omega) only [lG,← X2,← Int.natCast_mul,Int.toNat_natCast,IntWalk.i64_in,IntWalk.u64_in,wrapBB,fdivBB,true_and,and_true,pow_cast,g1,g5]
    refine ⟨by omega, by omega, by omega, by omega, by omega, Lq ⟨(i + 1, _), hi.put hn (by simp only; omega)⟩ ?_ ?_⟩
    · refine Sa ?_; simp only [rx,Y0,Y1,Y2,Y3,Y4,Y5,Y6,Y7,ren,↓reduceIte,J1,J2,J3,J4,J5,J6,J7,J8,J9,reduceCtorEq,K1,K2,K3,K4,Y8,Y9,X2,X3,X4]
      rw [show ((i : Int) + 1).toNat = i + 1 by omega]
    simp only; omega
  simp only [vx,T,K5,J0,K6,K7,↓reduceIte,J1,J2,J3,J4,J5,J6,J7,J8,J9,reduceCtorEq,K1,K2,K3,K4]
  have hia : i = nl a := by omega
  subst hia
  exact ⟨(dig_length _ _).symm, rfl, hi.done⟩
theorem rshifted_spec (a n : Nat) (ha : nl a < 2 ^ 40) (hn : n < 32) : Fr Tryz.prog 94 [.one (.ints .u32 (limbs a)), .one (.int .i64 n)] (.ints 92 .u32 (dig (nl a + 1) (a * 2 ^ n))) := by
  have hn' : n ≤ 64 := by omega
  refine fresh_of_vc T_ok mixed Tryz.func94 rfl (by decide) _ (by simp [Tryz.ntmps94]) ⟨[0, 1, 4, 5, 6, 7, 15], []⟩ (by kernel_rfl) _ trivial ?_
  show vc T _ _ (Option.get! Tryz.f94.body) _ _
  simp only [Tryz.f94,Tryz.ntmps94,Option.get!,iS,iM,eO,J1]
  simp only [vx,T,K5,J0,K6,K7,↓reduceIte,J1,J2,J3,J4,J5,J6,J7,J8,J9,reduceCtorEq,K1,K2,K3,K4]
  simp (disch := omega) only [lG,← X2,← Int.natCast_mul,Int.toNat_natCast,IntWalk.i64_in,IntWalk.u64_in,wrapBB,fdivBB,true_and,and_true]
  refine ⟨⟨by omega, by omega, by omega, by omega⟩, Lk (fun i : {i : Nat × List Int // ShInv a n i.1 i.2} => ⟨[(0, .one (.ints .u32 (limbs a))), (1, .one (.int .i64 n)), (5, .one (.own 1 1 0 (nl a + 1))), (6, .one (.int .i64 i.1.1))], [(1, ⟨.ints 92 .u32 i.1.2, true⟩)], 2, 43⟩) (fun i => nl a - i.1.1) ⟨(0, _), ShInv.init a n⟩ ?_ (fun ⟨⟨i, zs⟩, hi⟩ => ?_)⟩
  · refine Sa ?_; simp only [rx,Y0,Y1,Y2,Y3,Y4,Y5,Y6,Y7,ren,↓reduceIte,J1,J2,J3,J4,J5,J6,J7,J8,J9,reduceCtorEq,K1,K2,K3,K4,Y8,Y9,X2,X3,X4]
    rw [show ((nl a : Int) + 1).toNat = nl a + 1 by omega]
    exact ⟨rfl, rfl⟩
  have h1 := hi.le
  have h2 := hi.len
  obtain ⟨g1, g2, g3⟩ := hi.get hn
  simp only at h1 h2 g1 g2 g3
  simp only [vx,T,K5,J0,K6,K7,↓reduceIte,J1,J2,J3,J4,J5,J6,J7,J8,J9,reduceCtorEq,K1,K2,K3,K4,hn']
  refine ⟨fun h => Lg ?_, fun h => Lg ?_⟩
  · simp only [vx,T,K5,J0,K6,K7,↓reduceIte,J1,J2,J3,J4,J5,J6,J7,J8,J9,reduceCtorEq,K1,K2,K3,K4,hn']
    have hy := modBB (a / BB ^ i)
    have g4 := sh_lt hy hn
    have g5 := (or_low (w := a / BB ^ i % BB) hn g2).1
    simp (disch := omega) only [lG,← X2,← Int.natCast_mul,Int.toNat_natCast,IntWalk.i64_in,IntWalk.u64_in,wrapBB,fdivBB,true_and,and_true,pow_cast,g1,g5]
    refine ⟨by omega, by omega, by omega, by omega, by omega, Lq ⟨(i + 1, _), hi.put hn (by simp only; omega)⟩ ?_ ?_⟩
    · refine Sa ?_; simp only [rx,Y0,Y1,Y2,Y3,Y4,Y5,Y6,Y7,ren,↓reduceIte,J1,J2,J3,J4,J5,J6,J7,J8,J9,reduceCtorEq,K1,K2,K3,K4,Y8,Y9,X2,X3,X4]
      rw [show ((i : Int) + 1).toNat = i + 1 by omega]
    simp only; omega
  simp only [vx,T,K5,J0,K6,K7,↓reduceIte,J1,J2,J3,J4,J5,J6,J7,J8,J9,reduceCtorEq,K1,K2,K3,K4]
  have hia : i = nl a := by omega
  subst hia
  exact ⟨(dig_length _ _).symm, rfl, hi.done⟩
end Go.Proofs.YtpogdlmhmafjlaaGreat
/-
  Words shifted to the right.
-/
namespace Go.Eng
theorem BB_split {n : Nat} (hn : n ≤ 32) : BB = 2 ^ n * 2 ^ (32 - n) := by
  rw [← Nat.pow_add, show n + (32 - n) = 32 by omega]; rfl
theorem BB_split' {n : Nat} (hn : n ≤ 32) : BB = 2 ^ (32 - n) * 2 ^ n := by rw [BB_split hn, Nat.mul_comm]
theorem shr_div (w Y n : Nat) (hn : n ≤ 32) : (w + BB * Y) / 2 ^ n = w / 2 ^ n + 2 ^ (32 - n) * Y := by
  rw [BB_split hn, Nat.mul_assoc, Nat.add_mul_div_left _ _ (Nat.pow_pos (by decide))]
theorem shr_low (w n : Nat) (hn : n ≤ 32) (hw : w < BB) : w / 2 ^ n < 2 ^ (32 - n) := by
  rw [Nat.div_lt_iff_lt_mul (Nat.pow_pos (by decide)), ← BB_split' hn]; exact hw
theorem shr_mod (w Y n : Nat) (hn : n ≤ 32) (hw : w < BB) : (w + BB * Y) / 2 ^ n % BB = w / 2 ^ n + 2 ^ (32 - n) * (Y % 2 ^ n) := by
  rw [shr_div w Y n hn]
  generalize hr : w / 2 ^ n = r
  have h := shr_low w n hn hw
  rw [hr] at h
  rw [BB_split' hn, Nat.mod_mul, Nat.add_mul_mod_self_left, Nat.mod_eq_of_lt h, Nat.add_mul_div_left _ _ (Nat.pow_pos (by decide)), Nat.div_eq_of_lt h, Nat.zero_add]
theorem shr_dig (X n : Nat) (hn : n ≤ 32) : X / 2 ^ n % BB = X % BB / 2 ^ n + (X / BB % BB * 2 ^ (32 - n)) % BB := by
  have hw : X % BB < BB := Nat.mod_lt _ (by decide)
  have e : X / 2 ^ n % BB = (X % BB + BB * (X / BB)) / 2 ^ n % BB := by rw [Nat.mod_add_div]
  rw [e, shr_mod _ _ n hn hw, Nat.mul_comm (X / BB % BB)]
  congr 1
  rw [BB_split' hn, Nat.mul_mod_mul_left, ← BB_split' hn, BB_split hn, Nat.mod_mul_right_mod]
theorem shr_dig2 (X n : Nat) (hn : n ≤ 32) : (X % BB + X / BB % BB * BB) / 2 ^ n % BB = X / 2 ^ n % BB := by
  have hw : X % BB < BB := Nat.mod_lt _ (by decide)
  rw [Nat.mul_comm (X / BB % BB), shr_mod _ _ n hn hw]
  have e : X / 2 ^ n % BB = (X % BB + BB * (X / BB)) / 2 ^ n % BB := by rw [Nat.mod_add_div]
  rw [e, shr_mod _ _ n hn hw]
  congr 2
  rw [BB_split hn, Nat.mod_mul_right_mod]
structure ShrInv (a n l i : Nat) (zs : List Int) : Prop where
  le : i ≤ l
  len : zs.length = l
  inr : InR zs
  eq : val zs = (a / 2 ^ n) % BB ^ i
theorem ShrInv.init (a n l : Nat) : ShrInv a n l 0 (List.replicate l 0) := ⟨Nat.zero_le _, by simp, InR.replicate _, by rw [val_replicate]; simp [Nat.mod_one]⟩
theorem mod_next' (y i : Nat) : y % BB ^ (i + 1) = y % BB ^ i + BB ^ i * (y / BB ^ i % BB) := by
  rw [Nat.pow_succ, Nat.mod_mul]
theorem ShrInv.get {a n l i : Nat} {zs : List Int} (h : ShrInv a n l i zs) : zs.getD i 0 = 0 := by
  rw [getD_val h.inr, h.eq, Nat.div_eq_of_lt (Nat.mod_lt _ (Nat.pow_pos (by decide)))]; rfl
theorem ShrInv.put {a n l i : Nat} {zs : List Int} (h : ShrInv a n l i zs) (hi : i < l) {d : Nat} (hd : a / BB ^ i / 2 ^ n % BB = d) : ShrInv a n l (i + 1) (zs.set i (d : Int)) := by
  have hl : i < zs.length := by rw [h.len]; exact hi
  have hd2 : d < BB := by rw [← hd]; exact Nat.mod_lt _ (by decide)
  have e := val_set (xs := zs) (i := i) (x := (d : Int)) hl
  rw [h.get] at e
  simp only [Int.toNat_zero,Nat.mul_zero,Nat.add_zero,Int.toNat_natCast] at e
  refine ⟨hi, by rw [List.length_set]; exact h.len, h.inr.set _ ⟨by omega, by unfold BB at hd2; omega⟩, ?_⟩
  rw [e, h.eq, mod_next']
  congr 2
  rw [← hd, Nat.div_div_eq_div_mul, Nat.div_div_eq_div_mul, Nat.mul_comm]
theorem ShrInv.done {a n l : Nat} {zs : List Int} (h : ShrInv a n l l zs) (hl : a < BB ^ l) : zs = dig l (a / 2 ^ n) :=
  dig_of h.inr h.len (by rw [h.eq, Nat.mod_eq_of_lt (Nat.lt_of_le_of_lt (Nat.div_le_self _ _) hl)])
theorem val_dig_lt {l n : Nat} (h : n < BB ^ l) : val (dig l n) = n := by rw [val_dig, Nat.mod_eq_of_lt h]
end Go.Eng
namespace Go.Proofs.YtpogdlmhmafjlaaGreat
open Go Go.Eng
theorem or_low' {w n o : Nat} (hn : n ≤ 32) (ho : o < 2 ^ n) : bitsOp .or .u32 (o : Int) (((w * 2 ^ n) % BB : Nat) : Int) = ((o + (w * 2 ^ n) % BB : Nat) : Int) := by
  have h1 : 2 ^ n ≤ 2 ^ 32 := Nat.pow_le_pow_right (by decide) hn
  have hm := modBB (w * 2 ^ n)
  have e := Nat.two_pow_add_eq_or_of_lt ho (w % 2 ^ (32 - n))
  rw [← shl_mod (by omega)] at e
  have e3 : o ||| (w * 2 ^ n) % BB = o + (w * 2 ^ n) % BB := by rw [Nat.or_comm, ← e, Nat.add_comm]
  rw [bits_or32 (by omega) (by omega), e3]
theorem fdivNat (s m : Nat) : (s : Int).fdiv (m : Int) = ((s / m : Nat) : Int) := by
  rw [Int.fdiv_eq_ediv_of_nonneg _ (by omega)]; rfl
theorem bits_or64 {a b : Nat} (ha : a < 2 ^ 64) (hb : b < 2 ^ 64) : bitsOp .or .u64 (a : Int) (b : Int) = ((a ||| b : Nat) : Int) := by
  have hab : a ||| b < 2 ^ 64 := Nat.or_lt_two_pow ha hb
  show IntKind.u64.wrap ((BitVec.ofInt 64 (a : Int) ||| BitVec.ofInt 64 (b : Int)).toNat : Int) = _
  simp only [BitVec.ofInt_natCast,BitVec.toNat_or,BitVec.toNat_ofNat]
  rw [Nat.mod_eq_of_lt ha, Nat.mod_eq_of_lt hb, wrap_u64']
  omega
theorem or_high {w u : Nat} (hw : w < BB) (hu : u < BB) : bitsOp .or .u64 (w : Int) ((u : Int) * 4294967296) = ((w + u * BB : Nat) : Int) := by
  rw [show ((u : Int) * 4294967296) = ((u * 4294967296 : Nat) : Int) by omega]
  unfold BB at *
  have e := Nat.two_pow_add_eq_or_of_lt (i := 32) (b := w) (by omega) u
  rw [bits_or64 (by omega) (by omega)]
  have e2 : u * 4294967296 = 2 ^ 32 * u := Nat.mul_comm _ _
  rw [e2, Nat.or_comm, ← e, Nat.add_comm]
theorem getD_set_eq {zs : List Int} {i : Nat} {x : Int} (h : i < zs.length) : (zs.set i x).getD i 0 = x := by
  rw [X7, List.getElem?_set_self h]; rfl
theorem sh_lt64 {w k : Nat} (hw : w < BB) (hk : k ≤ 32) : w * 2 ^ k < 18446744073709551616 := by
  have h1 : w * 2 ^ k ≤ 4294967295 * 4294967296 := Nat.mul_le_mul (by unfold BB at hw; omega) (Nat.pow_le_pow_right (by decide) hk)
  omega
theorem toNat1 (i : Nat) : ((i : Int) + 1).toNat = i + 1 := by omega
theorem limb_next (a i : Nat) : a / BB ^ (i + 1) % BB = a / BB ^ i / BB % BB := by
  rw [Nat.pow_succ, Nat.div_div_eq_div_mul]
theorem limb_end {a i : Nat} (h : nl a ≤ i) : a / BB ^ i = 0 := Nat.div_eq_of_lt (nl_le_iff.1 h)
theorem pow_cast' (n : Nat) : (2 : Int) ^ n = ((2 ^ n : Nat) : Int) := by simp
theorem ishiftRight_spec (a n : Nat) (ha : nl a < 2 ^ 40) (hn : n < 32) : Fr Tryz.prog 187 [.one (.ints .u32 (limbs a)), .one (.int .i64 n)] (.ints 92 .u32 (dig (nl a) (a / 2 ^ n))) := by
  have hn' : n ≤ 32 := by omega
  have hn2 : IntKind.i64.wrap (32 - (n : Int)) = 32 - (n : Int) := IntWalk.i64_in _ (by omega)
  have hn3 : (32 - (n : Int)).toNat = 32 - n := by omega
  have hn4 : 32 - n ≤ 64 := by omega
  refine fresh_of_vc T_ok mixed Tryz.func187 rfl (by decide) _ (by simp [Tryz.ntmps187]) ⟨[0, 1, 4, 5, 6, 7, 11, 12, 13, 14, 28], []⟩ (by kernel_rfl) _ trivial ?_
  show vc T _ _ (Option.get! Tryz.f187.body) _ _
  simp only [Tryz.f187,Tryz.ntmps187,Option.get!,iS,iM,eO,J1]
  simp only [vx,T,K5,J0,K6,K7,↓reduceIte,J1,J2,J3,J4,J5,J6,J7,J8,J9,reduceCtorEq,K1,K2,K3,K4]
  refine ⟨⟨by omega, by omega, by omega, by omega⟩, Lk (fun i : {i : Nat × List Int // ShrInv a n (nl a) i.1 i.2} => ⟨[(0, .one (.ints .u32 (limbs a))), (1, .one (.int .i64 n)), (5, .one (.own 1 1 0 (nl a))), (11, .one (.ints .u32 (limbs a))), (12, .one (.int .i64 (nl a))), (13, .one (.int .i64 i.1.1))], [(1, ⟨.ints 92 .u32 i.1.2, true⟩)], 2, 47⟩) (fun i => nl a - i.1.1) ⟨(0, _), ShrInv.init a n (nl a)⟩ ?_ (fun ⟨⟨i, zs⟩, hi⟩ => ?_)⟩
  · refine Sa ?_; simp only [rx,Y0,Y1,Y2,Y3,Y4,Y5,Y6,Y7,ren,↓reduceIte,J1,J2,J3,J4,J5,J6,J7,J8,J9,reduceCtorEq,K1,K2,K3,K4,Y8,Y9,X2,X3,X4]
  have h1 := hi.le
  have h2 := hi.len
  have g1 := hi.get
  simp only at h1 h2 g1
  simp only [vx,T,K5,J0,K6,K7,↓reduceIte,J1,J2,J3,J4,J5,J6,J7,J8,J9,reduceCtorEq,K1,K2,K3,K4,hn',hn2,hn3,hn4]
  refine ⟨fun h => Lg ?_, fun h => Lg ?_⟩
  · simp only [vx,T,K5,J0,K6,K7,↓reduceIte,J1,J2,J3,J4,J5,J6,J7,J8,J9,reduceCtorEq,K1,K2,K3,K4,hn',hn2,hn3,hn4]
    have hy := modBB (a / BB ^ i)
    have hd := shr_dig (a / BB ^ i) n hn'
    have hl := shr_low _ n hn' hy
    have hq := Nat.div_le_self (a / BB ^ i % BB) (2 ^ n)
    simp (disch := omega) only [lG,← X2,← Int.natCast_mul,Int.toNat_natCast,IntWalk.i64_in,IntWalk.u64_in,wrapBB,fdivBB,true_and,and_true,pow_cast,fdivNat]
    refine ⟨by omega, by omega, by omega, ?_⟩
    refine ⟨fun h3 => Lg ?_, fun h3 => Lg ?_⟩
    · simp only [vx,T,K5,J0,K6,K7,↓reduceIte,J1,J2,J3,J4,J5,J6,J7,J8,J9,reduceCtorEq,K1,K2,K3,K4,hn',hn2,hn3,hn4]
      have h4 := getD_set_eq (zs := zs) (i := i) (x := ((a / BB ^ i % BB / 2 ^ n : Nat) : Int)) (by omega)
      have h5 := modBB (a / BB ^ (i + 1))
      have h6 := sh_lt64 (k := 32 - n) h5 (Nat.sub_le 32 n)
      have h7 := or_low' (w := a / BB ^ (i + 1) % BB) (n := 32 - n) (by omega) hl
      rw [← limb_next] at hd
      simp (disch := omega) only [lG,← X2,← Int.natCast_mul,Int.toNat_natCast,IntWalk.i64_in,IntWalk.u64_in,wrapBB,fdivBB,true_and,and_true,toNat1,h4,pow_cast']
      rw [h7]
      refine ⟨by omega, by omega, by omega, by omega, Lq ⟨(i + 1, _), hi.put (by simp only; omega) hd⟩ ?_ ?_⟩
      · refine Sa ?_; simp only [rx,Y0,Y1,Y2,Y3,Y4,Y5,Y6,Y7,ren,↓reduceIte,J1,J2,J3,J4,J5,J6,J7,J8,J9,reduceCtorEq,K1,K2,K3,K4,Y8,Y9,X2,X3,X4]
        rw [List.set_set]
      simp only; omega
    simp only [vx,T,K5,J0,K6,K7,↓reduceIte,J1,J2,J3,J4,J5,J6,J7,J8,J9,reduceCtorEq,K1,K2,K3,K4,hn',hn2,hn3,hn4]
    rw [← limb_next, limb_end (a := a) (i := i + 1) (by omega)] at hd
    simp only [Nat.zero_mod,Nat.zero_mul,Nat.add_zero] at hd
    simp (disch := omega) only [lG,← X2,← Int.natCast_mul,Int.toNat_natCast,IntWalk.i64_in,IntWalk.u64_in,wrapBB,fdivBB,true_and,and_true,toNat1]
    refine Lq ⟨(i + 1, _), hi.put (by simp only; omega) hd⟩ ?_ ?_
    · refine Sa ?_; simp only [rx,Y0,Y1,Y2,Y3,Y4,Y5,Y6,Y7,ren,↓reduceIte,J1,J2,J3,J4,J5,J6,J7,J8,J9,reduceCtorEq,K1,K2,K3,K4,Y8,Y9,X2,X3,X4]
    simp only; omega
  simp only [vx,T,K5,J0,K6,K7,↓reduceIte,J1,J2,J3,J4,J5,J6,J7,J8,J9,reduceCtorEq,K1,K2,K3,K4]
  have hia : i = nl a := by omega
  subst hia
  exact ⟨(dig_length _ _).symm, rfl, hi.done (lt_of_nl a)⟩
theorem rback_spec (a n : Nat) (ha : nl a < 2 ^ 40) (hn : n < 32) : Pr Tryz.prog 96 [.one (.ints .u32 (limbs a)), .one (.int .i64 n)] (.one (.ints .u32 (limbs (a / 2 ^ n)))) := by
  have hn' : n ≤ 64 := by omega
  refine pv T_ok mixed Tryz.func96 rfl (by decide) _ (by simp [Tryz.ntmps96]) ⟨[0, 1, 4, 5, 6, 7, 14, 26], []⟩ (by kernel_rfl) _ ?_
  show vc T _ _ (Option.get! Tryz.f96.body) _ _
  simp only [Tryz.f96,Tryz.ntmps96,Option.get!,iS,iM,eO,J1]
  simp only [vx,T,K5,J0,K6,K7,↓reduceIte,J1,J2,J3,J4,J5,J6,J7,J8,J9,reduceCtorEq,K1,K2,K3,K4]
  refine ⟨⟨by omega, by omega, by omega, by omega⟩, Lk (fun i : {i : Nat × List Int // ShrInv a n (nl a) i.1 i.2} => ⟨[(0, .one (.ints .u32 (limbs a))), (1, .one (.int .i64 n)), (5, .one (.own 1 1 0 (nl a))), (6, .one (.int .i64 i.1.1))], [(1, ⟨.ints 92 .u32 i.1.2, true⟩)], 2, 45⟩) (fun i => nl a - i.1.1) ⟨(0, _), ShrInv.init a n (nl a)⟩ ?_ (fun ⟨⟨i, zs⟩, hi⟩ => ?_)⟩
  · refine Sa ?_; simp only [rx,Y0,Y1,Y2,Y3,Y4,Y5,Y6,Y7,ren,↓reduceIte,J1,J2,J3,J4,J5,J6,J7,J8,J9,reduceCtorEq,K1,K2,K3,K4,Y8,Y9,X2,X3,X4]
  have h1 := hi.le
  have h2 := hi.len
  have g1 := hi.get
  simp only at h1 h2 g1
  simp only [vx,T,K5,J0,K6,K7,↓reduceIte,J1,J2,J3,J4,J5,J6,J7,J8,J9,reduceCtorEq,K1,K2,K3,K4,hn']
  refine ⟨fun h => Lg ?_, fun h => Lg ?_⟩
  · simp only [vx,T,K5,J0,K6,K7,↓reduceIte,J1,J2,J3,J4,J5,J6,J7,J8,J9,reduceCtorEq,K1,K2,K3,K4,hn']
    have hy := modBB (a / BB ^ i)
    have hd := shr_dig2 (a / BB ^ i) n (by omega)
    simp (disch := omega) only [lG,← X2,← Int.natCast_mul,Int.toNat_natCast,IntWalk.i64_in,IntWalk.u64_in,wrapBB,fdivBB,true_and,and_true,pow_cast,fdivNat]
    refine ⟨by omega, ?_⟩
    refine ⟨fun h3 => Lg ?_, fun h3 => Lg ?_⟩
    · simp only [vx,T,K5,J0,K6,K7,↓reduceIte,J1,J2,J3,J4,J5,J6,J7,J8,J9,reduceCtorEq,K1,K2,K3,K4,hn']
      have h5 := modBB (a / BB ^ (i + 1))
      have h7 := or_high hy h5
      rw [← limb_next] at hd
      simp (disch := omega) only [lG,← X2,← Int.natCast_mul,Int.toNat_natCast,IntWalk.i64_in,IntWalk.u64_in,wrapBB,fdivBB,true_and,and_true,toNat1]
      simp only [h7,pow_cast',fdivNat,wrapBB,hd]
      refine ⟨by omega, by omega, by omega, Lq ⟨(i + 1, _), hi.put (by simp only; omega) rfl⟩ ?_ ?_⟩
      · refine Sa ?_; simp only [rx,Y0,Y1,Y2,Y3,Y4,Y5,Y6,Y7,ren,↓reduceIte,J1,J2,J3,J4,J5,J6,J7,J8,J9,reduceCtorEq,K1,K2,K3,K4,Y8,Y9,X2,X3,X4]
      simp only; omega
    simp only [vx,T,K5,J0,K6,K7,↓reduceIte,J1,J2,J3,J4,J5,J6,J7,J8,J9,reduceCtorEq,K1,K2,K3,K4,hn']
    rw [← limb_next, limb_end (a := a) (i := i + 1) (by omega)] at hd
    simp only [Nat.zero_mod,Nat.zero_mul,Nat.add_zero] at hd
    simp (disch := omega) only [lG,← X2,← Int.natCast_mul,Int.toNat_natCast,IntWalk.i64_in,IntWalk.u64_in,wrapBB,fdivBB,true_and,and_true,toNat1]
    simp only [pow_cast',fdivNat,wrapBB,hd]
    refine ⟨by omega, by omega, Lq ⟨(i + 1, _), hi.put (by simp only; omega) rfl⟩ ?_ ?_⟩
    · refine Sa ?_; simp only [rx,Y0,Y1,Y2,Y3,Y4,Y5,Y6,Y7,ren,↓reduceIte,J1,J2,J3,J4,J5,J6,J7,J8,J9,reduceCtorEq,K1,K2,K3,K4,Y8,Y9,X2,X3,X4]
    simp only; omega
  simp only [vx,T,K5,J0,K6,K7,↓reduceIte,J1,J2,J3,J4,J5,J6,J7,J8,J9,reduceCtorEq,K1,K2,K3,K4]
  have hia : i = nl a := by omega
  subst hia
  have hr := hi.inr
  have hv := hi.done (lt_of_nl a)
  simp only at hr hv
  have hv2 : val zs = a / 2 ^ n := by rw [hv, val_dig_lt (Nat.lt_of_le_of_lt (Nat.div_le_self _ _) (lt_of_nl a))]
  rw [List.take_of_length_le (by omega)]
  refine Cg (rtrim_spec _ hr (by omega)) ?_
  rw [hv2]
  simp only [vx,T,K5,J0,K6,K7,↓reduceIte,J1,J2,J3,J4,J5,J6,J7,J8,J9,reduceCtorEq,K1,K2,K3,K4]
  refine Va ?_; simp only [vLe,vLeL,rx,Y0,Y1,Y2,Y3,Y4,Y5,Y6,Y7,ren,↓reduceIte,J1,J2,J3,J4,J5,J6,J7,J8,J9,reduceCtorEq,K1,K2,K3,K4]
end Go.Proofs.YtpogdlmhmafjlaaGreat
