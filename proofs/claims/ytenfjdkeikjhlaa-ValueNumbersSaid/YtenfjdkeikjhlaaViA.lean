/-
  The abstract machine: a deterministic interpreter of the model's code, over values whose addresses are names of abstract blocks; no tape, no schedule, no capacity is drawn.
-/
import Derived.Orders
set_option autoImplicit false
namespace Go.VI

/-! ### 0. By sight: what the kernel computes fast -/
theorem beq_iff (a b : Nat) : a.beq b = decide (a = b) := by
  cases h : a.beq b
  · have h2 : ¬ a = b := fun e => by subst e; rw [Nat.beq_refl] at h; cases h
    simp [h2]
  · have h2 := Nat.eq_of_beq_eq_true h
    simp [h2]
def ltI : Int → Int → Bool
  | .ofNat a, .ofNat b => Nat.blt a b
  | .ofNat _, .negSucc _ => false
  | .negSucc _, .ofNat _ => true
  | .negSucc a, .negSucc b => Nat.blt b a
def eqI : Int → Int → Bool
  | .ofNat a, .ofNat b => Nat.beq a b
  | .negSucc a, .negSucc b => Nat.beq a b
  | _, _ => false
theorem blt_iff (a b : Nat) : a.blt b = decide (a < b) := by
  rw [Bool.eq_iff_iff, decide_eq_true_iff]; exact iff_of_eq Nat.blt_eq
theorem ltI_eq (a b : Int) : ltI a b = decide (a < b) := by
  cases a <;> cases b <;> simp only [ltI, blt_iff, Int.ofNat_eq_natCast, Int.negSucc_eq]
  · rename_i a b; by_cases h : a < b <;> simp [h]
  · rename_i a b; symm; rw [decide_eq_false_iff_not]; omega
  · rename_i a b; symm; rw [decide_eq_true_iff]; omega
  · rename_i a b; by_cases h : b < a
    · rw [decide_eq_true h]; symm; rw [decide_eq_true_iff]; omega
    · rw [decide_eq_false h]; symm; rw [decide_eq_false_iff_not]; omega
theorem eqI_eq (a b : Int) : eqI a b = decide (a = b) := by
  cases a <;> cases b <;> simp only [eqI, beq_iff, Int.ofNat_eq_natCast, Int.negSucc_eq]
  · rename_i a b; by_cases h : a = b
    · simp [h]
    · rw [decide_eq_false h]; symm; rw [decide_eq_false_iff_not]; omega
  · rename_i a b; symm; rw [decide_eq_false_iff_not]; omega
  · rename_i a b; symm; rw [decide_eq_false_iff_not]; omega
  · rename_i a b; by_cases h : a = b
    · simp [h]
    · rw [decide_eq_false h]; symm; rw [decide_eq_false_iff_not]; omega
theorem wrap_in (n : Int) (h0 : -9223372036854775808 ≤ n) (h1 : n < 9223372036854775808) : IntKind.i64.wrap n = n := by
  unfold IntKind.wrap IntKind.bits IntKind.signed
  simp only [Bool.true_and]
  split
  · rename_i h; have h := of_decide_eq_true h; omega
  · rename_i h
    have h : ¬ (n % 2 ^ 64 ≥ 2 ^ (64 - 1)) := fun e => h (decide_eq_true e)
    omega
def wrapA (k : IntKind) (n : Int) : Int :=
  match k, n with
  | .i64, .ofNat a => match Nat.blt a 9223372036854775808 with
    | true => .ofNat a
    | false => IntKind.i64.wrap (.ofNat a)
  | .i64, .negSucc a => match Nat.blt a 9223372036854775808 with
    | true => .negSucc a
    | false => IntKind.i64.wrap (.negSucc a)
  | k, n => k.wrap n
theorem wrapA_eq (k : IntKind) (n : Int) : wrapA k n = k.wrap n := by
  unfold wrapA
  split
  · rename_i a
    split
    · rename_i h; rw [blt_iff, decide_eq_true_iff] at h
      exact (wrap_in _ (by simp only [Int.ofNat_eq_natCast]; omega) (by simp only [Int.ofNat_eq_natCast]; omega)).symm
    · rfl
  · rename_i a
    split
    · rename_i h; rw [blt_iff, decide_eq_true_iff] at h
      exact (wrap_in _ (by rw [Int.negSucc_eq]; omega) (by rw [Int.negSucc_eq]; omega)).symm
    · rfl
  · rfl
def eqS : List UInt8 → List UInt8 → Bool
  | [], [] => true
  | a :: r, b :: s => match Nat.beq a.toNat b.toNat with
    | true => eqS r s
    | false => false
  | _, _ => false
theorem eqS_eq : ∀ a b : List UInt8, eqS a b = decide (a = b)
  | [], [] => rfl
  | [], _ :: _ => rfl
  | _ :: _, [] => rfl
  | a :: r, b :: s => by
    unfold eqS
    rw [beq_iff]
    by_cases h : a = b
    · subst h; rw [decide_eq_true rfl]; simp only [eqS_eq r s, List.cons.injEq, true_and]
    · have h' : ¬ a.toNat = b.toNat := fun e => h (UInt8.toNat_inj.1 e)
      rw [decide_eq_false h']; symm; rw [decide_eq_false_iff_not]; intro e; injection e with e1 _; exact h e1

/-! ### 1. Values, blocks, tries -/
mutual
inductive Loc where
  | mt (b : Nat)
  | im (cells : List AV)
inductive AV where
  | bool (b : Bool)
  | int (k : IntKind) (n : Int)
  | str (s : List UInt8)
  | nilp
  | ptr (l : Loc) (off : Nat)
  | nils
  | sl (l : Loc) (off len cap : Nat)
  | nilm
  | map (b : Nat)
  | fn (f : Fn) (first captured : List AV)
  | nilf
  | ifc (t : TypeId) (v : AV)
  | nili
  | agg (cells : List AV)
  | tup (vs : List AV)
end

/-- A map from numbers. -/
inductive Tr (α : Type) where
  | lf
  | nd (v : Option α) (l r : Tr α)
def Tr.get {α : Type} : Tr α → Nat → Option α
  | .lf, _ => none
  | .nd v l r, k => match k.beq 0, (k % 2).beq 1 with
    | true, _ => v
    | _, true => l.get (k / 2)
    | _, _ => r.get (k / 2 - 1)
def Tr.setF {α : Type} : Nat → Tr α → Nat → α → Tr α
  | 0, t, _, _ => t
  | f + 1, .lf, k, x => match k.beq 0, (k % 2).beq 1 with
    | true, _ => .nd (some x) .lf .lf
    | _, true => .nd none (Tr.setF f .lf (k / 2) x) .lf
    | _, _ => .nd none .lf (Tr.setF f .lf (k / 2 - 1) x)
  | f + 1, .nd v l r, k, x => match k.beq 0, (k % 2).beq 1 with
    | true, _ => .nd (some x) l r
    | _, true => .nd v (Tr.setF f l (k / 2) x) r
    | _, _ => .nd v l (Tr.setF f r (k / 2 - 1) x)
def Tr.set {α : Type} (t : Tr α) (k : Nat) (x : α) : Tr α := Tr.setF (k + 1) t k x

theorem Tr.get_lf {α : Type} (k : Nat) : (Tr.lf : Tr α).get k = none := by simp [Tr.get]
theorem Tr.get_setF {α : Type} (x : α) : ∀ (f : Nat) (t : Tr α) (k j : Nat), k < f → (Tr.setF f t k x).get j = if j = k then some x else t.get j
  | 0, _, _, _, h => absurd h (Nat.not_lt_zero _)
  | f + 1, t, k, j, h => by
    by_cases h0 : k = 0
    · subst h0
      cases t <;> by_cases hj : j = 0 <;> by_cases h2 : j % 2 = 1 <;> simp [Tr.setF, Tr.get, beq_iff, hj, h2]
    · have ih1 := fun t => Tr.get_setF x f t (k / 2) (j / 2) (by omega)
      have ih2 := fun t => Tr.get_setF x f t (k / 2 - 1) (j / 2 - 1) (by omega)
      by_cases hj : j = 0
      · subst hj
        have h0' : ¬ 0 = k := fun e => h0 e.symm
        cases t <;> by_cases h1 : k % 2 = 1 <;> simp [Tr.setF, Tr.get, beq_iff, h0, h0', h1]
      · by_cases h1 : k % 2 = 1 <;> by_cases h2 : j % 2 = 1
        · have e1 : (j / 2 = k / 2) = (j = k) := by apply propext; omega
          cases t <;> simp [Tr.setF, Tr.get, beq_iff, h0, hj, h1, h2, ih1, e1]
        · have e1 : ¬ j = k := by omega
          cases t <;> simp [Tr.setF, Tr.get, beq_iff, h0, hj, h1, h2, e1]
        · have e1 : ¬ j = k := by omega
          cases t <;> simp [Tr.setF, Tr.get, beq_iff, h0, hj, h1, h2, e1]
        · have e1 : (j / 2 - 1 = k / 2 - 1) = (j = k) := by apply propext; omega
          cases t <;> simp [Tr.setF, Tr.get, beq_iff, h0, hj, h1, h2, ih2, e1]
theorem Tr.get_set {α : Type} (t : Tr α) (k j : Nat) (x : α) : (t.set k x).get j = if j = k then some x else t.get j := Tr.get_setF x _ t k j (Nat.lt_succ_self k)
theorem Tr.get_set_eq {α : Type} (t : Tr α) (k : Nat) (x : α) : (t.set k x).get k = some x := by rw [Tr.get_set, if_pos rfl]
theorem Tr.get_set_ne {α : Type} (t : Tr α) {k j : Nat} (x : α) (h : j ≠ k) : (t.set k x).get j = t.get j := by rw [Tr.get_set, if_neg h]

/-- A block: a row of cells (of which type; is its true capacity unknown; its family and its place there), a map, an iterator over a string, or one that may no longer be looked at. -/
inductive AObj where
  | row (cells : List AV) (elem : TypeId) (opn : Bool) (fam : Option (Nat × Nat))
  | map (es : List (AV × AV))
  | siter (s : List UInt8) (pos : Nat)
  | dead

/-- The abstract heap: how many blocks, which, and of each family who alone may be read (none: all), and which is the longest. -/
structure AH where
  n : Nat
  o : Tr AObj
  f : Tr (Option Nat × Nat)
def AH.empty : AH := ⟨0, .lf, .lf⟩
def AH.push (h : AH) (x : AObj) : AH := ⟨h.n + 1, h.o.set h.n x, h.f⟩
def AH.put (h : AH) (b : Nat) (x : AObj) : AH := ⟨h.n, h.o.set b x, h.f⟩

/-- The object at a place, if it may be read. -/
def AH.at (h : AH) (b : Nat) : Option AObj :=
  match h.o.get b with
  | some (.row cells e op (some (f, p))) =>
    match h.f.get f with
    | some (none, _) => some (.row cells e op (some (f, p)))
    | some (some j, _) => if j = b then some (.row cells e op (some (f, p))) else none
    | none => none
  | some .dead => none
  | x => x

/-- The cells behind a place. -/
def AH.cellsOf (h : AH) : Loc → Option (List AV)
  | .im cells => some cells
  | .mt b => match h.at b with
    | some (.row cells _ _ _) => some cells
    | _ => none
def AH.read (h : AH) (l : Loc) (off n : Nat) : Option (List AV) :=
  match h.cellsOf l with
  | some cells => match Nat.ble (off + n) cells.length with
    | true => some ((cells.drop off).take n)
    | false => none
  | none => none
def splice (cells : List AV) (off : Nat) (vs : List AV) : List AV := cells.take off ++ vs ++ cells.drop (off + vs.length)
/-- what one cell can hold -/
def AV.one : AV → Bool
  | .agg _ => false
  | .tup _ => false
  | _ => true
def ones : List AV → Bool
  | [] => true
  | v :: r => match v.one with
    | true => ones r
    | false => false
/-- Cells are written: whoever else may share them is no longer read. -/
def AH.write (h : AH) (l : Loc) (off : Nat) (vs : List AV) : Option AH :=
  match l with
  | .im _ => none
  | .mt b => match h.at b with
    | some (.row cells e op fam) =>
      match Nat.ble (off + vs.length) cells.length && ones vs, fam with
      | true, none => some (h.put b (.row (splice cells off vs) e op none))
      | true, some (f, p) => some ⟨h.n, h.o.set b (.row (splice cells off vs) e op (some (f, p))), h.f.set f (some b, b)⟩
      | false, _ => none
    | _ => none

/-! ### 2. Types -/
def csz (P : Program) (t : TypeId) : Option Nat := (P.info? t).map (·.size)
def byt (P : Program) (t : TypeId) : Option Nat := (P.info? t).map (·.bytes)
def isAggB (P : Program) (t : TypeId) : Option Bool :=
  match P.underlying t with
  | some (.struct _) | some (.array _ _) => some true
  | some _ => some false
  | none => none

def ofCell : Value → Option AV
  | .bool b => some (.bool b)
  | .int k n => some (.int k n)
  | .string s => some (.str s.data.toList)
  | .pointer none => some .nilp
  | .slice none 0 0 => some .nils
  | .map none => some .nilm
  | .nilFunc => some .nilf
  | .nilIface => some .nili
  | _ => none
def ofCells : List Value → Option (List AV)
  | [] => some []
  | v :: r => match ofCell v, ofCells r with
    | some a, some l => some (a :: l)
    | _, _ => none
def ofValue : Value → Option AV
  | .agg cs => (ofCells cs.toList).map .agg
  | .tuple vs => (ofCells vs.toList).map .tup
  | .func f first captured => if first.size = 0 ∧ captured.size = 0 then some (.fn f [] []) else none
  | v => ofCell v
def zeroOf (P : Program) (t : TypeId) : Option AV :=
  match P.info? t with
  | some i => match i.zero with
    | some v => ofValue v
    | none => none
  | none => none
def AV.cells : AV → List AV
  | .agg cs => cs
  | v => [v]

abbrev Env := Tr AV
def Env.val (e : Env) (t : Nat) : AV := (e.get t).getD (.tup [])
def ev (e : Env) : Operand → Option AV
  | .tmp t => some (e.val t)
  | .const v => ofValue v
  | .global _ => none
  | .func f => some (.fn (.func f) [] [])
def evs (e : Env) : List Operand → Option (List AV)
  | [] => some []
  | x :: r => match ev e x, evs e r with
    | some a, some l => some (a :: l)
    | _, _ => none

/-! ### 3. Operations on values -/
def partOf (P : Program) (t : TypeId) (cs : List AV) (off : Nat) : Option AV :=
  match isAggB P t, csz P t with
  | some true, some s => if off + s ≤ cs.length then some (.agg ((cs.drop off).take s)) else none
  | some false, _ => cs[off]?
  | _, _ => none
def fillA (place : Nat → Option (Nat × Nat)) (cells : List AV) : List (Nat × AV) → Option (List AV)
  | [] => some cells
  | (i, v) :: rest =>
    match place i with
    | none => none
    | some (off, size) => if v.cells.length = size ∧ off + size ≤ cells.length then fillA place (splice cells off v.cells) rest else none
def fieldPlaces (P : Program) : List Field → Option (List (Nat × Nat))
  | [] => some []
  | f :: r => match csz P f.type, fieldPlaces P r with
    | some s, some l => some ((f.offset, s) :: l)
    | _, _ => none
def evParts (e : Env) : List (Nat × Operand) → Option (List (Nat × AV))
  | [] => some []
  | (i, x) :: r => match ev e x, evParts e r with
    | some a, some l => some ((i, a) :: l)
    | _, _ => none
def reps (n : Nat) (z : List AV) : List AV := (List.replicate n z).flatten

/-- '==' of values that are numbers, bools, strings, nil, or structs of such. -/
def eqA (P : Program) : Nat → TypeId → AV → AV → Option Bool
  | 0, _, _, _ => none
  | d + 1, t, x, y =>
    match P.underlying t, x, y with
    | some .bool, .bool a, .bool b => some (a == b)
    | some (.int _), .int k a, .int k' b => if k = k' then some (eqI a b) else none
    | some .string, .str a, .str b => some (eqS a b)
    | some (.pointer _), .nilp, .nilp => some true
    | some (.pointer _), .nilp, .ptr _ _ => some false
    | some (.pointer _), .ptr _ _, .nilp => some false
    | some (.slice _), .nils, .nils => some true
    | some (.slice _), .nils, .sl _ _ _ _ => some false
    | some (.slice _), .sl _ _ _ _, .nils => some false
    | some (.map _ _), .nilm, .nilm => some true
    | some (.map _ _), .nilm, .map _ => some false
    | some (.map _ _), .map _, .nilm => some false
    | some (.func _ _ _), .nilf, .nilf => some true
    | some (.func _ _ _), .nilf, .fn _ _ _ => some false
    | some (.func _ _ _), .fn _ _ _, .nilf => some false
    | some (.interface _), .nili, .nili => some true
    | some (.interface _), .nili, .ifc _ _ => some false
    | some (.interface _), .ifc _ _, .nili => some false
    | some (.interface _), .ifc tx vx, .ifc ty vy =>
      if tx ≠ ty then some false
      else match P.info? tx with
        | some i => if i.comparable then eqA P d tx vx vy else none
        | none => none
    | some (.struct fields), .agg xs, .agg ys =>
      if P.stoodInHeld t then none else eqFields (eqA P d) fields.toList xs ys
    | _, _, _ => none
  where
  eqFields (eq : TypeId → AV → AV → Option Bool) : List Field → List AV → List AV → Option Bool
    | [], _, _ => some true
    | f :: r, xs, ys =>
      if f.name ≠ "_" then
        match partOf P f.type xs f.offset, partOf P f.type ys f.offset with
        | some a, some b => match eq f.type a b with
          | some true => eqFields eq r xs ys
          | some false => some false
          | none => none
        | _, _ => none
      else eqFields eq r xs ys

def strLess : List UInt8 → List UInt8 → Bool
  | _, [] => false
  | [], _ :: _ => true
  | a :: x, b :: y => a < b || (a == b && strLess x y)
def strOp (op : BinOp) (a b : List UInt8) : Option AV :=
  match op with
  | .add => if a.length + b.length < 4611686018427387904 then some (.str (a ++ b)) else none
  | .eql => some (.bool (eqS a b))
  | .neq => some (.bool !(eqS a b))
  | .lss => some (.bool (strLess a b))
  | .leq => some (.bool (strLess a b || eqS a b))
  | .gtr => some (.bool !(strLess a b || eqS a b))
  | .geq => some (.bool !(strLess a b))
  | _ => none
def bitsOp (op : BinOp) (k : IntKind) (x y : Int) : Option AV :=
  let a := BitVec.ofInt k.bits x
  let b := BitVec.ofInt k.bits y
  match op with
  | .and => some (.int k (k.wrap (a &&& b).toNat))
  | .or => some (.int k (k.wrap (a ||| b).toNat))
  | .xor => some (.int k (k.wrap (a ^^^ b).toNat))
  | .andNot => some (.int k (k.wrap (a &&& ~~~b).toNat))
  | _ => none
def intOp (op : BinOp) (k : IntKind) (x y : Int) : Option AV :=
  match op with
  | .add => some (.int k (wrapA k (x + y)))
  | .sub => some (.int k (wrapA k (x - y)))
  | .mul => some (.int k (wrapA k (x * y)))
  | .quo => match eqI y 0 with | true => none | false => some (.int k (wrapA k (x.tdiv y)))
  | .rem => match eqI y 0 with | true => none | false => some (.int k (x.tmod y))
  | .eql => some (.bool (eqI x y))
  | .neq => some (.bool (!eqI x y))
  | .lss => some (.bool (ltI x y))
  | .leq => some (.bool (!ltI y x))
  | .gtr => some (.bool (ltI y x))
  | .geq => some (.bool (!ltI x y))
  | .shl | .shr => none
  | op => bitsOp op k x y
def shiftOp (op : BinOp) (k : IntKind) (x y : Int) : Option AV :=
  if y < 0 then none else
  match op with
  | .shl => some (.int k (k.wrap (x * 2 ^ (min y.toNat k.bits))))
  | .shr => some (.int k (x.fdiv (2 ^ (min y.toNat k.bits))))
  | _ => none
/-- The guard of '==' on structs and nil interfaces: may the model answer? -/
def eqOk (P : Program) (t : TypeId) (x y : AV) (cx cy : Bool) : Bool :=
  match x, y with
  | .nili, .nili => cx || cy
  | .agg _, .agg _ => !(P.eqGuardType P.depth t)
  | _, _ => true
def binA (P : Program) (op : BinOp) (t : TypeId) (x y : AV) (cx cy : Bool) : Option AV :=
  match op, x, y with
  | .shl, .int k a, .int _ b => shiftOp .shl k a b
  | .shr, .int k a, .int _ b => shiftOp .shr k a b
  | op, .int k a, .int k' b => if k = k' then intOp op k a b else none
  | op, .str a, .str b => strOp op a b
  | .eql, x, y => if eqOk P t x y cx cy then (eqA P 10000 t x y).map .bool else none
  | .neq, x, y => if eqOk P t x y cx cy then (eqA P 10000 t x y).map fun b => .bool !b else none
  | _, _, _ => none
def unA (op : UnOp) (x : AV) : Option AV :=
  match op, x with
  | .neg, .int k n => some (.int k (wrapA k (0 - n)))
  | .not, .bool b => some (.bool !b)
  | _, _ => none
def isConstO : Operand → Bool
  | .const _ => true
  | _ => false
def bound (v : AV) (y : Nat) : Option Nat :=
  match v with
  | .int _ (.ofNat k) => match Nat.ble k y with
    | true => some k
    | false => none
  | _ => none
def optBound (v : Option AV) (y d : Nat) : Option Nat :=
  match v with
  | none => some d
  | some v => bound v y
/-- s[lo:hi] -/
def sliceStr (s : List UInt8) (lo hi : Option AV) : Option AV :=
  match optBound hi s.length s.length with
  | some h => match optBound lo h 0 with
    | some l => some (.str ((s.take h).drop l))
    | none => none
  | none => none
def optEv (e : Env) : Option Operand → Option (Option AV)
  | none => some none
  | some x => (ev e x).map some

/-! Each operation is a small function of its own. -/
def doPick (e : Env) (c a b : Operand) : Option AV :=
  match ev e c with
  | some (.bool true) => ev e a
  | some (.bool false) => ev e b
  | _ => none
def buildStruct (P : Program) (fields : List Field) (z : AV) (ps : List (Nat × AV)) : Option AV :=
  match fieldPlaces P fields with
  | some pl => (fillA (pl[·]?) z.cells ps).map .agg
  | none => none
def buildArray (P : Program) (elem : TypeId) (z : AV) (ps : List (Nat × AV)) : Option AV :=
  match csz P elem with
  | some s => (fillA (fun i => some (i * s, s)) z.cells ps).map .agg
  | none => none
def doBuild (P : Program) (e : Env) (t : TypeId) (parts : Array (Nat × Operand)) : Option AV :=
  match zeroOf P t, P.underlying t, evParts e parts.toList with
  | some z, some (.struct fields), some ps => buildStruct P fields.toList z ps
  | some z, some (.array _ elem), some ps => buildArray P elem z ps
  | _, _, _ => none
def doNil (e : Env) (x : Operand) : Option AV :=
  match ev e x with
  | some (.ptr l o) => some (.ptr l o)
  | some (.fn (.func f) a b) => some (.fn (.func f) a b)
  | some (.ifc t v) => some (.ifc t v)
  | _ => none
def doBin (P : Program) (e : Env) (op : BinOp) (t : TypeId) (x y : Operand) : Option AV :=
  match ev e x, ev e y with
  | some a, some b => binA P op t a b (isConstO x) (isConstO y)
  | _, _ => none
def doUn (e : Env) (op : UnOp) (x : Operand) : Option AV :=
  match ev e x with
  | some a => unA op a
  | none => none
def doIfc (P : Program) (e : Env) (t : TypeId) (x : Operand) : Option AV :=
  match P.underlying t, ev e x with
  | some (.interface _), _ => none
  | some _, some v => some (.ifc t v)
  | _, _ => none
def doFunc (e : Env) (f : Fn) (first captured : Array Operand) : Option AV :=
  match evs e first.toList, evs e captured.toList with
  | some a, some b => some (.fn f a b)
  | _, _ => none
def doFieldAddr (P : Program) (e : Env) (s : TypeId) (x : Operand) (f : Nat) : Option AV :=
  match P.underlying s, ev e x with
  | some (.struct fields), some (.ptr l o) => match fields[f]? with
    | some fd => match csz P fd.type with
      | some (_ + 1) => some (.ptr l (o + fd.offset))
      | _ => none
    | none => none
  | _, _ => none
def doField (P : Program) (e : Env) (s : TypeId) (x : Operand) (f : Nat) : Option AV :=
  match P.underlying s, ev e x with
  | some (.struct fields), some (.agg cs) => match fields[f]? with
    | some fd => partOf P fd.type cs fd.offset
    | none => none
  | _, _ => none
def inB (i : Int) (n : Nat) : Option Nat :=
  match i with
  | .ofNat k => match Nat.blt k n with
    | true => some k
    | false => none
  | .negSucc _ => none
def idxAddr (P : Program) (elem : TypeId) (l : Loc) (o n : Nat) (i : Int) : Option AV :=
  match csz P elem, inB i n with
  | some s, some k => some (.ptr l (o + k * s))
  | _, _ => none
def doIndexAddr (P : Program) (e : Env) (t : TypeId) (x i : Operand) : Option AV :=
  match P.underlying t, ev e x, ev e i with
  | some (.slice elem), some (.sl l o len _), some (.int _ i) => idxAddr P elem l o len i
  | some (.array len elem), some (.ptr l o), some (.int _ i) => idxAddr P elem l o len i
  | _, _, _ => none
def idxArr (P : Program) (elem : TypeId) (cs : List AV) (n : Nat) (i : Int) : Option AV :=
  match csz P elem, inB i n with
  | some s, some k => partOf P elem cs (k * s)
  | _, _ => none
def idxStr (s : List UInt8) (i : Int) : Option AV :=
  match i with
  | .ofNat k => (s[k]?).map fun b => .int .u8 b.toNat
  | .negSucc _ => none
def doIndex (P : Program) (e : Env) (t : TypeId) (x i : Operand) : Option AV :=
  match P.underlying t, ev e x, ev e i with
  | some .string, some (.str s), some (.int _ i) => idxStr s i
  | some (.array len elem), some (.agg cs), some (.int _ i) => idxArr P elem cs len i
  | _, _, _ => none
def doAssert (P : Program) (e : Env) (x : Operand) (asserted : TypeId) (ok : Bool) : Option AV :=
  match P.underlying asserted, ev e x with
  | some (.interface _), _ => none
  | some _, some (.ifc t v) =>
    if t = asserted then some (if ok then .tup [v, .bool true] else v)
    else if ok then (zeroOf P asserted).map fun z => .tup [z, .bool false] else none
  | some _, some .nili => if ok then (zeroOf P asserted).map fun z => .tup [z, .bool false] else none
  | _, _ => none
def doExtract (e : Env) (x : Operand) (i : Nat) : Option AV :=
  match ev e x with
  | some (.tup vs) => vs[i]?
  | _ => none

def doLoad (P : Program) (e : Env) (h : AH) (t : TypeId) (x : Operand) : Option AV :=
  match ev e x, isAggB P t, csz P t with
  | some (.ptr l o), some true, some s => (h.read l o s).map .agg
  | some (.ptr l o), some false, _ => match h.read l o 1 with
    | some [v] => some v
    | _ => none
  | _, _, _ => none
def highOf (hi mx : Option AV) (len m : Nat) : Option Nat :=
  match hi with
  | none => match mx.isSome, Nat.ble len m with
    | false, true => some len
    | _, _ => none
  | some v => bound v m
def sliceNil (lo hi mx : Option AV) : Option AV :=
  match optBound mx 0 0, highOf hi mx 0 0, optBound lo 0 0 with
  | some _, some _, some _ => some .nils
  | _, _, _ => none
/-- May a slice of that element type be cut in that block? Of an open one the bound is told where it stands at its end. -/
def cutOk (h : AH) (el : TypeId) (l : Loc) : Bool :=
  match l with
  | .im _ => true
  | .mt b => match h.at b with
    | some (.row _ el' op _) => !op || Nat.beq el' el
    | _ => false
def atEnd (h : AH) (l : Loc) (n : Nat) : Bool :=
  match l with
  | .im _ => false
  | .mt b => match h.at b with
    | some (.row cells _ op _) => op && Nat.beq cells.length n
    | _ => true
def closed (h : AH) (l : Loc) : Bool :=
  match l with
  | .im _ => true
  | .mt b => match h.at b with
    | some (.row _ _ op _) => !op
    | _ => false
/-- x[lo:hi]; of a block that may be open a bound on the capacity is not served at its end. -/
def sliceSl (h : AH) (el : TypeId) (esz : Nat) (l : Loc) (off len cap : Nat) (lo hi mx : Option AV) : Option AV :=
  match optBound mx cap cap with
  | none => none
  | some m =>
    match cutOk h el l, mx.isSome && atEnd h l (off + m * esz) with
    | true, false =>
      match highOf hi mx len m with
      | none => none
      | some b => match optBound lo b 0 with
        | none => none
        | some a => match Nat.ble a m with
          | true => some (.sl l (off + a * esz) (b - a) (m - a))
          | false => none
    | _, _ => none
def sliceArr (h : AH) (esz : Nat) (l : Loc) (off n : Nat) (lo hi mx : Option AV) : Option AV :=
  match optBound mx n n, closed h l with
  | some m, true =>
    match highOf hi mx n m with
    | none => none
    | some b => match optBound lo b 0 with
      | none => none
      | some a => some (.sl l (off + a * esz) (b - a) (m - a))
  | _, _ => none
def sliceBy (P : Program) (h : AH) (d : TypeDesc) (x : AV) (lo hi mx : Option AV) : Option AV :=
  match d, x with
  | .string, .str s => if mx.isSome then none else sliceStr s lo hi
  | .slice elem, .nils => match csz P elem with
    | some _ => sliceNil lo hi mx
    | none => none
  | .slice elem, .sl l o len cap => match csz P elem with
    | some (s + 1) => sliceSl h elem (s + 1) l o len cap lo hi mx
    | _ => none
  | .array n elem, .ptr l o => match csz P elem with
    | some (s + 1) => sliceArr h (s + 1) l o n lo hi mx
    | _ => none
  | _, _ => none
def doSlice (P : Program) (e : Env) (h : AH) (t : TypeId) (x : Operand) (lo hi mx : Option Operand) : Option AV :=
  match P.underlying t, ev e x, optEv e lo, optEv e hi, optEv e mx with
  | some d, some v, some lo, some hi, some mx => sliceBy P h d v lo hi mx
  | _, _, _, _, _ => none
def bytesOf : List AV → Option (List UInt8)
  | [] => some []
  | .int .u8 n :: r => match bytesOf r with
    | some l => some (UInt8.ofNat n.toNat :: l)
    | none => none
  | _ => none
def bytesStr (P : Program) (h : AH) (el : TypeId) (v : AV) : Option AV :=
  match P.underlying el, csz P el, v with
  | some (.int .u8), some 1, .nils => some (.str [])
  | some (.int .u8), some 1, .sl l o len _ => match h.read l o len with
    | some cs => (bytesOf cs).map .str
    | none => none
  | _, _, _ => none
def doConvert (P : Program) (e : Env) (h : AH) (s d : TypeId) (x : Operand) : Option AV :=
  match P.underlying s, P.underlying d, ev e x with
  | some (.int _), some (.int k), some (.int _ n) => some (.int k (wrapA k n))
  | some .string, some .string, some (.str s) => some (.str s)
  | some (.slice el), some .string, some v => bytesStr P h el v
  | _, _, _ => none
/-- keys that are a number, a string, a bool, or a struct of such -/
def keyCell (P : Program) (t : TypeId) (v : AV) : Bool :=
  match P.underlying t, v with
  | some (.int k), .int k' _ => decide (k = k')
  | some .string, .str _ => true
  | some .bool, .bool _ => true
  | _, _ => false
def keyFields (P : Program) : Nat → List Field → List AV → Bool
  | _, [], [] => true
  | i, f :: r, v :: vs => (f.name != "_") && keyCell P f.type v && (csz P f.type == some 1) && Nat.beq f.offset i && keyFields P (i + 1) r vs
  | _, _, _ => false
def keyOk (P : Program) (t : TypeId) (v : AV) : Bool :=
  match P.underlying t, v with
  | some (.struct fields), .agg cs => keyFields P 0 fields.toList cs && !(P.stoodInHeld t)
  | _, v => keyCell P t v
def keyEq (P : Program) (t : TypeId) : AV → AV → Option Bool
  | .int j a, .int k b => match decide (j = k) with | true => some (eqI a b) | false => none
  | .str a, .str b => some (eqS a b)
  | .bool a, .bool b => some (a == b)
  | .agg a, .agg b => match Nat.beq a.length b.length with
    | true => eqA P 10000 t (.agg a) (.agg b)
    | false => none
  | _, _ => none
def findA (P : Program) (t : TypeId) (k : AV) : List (AV × AV) → Option (Option AV)
  | [] => some none
  | (k', v) :: r => match keyEq P t k k' with
    | some true => some (some v)
    | some false => findA P t k r
    | none => none
def mapAt (h : AH) : AV → Option (List (AV × AV))
  | .nilm => some []
  | .map b => match h.at b with
    | some (.map es) => some es
    | _ => none
  | _ => none
def lookOf (P : Program) (et : TypeId) (ok : Bool) : Option (Option AV) → Option AV
  | some (some v) => some (if ok then .tup [v, .bool true] else v)
  | some none => (zeroOf P et).map fun z => if ok then .tup [z, .bool false] else z
  | none => none
def doLookup (P : Program) (e : Env) (h : AH) (t : TypeId) (x i : Operand) (ok : Bool) : Option AV :=
  match P.underlying t, ev e x, ev e i with
  | some (.map kt et), some m, some k => match keyOk P kt k, mapAt h m with
    | true, some es => lookOf P et ok (findA P kt k es)
    | _, _ => none
  | _, _, _ => none
def lenBy (h : AH) (d : TypeDesc) (v : AV) : Option AV :=
  match d, v with
  | .string, .str s => some (.int .i64 s.length)
  | .slice _, .nils => some (.int .i64 0)
  | .slice _, .sl _ _ n _ => some (.int .i64 n)
  | .map _ _, .nilm => some (.int .i64 0)
  | .map _ _, .map b => match h.at b with
    | some (.map es) => some (.int .i64 es.length)
    | _ => none
  | _, _ => none
def doLen (P : Program) (e : Env) (h : AH) (as : List Operand) (ts : List TypeId) : Option AV :=
  match as, ts with
  | x :: _, t :: _ => match P.underlying t, ev e x with
    | some d, some v => lenBy h d v
    | _, _ => none
  | _, _ => none
def minA (k : IntKind) (a : Int) : List AV → Option AV
  | [] => some (.int k a)
  | .int _ b :: r => minA k (if ltI b a then b else a) r
  | _ => none
def maxA (k : IntKind) (a : Int) : List AV → Option AV
  | [] => some (.int k a)
  | .int _ b :: r => maxA k (if ltI a b then b else a) r
  | _ => none
def doMin (e : Env) (as : List Operand) : Option AV :=
  match evs e as with
  | some (.int k a :: rest) => minA k a rest
  | _ => none
def doMax (e : Env) (as : List Operand) : Option AV :=
  match evs e as with
  | some (.int k a :: rest) => maxA k a rest
  | _ => none
def readBuiltin (P : Program) (e : Env) (h : AH) (c : Call) (b : Builtin) : Option AV :=
  match b with
  | .len => doLen P e h c.args.toList c.argTypes.toList
  | .min => doMin e c.args.toList
  | .max => doMax e c.args.toList
  | _ => none
def readCall (P : Program) (e : Env) (h : AH) (c : Call) : Option AV :=
  match c.callee with
  | .builtin b => readBuiltin P e h c b
  | _ => none
/-- What looks into memory, or needs none. -/
def readOp (P : Program) (e : Env) (h : AH) (op : Op) : Option AV :=
  match op with
  | .move x => ev e x
  | .assign x => ev e x
  | .pick c a b => doPick e c a b
  | .build t parts => doBuild P e t parts
  | .nilCheck x => doNil e x
  | .binOp op t x y _ => doBin P e op t x y
  | .unOp op _ x => doUn e op x
  | .makeInterface t x => doIfc P e t x
  | .makeFunc f first captured => doFunc e f first captured
  | .fieldAddr s x f => doFieldAddr P e s x f
  | .field s x f => doField P e s x f
  | .indexAddr t x i => doIndexAddr P e t x i
  | .index t x i => doIndex P e t x i
  | .typeAssert x _ a ok => doAssert P e x a ok
  | .extract x i => doExtract e x i
  | .load t x => doLoad P e h t x
  | .slice t x lo hi mx => doSlice P e h t x lo hi mx
  | .convert s d x => doConvert P e h s d x
  | .lookup t x i ok => doLookup P e h t x i ok
  | .call c => readCall P e h c
  | _ => none

end Go.VI
