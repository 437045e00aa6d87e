/-
  Where the abstract machine makes memory, the model makes it.
-/
import Derived.Test.YtenfjdkeikjhlaaViI
import Derived.Laws.IdiomStrings
set_option autoImplicit false
set_option linter.unusedVariables false
namespace Go.VI
open Go.RowKit

def Bt.upd (β : Bt) (b : Nat) (p : Pl) : Bt := fun j => if j = b then some p else β j
theorem Bt.upd_eq (β : Bt) (b : Nat) (p : Pl) : β.upd b p b = some p := by simp [Bt.upd]
theorem Bt.upd_ne (β : Bt) {b j : Nat} (p : Pl) (h : j ≠ b) : β.upd b p j = β j := by simp [Bt.upd, h]
theorem Bt.le_upd {β : Bt} {b : Nat} (h : β b = none) (p : Pl) : β.le (β.upd b p) := fun j q e => by
  by_cases c : j = b
  · subst c; rw [h] at e; cases e
  · rw [Bt.upd_ne _ _ c]; exact e

section
variable {P : Program} {w w' w0 : World} {β β' : Bt} {H : AH} {nt : Nat} {e : Env} {a : Act} {M : Mem}

theorem ObjR.keep {p : Pl} {x : AObj} (hb : β.le β') (hh : w'.heap[p.c]? = w.heap[p.c]?) (h : ObjR P β M w p x) : ObjR P β' M w' p x := by
  cases x with
  | row cells el op fam =>
    obtain ⟨h1, h2, h3, cc, el', fz, h4, h5, h6, vs, h7, h8⟩ := h
    exact ⟨h1, h2, h3, cc, el', fz, by rw [hh]; exact h4, h5, h6, vs, h7.mono hb, h8⟩
  | map es =>
    obtain ⟨ces, clock, h1, h2⟩ := h
    exact ⟨ces, clock, by rw [hh]; exact h1, h2.mono hb⟩
  | siter s pos => obtain ⟨b, h1, h2⟩ := h; exact ⟨b, by rw [hh]; exact h1, h2⟩
  | dead => trivial

theorem Rel.drew (R : Rel P w0 β H w) (hh : w'.heap = w.heap) (h1 : w'.os = w.os) (h2 : w'.tape = w.tape) (h3 : w'.output = w.output) : Rel P w0 β H w' where
  below := ⟨h1.trans R.below.os, h2.trans R.below.tape, h3.trans R.below.output, by rw [hh]; exact R.below.size, fun k hk => by rw [hh]; exact R.below.block k hk⟩
  dom := fun b p h => by rw [hh]; exact R.dom b p h
  obj := fun b p x h k => (R.obj b p x h k).keep (Bt.le_refl _) (by rw [hh])
  apart := R.apart
  tip := R.tip
  wf := R.wf
  wff := R.wff
  unm := R.unm
  fam := R.fam

theorem at_get {b : Nat} {x : AObj} (h : H.at b = some x) : H.o.get b = some x := by
  unfold AH.at at h
  split at h
  · split at h
    · injection h with h; subst h; assumption
    · split at h
      · injection h with h; subst h; assumption
      · cases h
    · cases h
  · cases h
  · exact h
theorem at_of_none {b : Nat} {x : AObj} (h : H.o.get b = some x) (hf : isRowFam x = none) (hd : x ≠ .dead) : H.at b = some x := by
  unfold AH.at
  rw [h]
  cases x with
  | row cells el op fam => cases fam with
    | none => rfl
    | some _ => cases hf
  | map _ => rfl
  | siter _ _ => rfl
  | dead => exact absurd rfl hd
theorem at_push_ne {x : AObj} {b : Nat} (h : b ≠ H.n) : (H.push x).at b = H.at b := by
  unfold AH.at AH.push
  rw [Tr.get_set_ne _ _ h]
theorem at_push_eq {x : AObj} (hf : isRowFam x = none) (hd : x ≠ .dead) : (H.push x).at H.n = some x :=
  at_of_none (by simp [AH.push, Tr.get_set]) hf hd

/-- A block that nobody has yet in the world. -/
theorem Rel.push (R : Rel P w0 β H w) {x : AObj} (hf : isRowFam x = none) : Rel P w0 β (H.push x) w := by
  have hn : ∀ b p, β b = some p → b ≠ H.n := fun b p h c => by have := (R.dom b p h).1; omega
  have hg : ∀ b y, (H.push x).o.get b = some y → b ≠ H.n → H.o.get b = some y := fun b y h c => by
    simp only [AH.push] at h; rw [Tr.get_set_ne _ _ c] at h; exact h
  refine ⟨R.below, fun b p h => ⟨Nat.lt_succ_of_lt (R.dom b p h).1, (R.dom b p h).2⟩, fun b p y h k => ?_, fun b b' p p' y y' h h' k k' hne hc => ?_, fun f t b q cells el op h k => ?_, fun b h => ?_, fun f h => ?_, fun b y h k => ?_, fun b y f q h k => ?_⟩
  · rw [at_push_ne (hn b p h)] at k; exact R.obj b p y h k
  · rw [at_push_ne (hn b p h)] at k; rw [at_push_ne (hn b' p' h')] at k'; exact R.apart b b' p p' y y' h h' k k' hne hc
  · have hb : b ≠ H.n := fun c => by
      subst c; simp only [AH.push, Tr.get_set_eq, Option.some.injEq] at k; subst k; cases hf
    obtain ⟨q', cells', el', op', h1, h2⟩ := R.tip f t b q cells el op h (hg b _ k hb)
    have ht : t ≠ H.n := fun c => by subst c; rw [R.wf _ (Nat.le_refl _)] at h1; cases h1
    exact ⟨q', cells', el', op', by simp only [AH.push]; rw [Tr.get_set_ne _ _ ht]; exact h1, h2⟩
  · simp only [AH.push] at h ⊢
    rw [Tr.get_set_ne _ _ (by omega)]; exact R.wf b (by omega)
  · exact R.wff f (by simp only [AH.push] at h; omega)
  · by_cases c : b = H.n
    · subst c; simp only [AH.push, Tr.get_set_eq, Option.some.injEq] at h; subst h; exact hf
    · exact R.unm b y (hg b y h c) k
  · by_cases c : b = H.n
    · subst c; simp only [AH.push, Tr.get_set_eq, Option.some.injEq] at h; subst h; rw [hf] at k; cases k
    · exact Nat.lt_succ_of_lt (R.fam b y f q (hg b y h c) k)

/-- It gets its place. -/
theorem Rel.place (R : Rel P w0 β H w) {b : Nat} {x : AObj} {p : Pl} {o : Obj} (hb : β b = none) (hn : b < H.n) (hx : H.o.get b = some x) (hf : isRowFam x = none) (hp : p.c = w.heap.size)
    (hr : p.n ≤ p.r ∧ 1 ≤ p.e) (hh : w'.heap = w.heap.push o) (h1 : w'.os = w.os) (h2 : w'.tape = w.tape) (h3 : w'.output = w.output) (ho : ObjR P (β.upd b p) (memOf w0) w' p x) :
    Rel P w0 (β.upd b p) H w' := by
  have hle := Bt.le_upd hb p
  have hold : ∀ k, k < w.heap.size → w'.heap[k]? = w.heap[k]? := fun k hk => by rw [hh, Array.getElem?_push, if_neg (by omega)]
  have hsz : w'.heap.size = w.heap.size + 1 := by rw [hh]; simp
  have hcase : ∀ j q, (β.upd b p) j = some q → (j = b ∧ q = p) ∨ (j ≠ b ∧ β j = some q) := fun j q h => by
    by_cases c : j = b
    · subst c; rw [Bt.upd_eq] at h; exact .inl ⟨rfl, (Option.some.inj h).symm⟩
    · rw [Bt.upd_ne _ _ c] at h; exact .inr ⟨c, h⟩
  refine ⟨⟨h1.trans R.below.os, h2.trans R.below.tape, h3.trans R.below.output, by have := R.below.size; omega, fun k hk => by rw [hold k (by have := R.below.size; omega)]; exact R.below.block k hk⟩, fun j q h => ?_, fun j q y h k => ?_, fun j j' q q' y y' h h' k k' hne hc => ?_, R.tip, R.wf, R.wff, fun j y h k => ?_, R.fam⟩
  · rcases hcase j q h with ⟨rfl, rfl⟩ | ⟨c, h⟩
    · exact ⟨hn, by have := R.below.size; omega, by omega, hr⟩
    · obtain ⟨d1, d2, d3, d4⟩ := R.dom j q h
      exact ⟨d1, d2, by omega, d4⟩
  · rcases hcase j q h with ⟨rfl, rfl⟩ | ⟨c, h⟩
    · have := at_get k; rw [hx] at this; cases this; exact ho
    · exact (R.obj j q y h k).keep hle (hold _ (R.dom j q h).2.2.1)
  · rcases hcase j q h with ⟨rfl, rfl⟩ | ⟨c, h2⟩ <;> rcases hcase j' q' h' with ⟨e1, e2⟩ | ⟨c', h3⟩
    · exact absurd e1.symm hne
    · have := (R.dom j' q' h3).2.2.1; omega
    · subst e1; subst e2; have := (R.dom j q h2).2.2.1; omega
    · exact R.apart j j' q q' y y' h2 h3 k k' hne hc
  · by_cases c : j = b
    · subst c; rw [Bt.upd_eq] at k; cases k
    · rw [Bt.upd_ne _ _ c] at k; exact R.unm j y h k

/-- a new row of cells that are known whole -/
theorem row_new {p : Pl} {cells : List AV} {vs : List Value} {el ty : TypeId} (hp : p = ⟨w.heap.size, 0, 1, cells.length, cells.length⟩) (hv : VRs β M cells vs) (hh : w'.heap = w.heap.push (.cells vs.toArray ty)) :
    ObjR P β M w' p (.row cells el false none) := by
  subst hp
  exact ⟨rfl, fun _ => rfl, (fun h => by cases h), vs.toArray, ty, (0, 0), (by rw [hh]; simp), Or.inl rfl, (by simp [hv.length]), vs, hv, fun i v e => (by simpa using e)⟩

def Makes (P : Program) (w0 : World) (β : Bt) (H : AH) (w : World) (b : Nat) (v : AV) (r : Result Next) : Prop :=
  ∃ v' w' p, r = .ok (.value v') w' ∧ Rel P w0 (β.upd b p) H w' ∧ VR (β.upd b p) (memOf w0) v v'

theorem ev_mono (E : ERel β M nt e a) (h : β.le β') : ERel β' M nt e a := ⟨E.size, fun t => (E.val t).mono h⟩

theorem row_makes (R : Rel P w0 β H w) {b : Nat} {cells : List AV} {vs : List Value} {el ty : TypeId} (hb : β b = none) (hn : b < H.n) (hx : H.o.get b = some (.row cells el false none)) (hv : VRs β (memOf w0) cells vs) :
    Rel P w0 (β.upd b ⟨w.heap.size, 0, 1, cells.length, cells.length⟩) H { w with heap := w.heap.push (.cells vs.toArray ty) } :=
  R.place hb hn hx rfl rfl ⟨Nat.le_refl _, Nat.le_refl _⟩ rfl rfl rfl rfl (row_new rfl (hv.mono (Bt.le_upd hb _)) rfl)
theorem ptr_new (β : Bt) (M : Mem) (b : Nat) (p : Pl) (h : p.o = 0) : VR (β.upd b p) M (.ptr (.mt b) 0) (.pointer (some ⟨p.c, 0, none⟩)) := by
  have := VR.ptr (β := β.upd b p) (M := M) (.mt b) 0 p.c p.o (.mt b p (Bt.upd_eq _ _ _))
  rwa [h] at this
theorem sl_new (β : Bt) (M : Mem) (b : Nat) (p : Pl) (n c c' : Nat) (h : p.o = 0) (hc : CapR p 0 c c') : VR (β.upd b p) M (freshSl b n c) (.slice (some ⟨p.c, 0, none⟩) n c') := by
  have := VR.sl (β := β.upd b p) (M := M) (.mt b) 0 n c c' p.c p.o (.mt b p (Bt.upd_eq _ _ _)) ⟨p, Bt.upd_eq _ _ _, hc⟩
  rwa [h] at this
theorem capR_closed {p : Pl} {off c : Nat} (h : p.r = p.n) : CapR p off c c := ⟨fun e => by rw [h]; exact e, fun _ => rfl⟩

theorem reps_toArray (n : Nat) (zv : Array Value) (h : zv.size ≠ 0) : (Array.range (n * zv.size)).map (zv[· % zv.size]!) = (List.replicate n zv.toList).flatten.toArray := by
  apply Array.ext'
  simp only [Array.toList_map, Array.toList_range]
  induction n with
  | zero => simp
  | succ n ih =>
    rw [Nat.succ_mul, List.range_add, List.map_append, ih, List.replicate_succ', List.flatten_append]
    congr 1
    simp only [List.map_map, List.flatten_cons, List.flatten_nil, List.append_nil]
    apply List.ext_getElem
    · simp
    · intro i h1 h2
      simp only [List.length_map, List.length_range] at h1
      have : (n * zv.size + i) % zv.size = i := by rw [Nat.mul_comm, Nat.mul_add_mod, Nat.mod_eq_of_lt h1]
      simp [this, h1]
theorem range0 {α : Type} (f : Nat → α) : (Array.range 0).map f = #[] := Array.eq_empty_of_size_eq_zero (by simp)
theorem makeSlice_run {t el : TypeId} {l c by_ s : Nat} {i : TypeInfo} {zv : Value} (hu : P.underlying t = some (.slice el)) (hs : csz P el = some s) (hi : P.info? el = some i) (hby : i.bytes = by_)
    (hz : ∀ w, (zeroValue el).run P w = .ok zv w) (hzl : zv.cells.size = s) (hs0 : s ≠ 0) (hlc : l ≤ c) (hc : c * (by_ + 1) ≤ 70368744177664) (w : World) :
    (Instr.makeSlice t (.int .i64 (l : Int)) (.int .i64 (c : Int))).run P w = .ok (.slice (some ⟨w.heap.size, 0, none⟩) l c) { w with heap := w.heap.push (.cells (List.replicate c zv.cells.toList).flatten.toArray el) } := by
  have hc1 : c ≤ 70368744177664 := by
    have : c * 1 ≤ c * (by_ + 1) := Nat.mul_le_mul_left c (by omega)
    omega
  have hc2 : by_ * c ≤ 70368744177664 := by
    have : c * by_ ≤ c * (by_ + 1) := Nat.mul_le_mul_left c (by omega)
    rw [Nat.mul_comm]; omega
  have w1 : IntKind.i64.wrap (l : Int) = l := wrap_in _ (by omega) (by omega)
  have w2 : IntKind.i64.wrap (c : Int) = c := wrap_in _ (by omega) (by omega)
  have hbc : (by_ : Int) * (c : Int) = ((by_ * c : Nat) : Int) := (Int.natCast_mul _ _).symm
  simp only [Instr.makeSlice, Sem.run_bind, run_underlying hu, Result.andThen_ok, asInt, asIntOf, Sem.run_pure, typeInfo, run_program, hi, hby, w1, w2]
  have t1 : ¬ ((decide ((c : Int) < 0) || decide ((by_ : Int) * (c : Int) > 2 ^ 48)) || decide ((l : Int) < 0) || decide ((l : Int) > (c : Int))) = true := by
    simp only [Bool.or_eq_true, decide_eq_true_eq, not_or]
    refine ⟨⟨⟨by omega, ?_⟩, by omega⟩, by omega⟩
    have : ((2 : Int) ^ 48) = 281474976710656 := by simp only [Int.reducePow]
    rw [this, hbc]; omega
  rw [if_neg t1]
  simp only [Result.andThen_ok, Sem.run_bind, run_askRoom, run_csz hs, Int.toNat_natCast]
  by_cases h0 : c * s = 0
  · have hc0 : c = 0 := by rcases Nat.mul_eq_zero.1 h0 with h | h; exact h; exact absurd h hs0
    subst hc0
    simp [newRow, range0]
  · have e := reps_toArray c zv.cells (by rw [hzl]; exact hs0)
    rw [hzl] at e
    simp [h0, hz, newRow, hzl, e]
theorem buildSlice_run {t el : TypeId} {n s : Nat} {zv : Value} {parts : Array (Nat × Value)} {rs : List Value} (hu : P.underlying t = some (.slice el)) (hs : csz P el = some s)
    (hz : ∀ w, (zeroValue el).run P w = .ok zv w) (hzl : zv.cells.size = s) (hs0 : s ≠ 0) (hns : n * s ≤ 16777216) (hf : Instr.fill (fun i => some (i * s, s)) (List.replicate n zv.cells.toList).flatten.toArray parts.toList = some rs.toArray) (w : World) :
    (Instr.buildSlice t n parts).run P w = .ok (.slice (some ⟨w.heap.size, 0, none⟩) n n) { w with heap := w.heap.push (.cells rs.toArray el) } := by
  have hns' : ¬ n * s > 2 ^ 24 := by have : (2 : Nat) ^ 24 = 16777216 := by decide
                                     omega
  simp only [Instr.buildSlice, Sem.run_bind, run_underlying hu, Result.andThen_ok, run_csz hs, if_neg hns']
  by_cases h0 : n * s = 0
  · have hc0 : n = 0 := by rcases Nat.mul_eq_zero.1 h0 with h | h; exact h; exact absurd h hs0
    subst hc0
    simp only [List.replicate_zero, List.flatten_nil] at hf
    simp [hf, newRow, range0]
  · have e := reps_toArray n zv.cells (by rw [hzl]; exact hs0)
    rw [hzl] at e
    simp [h0, hz, newRow, hzl, e, hf]

theorem bytes_vr {β : Bt} {M : Mem} (s : ByteArray) : VRs β M (bytesA s.data.toList) (s.data.map fun b => Value.int .u8 b.toNat).toList := by
  simp only [bytesA, Array.toList_map]
  generalize s.data.toList = l
  induction l with
  | nil => exact .nil
  | cons x l ih => exact .cons _ _ _ _ (.int _ _) ih
theorem strBytes_run {s d el : TypeId} (hs : P.underlying s = some .string) (hd : P.underlying d = some (.slice el)) (hu : P.underlying el = some (.int .u8)) (str : ByteArray) (w : World) :
    ∃ (cap : Nat) (w' : World) (cc : Array Value), str.size ≤ cap ∧ cc = (str.data.map fun (b : UInt8) => Value.int .u8 b.toNat) ++ Array.replicate (cap - str.size) (.int .u8 0) ∧
      (convert s d (.string str)).run P w = .ok (.slice (some ⟨w.heap.size, 0, none⟩) str.size cap) w' ∧
      w'.heap = w.heap.push (.cells cc el (cc.size, cc.size + 1)) ∧ w'.os = w.os ∧ w'.tape = w.tape ∧ w'.output = w.output :=
  ⟨grownCap w str.size 0 el, _, bytesRow str (grownCap w str.size 0 el), by simp [grownCap, Question.cut], rfl, run_bytes_of_string w s d el str hs hd hu, rfl, rfl, rfl, rfl⟩

/-- The main theorem on what makes memory. -/
theorem allocOp_sound (R : Rel P w0 β H w) {o : Oper} {b : Nat} {x : AObj} {f : Nat → AV} (E : ERel β (memOf w0) nt e a) (h : allocOp P e o.op = some (x, f)) (hb : β b = none) (hn : b < H.n) (hx : H.o.get b = some x) :
    isRowFam x = none ∧ x ≠ .dead ∧ Makes P w0 β H w b (f b) ((execOp a.eval o).run P w) := by
  have lift : ∀ {s : Sem Value} {v : AV}, (∃ v' w' p, s.run P w = .ok v' w' ∧ Rel P w0 (β.upd b p) H w' ∧ VR (β.upd b p) (memOf w0) v v') → (execOp a.eval o = do pure (.value (← s))) → Makes P w0 β H w b v ((execOp a.eval o).run P w) := by
    intro s v ⟨v', w', p, e1, e2, e3⟩ he
    exact ⟨v', w', p, by rw [he]; simp only [Sem.run_bind, e1, Result.andThen_ok, Sem.run_pure], e2, e3⟩
  cases ho : o.op <;> rw [ho] at h <;> simp only [allocOp] at h <;> try (cases h; done)
  case alloc t =>
    unfold doAlloc at h
    split at h
    · rename_i z hz
      injection h with h; injection h with h1 h2; subst h1; subst h2
      obtain ⟨zv, hz1, hz2⟩ := zeroOf_sound (M := memOf w0) (β := β) hz
      refine ⟨rfl, by simp, lift ⟨_, _, _, ?_, row_makes (ty := t) R hb hn hx hz2.cells, ptr_new _ _ _ _ rfl⟩ (by simp only [execOp, ho]; rfl)⟩
      simp [Instr.alloc, hz1, newVar, newRow]
    · cases h
  case box t y =>
    unfold doBox at h
    split at h
    · rename_i z hz
      injection h with h; injection h with h1 h2; subst h1; subst h2
      have hz2 := ev_sound E hz
      refine ⟨rfl, by simp, lift ⟨_, _, _, ?_, row_makes (ty := t) R hb hn hx hz2.cells, ptr_new _ _ _ _ rfl⟩ (by simp only [execOp, ho]; rfl)⟩
      simp [Instr.box, newVar, newRow]
    · cases h
  case buildSlice t n parts =>
    unfold doBuildSlice at h
    split at h
    · rename_i el ps hu hps
      unfold buildSl1 at h
      split at h
      · rename_i s z hs hz
        unfold buildSl at h
        split at h
        · rename_i cells h1 h2 h3
          injection h with h; injection h with h4 h5; subst h4; subst h5
          have h1 := Nat.le_of_ble_eq_true h1
          have h2 := Nat.eq_of_beq_eq_true h2
          obtain ⟨zv, hz1, hz2⟩ := zeroOf_sound (M := memOf w0) (β := β) hz
          obtain ⟨hp1, hp2⟩ := evParts_sound E hps
          obtain ⟨rs, e1, e2⟩ := fill_sound (qs := parts.toList.map fun x => (x.1, a.eval x.2)) h3 (by simpa [Function.comp_def] using hp1) (by simpa [Function.comp_def] using hp2) (hz2.cells.reps n)
          have hzl : zv.cells.size = s + 1 := by have := hz2.cells.length; simp at this; omega
          have hrun := buildSlice_run (P := P) (t := t) (parts := parts.map fun x => (x.1, a.eval x.2)) hu hs hz1 hzl (by omega) h1 (by simpa using e1) w
          refine ⟨rfl, by simp, lift ⟨_, _, _, hrun, row_makes (ty := el) R hb hn hx e2, ?_⟩ (by simp only [execOp, ho])⟩
          exact sl_new _ _ _ _ _ _ _ rfl (capR_closed rfl)
        · cases h
      · cases h
    · cases h
  case makeMap t r =>
    unfold doMakeMap at h
    have fin : (x, f) = mkMap → (Instr.makeMap t (r.map a.eval)).run P w = .ok (.map (some w.heap.size)) { w with heap := w.heap.push (.map #[] 0) } → isRowFam x = none ∧ x ≠ .dead ∧ Makes P w0 β H w b (f b) ((execOp a.eval o).run P w) := by
      intro he hrun
      injection he with h1 h2; subst h1; subst h2
      refine ⟨rfl, by simp, lift ⟨_, _, ⟨w.heap.size, 0, 1, 0, 0⟩, hrun, R.place hb hn hx rfl rfl ⟨Nat.le_refl _, Nat.le_refl _⟩ rfl rfl rfl rfl ⟨#[], 0, by simp, trivial⟩, ?_⟩ (by simp only [execOp, ho])⟩
      exact VR.map (β := β.upd b _) b _ (Bt.upd_eq _ _ _)
    split at h
    · rename_i hu hr
      cases r with
      | none => exact fin (Option.some.inj h).symm (by simp [Instr.makeMap])
      | some r => simp only [optEv] at hr; obtain ⟨_, _, h2⟩ := Option.map_eq_some_iff.1 hr; cases h2
    · rename_i k v j n hu hr
      cases r with
      | none => simp [optEv] at hr
      | some r =>
        simp only [optEv] at hr
        obtain ⟨y, hy, h2⟩ := Option.map_eq_some_iff.1 hr
        injection h2 with h2; subst h2
        have k1 := ev_sound E hy
        refine fin (Option.some.inj h).symm ?_
        simp only [Option.map_some]
        generalize a.eval r = vr at k1 ⊢
        cases k1
        simp [Instr.makeMap, run_underlying hu, asInt, asIntOf]
    · cases h
  case makeSlice t l c =>
    unfold doMakeSlice at h
    split at h
    · rename_i el l' c' hu hl hc
      unfold makeSl1 at h
      split at h
      · rename_i s z by_ hs hz hby
        unfold makeSl at h
        split at h
        · rename_i l' c'
          split at h
          · rename_i h1 h2 h3
            injection h with h; injection h with h4 h5; subst h4; subst h5
            have h1 := Nat.le_of_ble_eq_true h1
            have h2 := Nat.le_of_ble_eq_true h2
            have h3 := Nat.eq_of_beq_eq_true h3
            obtain ⟨zv, hz1, hz2⟩ := zeroOf_sound (M := memOf w0) (β := β) hz
            obtain ⟨i, hi, hib⟩ := run_byt hby w
            have hzl : zv.cells.size = s + 1 := by have := hz2.cells.length; simp at this; omega
            have k1 := ev_sound E hl
            have k2 := ev_sound E hc
            have hrun := makeSlice_run (P := P) (t := t) hu hs hi hib hz1 hzl (by omega) h1 h2 w
            have el1 : a.eval l = .int .i64 (l' : Int) := by generalize a.eval l = q at k1; cases k1; rfl
            have ec1 : a.eval c = .int .i64 (c' : Int) := by generalize a.eval c = q at k2; cases k2; rfl
            refine ⟨rfl, by simp, lift ⟨_, _, _, by rw [← el1, ← ec1] at hrun; exact hrun, row_makes (ty := el) R hb hn hx (hz2.cells.reps c'), ?_⟩ (by simp only [execOp, ho])⟩
            exact sl_new _ _ _ _ _ _ _ rfl (capR_closed rfl)
          · cases h
        · cases h
      · cases h
    · cases h
  case convert s d y =>
    unfold doStrBytes at h
    split at h
    · rename_i el v hs hd hy
      unfold strBytes at h
      split at h
      · rename_i hu hz hl
        injection h with h; injection h with h4 h5; subst h4; subst h5
        have k1 := ev_sound E hy
        clear hl
        generalize hvy : a.eval y = vy at k1
        generalize hq : AV.str v = q at k1
        cases k1 <;> cases hq
        rename_i str
        obtain ⟨cap, w', cc, hcap, hcc, hrun, hh, q1, q2, q3⟩ := strBytes_run (P := P) hs hd hu str w
        have hcs : cc.size = str.size + (cap - str.size) := by rw [hcc]; simp
        have hbl : (bytesA str.data.toList).length = str.size := by simp [bytesA]
        refine ⟨rfl, by simp, lift (s := convert s d (a.eval y)) ⟨_, w', ⟨w.heap.size, 0, 1, str.data.toList.length, cap⟩, by rw [hvy]; exact hrun, R.place hb hn hx rfl rfl ⟨by rw [str_len]; exact hcap, Nat.le_refl _⟩ hh q1 q2 q3 ?_, ?_⟩ (by simp only [execOp, ho])⟩
        · refine ⟨by rw [hbl, str_len], (fun h => by cases h), fun _ => hz, cc, el, (cc.size, cc.size + 1), by rw [hh]; simp, Or.inr (Nat.le_refl _), by show 0 + cap ≤ cc.size; omega, _, bytes_vr str, fun i v e => ?_⟩
          simp only [Nat.zero_add, hcc]
          rw [Array.getElem?_append_left (by have := (List.getElem?_eq_some_iff.1 e).1; simpa using this)]
          simpa using e
        · rw [str_len]
          exact sl_new _ _ _ _ _ _ _ rfl ⟨fun _ => by simp, fun h => absurd (by simp) h⟩
      · cases h
    · cases h
  case range t y =>
    unfold doRange at h
    split at h
    · rename_i s hu hy
      injection h with h; injection h with h4 h5; subst h4; subst h5
      have k1 := ev_sound E hy
      generalize hvy : a.eval y = vy at k1
      generalize hq : AV.str s = q at k1
      cases k1 <;> cases hq
      rename_i str
      refine ⟨rfl, by simp, lift (s := Instr.range t (a.eval y)) ⟨_, { w with heap := w.heap.push (.stringIter str 0) }, ⟨w.heap.size, 0, 1, 0, 0⟩, ?_, R.place hb hn hx rfl rfl ⟨Nat.le_refl _, Nat.le_refl _⟩ rfl rfl rfl rfl ⟨str, by simp, rfl⟩, ptr_new _ _ _ _ rfl⟩ (by simp only [execOp, ho])⟩
      simp [Instr.range, hvy, run_underlying hu]
    · cases h
end
end Go.VI
