/-
  What an argument reads as says which value of a kind lies there; its bulk bounds the value's size.
-/
import Derived.Test.YtpdphdbphhaekaaDoorRows
import Derived.Test.YtpdphdbphhaekaaDoorWWords
import Derived.ProofKit
import Derived.OpenShut
set_option autoImplicit false
set_option linter.unusedVariables false
set_option linter.unusedSimpArgs false
namespace Go.Proofs.YtpdphdbphhaekaaDoor.Opn
open Go.Proofs.YtpdphdbphhaekaaDoorW.PrintWords Go.ChangeShapes Go.WideShapes Go.RowKit

/-- What is read of type t is a value of the kind d: B says how great it is at least, G what it is besides. -/
structure ReadsAs {α : Type} (P : Program) (t : TypeId) (d : Kd α) (B : α → Nat) (G : α → Prop) (fuel : Nat) : Prop where
  out : ∀ {H : Type} {enc : TypeId × Value → H} {w : World} {held : Bool} {cs : List Value} {D : DataW H} {ps : List MemPlace},
    DataW.trod enc P w 0 (fun _ => true) held fuel t cs = some (D, ps) → ∃ x, d.K w x cs ∧ B x ≤ Rows.uptoBulk D ∧ G x

variable {P : Program} {t e : TypeId}
theorem op_zero {α : Type} {d : Kd α} {B : α → Nat} {G : α → Prop} : ReadsAs P t d B G 0 := by
  constructor
  intro H enc w held cs D ps h
  simp [DataW.trod] at h
theorem op_int {k : IntKind} (ht : P.underlying t = some (.int k)) (n : Nat) : ReadsAs P t (Kd.int k) (fun _ => 1) (fun x => (Lit.int k x).wf = true) n := by
  cases n with
  | zero => exact op_zero
  | succ n =>
    constructor
    intro H enc w held cs D ps h
    unfold DataW.trod at h
    rw [ht] at h
    simp only at h
    split at h <;> first | cases h | skip
    all_goals (try (rename_i he; cases he))
    all_goals (try (split at h <;> cases h))
    rename_i hk
    obtain ⟨rfl, hw⟩ := hk
    exact ⟨_, rfl, by simp [Rows.uptoBulk], hw⟩
theorem op_bool (ht : P.underlying t = some .bool) (n : Nat) : ReadsAs P t Kd.bool (fun _ => 1) (fun _ => True) n := by
  cases n with
  | zero => exact op_zero
  | succ n =>
    constructor
    intro H enc w held cs D ps h
    unfold DataW.trod at h
    rw [ht] at h
    simp only at h
    split at h <;> first | cases h | skip
    all_goals (try (rename_i he; cases he))
    all_goals (try cases h)
    exact ⟨_, rfl, by simp [Rows.uptoBulk], trivial⟩
theorem op_string (ht : P.underlying t = some .string) (n : Nat) : ReadsAs P t Kd.string (fun s => s.size + 1) (fun s => s.size ≤ maxLen) n := by
  cases n with
  | zero => exact op_zero
  | succ n =>
    constructor
    intro H enc w held cs D ps h
    unfold DataW.trod at h
    rw [ht] at h
    simp only at h
    split at h <;> first | cases h | skip
    all_goals (try (rename_i he; cases he))
    all_goals (try (split at h <;> cases h))
    rename_i hk
    exact ⟨_, rfl, by simp [Rows.uptoBulk], hk⟩
theorem op_list {α : Type} {H : Type} {B : α → Nat} {G : α → Prop} {Q : Nat → α → Prop} (f : Nat → Option (DataW H × List MemPlace)) (hf : ∀ i y, f i = some y → ∃ x, Q i x ∧ B x ≤ Rows.uptoBulk y.1 ∧ G x) :
    ∀ (is : List Nat) (ys : List (DataW H × List MemPlace)), is.mapM f = some ys → ∃ xs : List α, xs.length = is.length ∧ (∀ (j : Nat) (x : α), xs[j]? = some x → ∃ i, is[j]? = some i ∧ Q i x) ∧ (xs.map B).sum ≤ Rows.uptoBulkAll (ys.map (·.1)) ∧ ∀ x ∈ xs, G x
  | [], ys, h => by
    simp at h
    subst h
    exact ⟨[], rfl, fun j x hx => by simp at hx, by simp, fun x hx => by simp at hx⟩
  | i :: is, ys, h => by
    rw [List.mapM_cons] at h
    cases hi : f i with
    | none => simp [hi] at h
    | some y =>
      cases hr : is.mapM f with
      | none => simp [hi, hr] at h
      | some zs =>
        simp [hi, hr] at h
        subst h
        obtain ⟨x, hq, hb, hg⟩ := hf i y hi
        obtain ⟨xs, h1, h2, h3, h4⟩ := op_list f hf is zs hr
        refine ⟨x :: xs, by simp [h1], fun j x' hx => ?_, ?_, fun x' hx => ?_⟩
        · cases j with
          | zero => simp at hx; subst hx; exact ⟨i, rfl, hq⟩
          | succ j =>
            simp at hx
            obtain ⟨i', hi', hq'⟩ := h2 j x' hx
            exact ⟨i', by simpa using hi', hq'⟩
        · simp only [List.map_cons, List.sum_cons, Rows.uptoBulkAll]; omega
        · rcases List.mem_cons.1 hx with rfl | hx
          · exact hg
          · exact h4 x' hx
theorem cells_of {w : World} {a : Addr} {n : Nat} {cs : List Value} (h : w.cells? 0 a n = some cs) : cs.length = n ∧ ∀ (j : Nat) (u : Value), cs[j]? = some u → w.cell? (a.add j) = some u := by
  obtain ⟨_, h1, h2⟩ := World.cells?_some h
  refine ⟨h1, fun j u hu => ?_⟩
  have hj : j < cs.length := (List.getElem?_eq_some_iff.1 hu).1
  rw [h2 j (by omega), hu]
theorem op_slice {α : Type} {d : Kd α} {B : α → Nat} {G : α → Prop} {n : Nat} (ht : P.underlying t = some (.slice e)) (hsz : P.cellsOf e = d.sz) (he : ReadsAs P e d B G n) :
    ReadsAs P t (Kd.slice e d) (fun l => (l.map B).sum + 1) (fun l => ∀ x ∈ l, G x) (n + 1) := by
  constructor
  intro H enc w held cs D ps h
  unfold DataW.trod at h
  rw [ht] at h
  simp only at h
  split at h <;> first | cases h | skip
  all_goals (try (rename_i hq; cases hq))
  · exact ⟨[], ⟨none, 0, rfl, Nat.le_refl _, Kd.C_nil d w⟩, by simp [Rows.uptoBulk], fun x hx => by simp at hx⟩
  · rename_i a len cap
    split at h
    · rename_i hc
      obtain ⟨_, hlc, hcm⟩ := hc
      cases hm : (List.range len).mapM (fun i => (w.cells? 0 (a.add (i * P.cellsOf e)) (P.cellsOf e)).bind (DataW.trod enc P w 0 (fun _ => true) held n e)) with
      | none => simp [hm] at h
      | some ys =>
        simp only [hm, Option.bind_some] at h
        obtain ⟨z, hz, hzz⟩ := Option.map_eq_some_iff.1 h
        cases hzz
        obtain ⟨xs, h1, h2, h3, h4⟩ := op_list (Q := fun i x => ∃ c, d.K w x c ∧ ∀ j u, c[j]? = some u → w.cell? ((a.add (i * P.cellsOf e)).add j) = some u) (B := B) (G := G) _ (fun i y hy => by
          obtain ⟨c, hc, hy⟩ := Option.bind_eq_some_iff.1 hy
          obtain ⟨x, hk, hb, hg⟩ := he.out hy
          exact ⟨x, ⟨c, hk, (cells_of hc).2⟩, hb, hg⟩) _ _ hm
        rw [List.length_range] at h1
        subst h1
        refine ⟨xs, ⟨some a, cap, rfl, hlc, rfl, by have : maxLen = 9223372036854775807 := rfl; omega, fun _ => ⟨a, rfl, fun j p hp => ?_⟩⟩, ?_, h4⟩
        · obtain ⟨i, hi, c, hk, hc⟩ := h2 j p hp
          have hij : i = j := by
            obtain ⟨hl, hij⟩ := List.getElem?_eq_some_iff.1 hi
            simpa using hij.symm
          subst hij
          refine ⟨c, d.K_len hk, hk, fun q u hu => ?_⟩
          have := hc q u hu
          rwa [add_add, hsz] at this
        · simp only [Rows.uptoBulk]; omega
    · cases h

/-- Fields from a place on. -/
structure ReadsF {α : Type} (P : Program) (fs : List Field) (off : Nat) (d : Kd α) (B : α → Nat) (G : α → Prop) (fuel : Nat) : Prop where
  out : ∀ {H : Type} {enc : TypeId × Value → H} {w : World} {held : Bool} {cs : List Value} {ys : List (DataW H × List MemPlace)}, cs.length = off + d.sz →
    fs.mapM (fun f => DataW.trod enc P w 0 (fun _ => true) held fuel f.type ((cs.drop f.offset).take (P.cellsOf f.type))) = some ys → ∃ x, d.K w x (cs.drop off) ∧ B x ≤ Rows.uptoBulkAll (ys.map (·.1)) ∧ G x
theorem opF_one {α : Type} {d : Kd α} {B : α → Nat} {G : α → Prop} {n : Nat} (f : Field) (hsz : P.cellsOf f.type = d.sz) (h : ReadsAs P f.type d B G n) : ReadsF P [f] f.offset d B G n := by
  constructor
  intro H enc w held cs ys hl hm
  rw [List.mapM_cons] at hm
  cases hi : DataW.trod enc P w 0 (fun _ => true) held n f.type ((cs.drop f.offset).take (P.cellsOf f.type)) with
  | none => simp [hi] at hm
  | some y =>
    simp [hi] at hm
    subst hm
    obtain ⟨x, hk, hb, hg⟩ := h.out hi
    rw [hsz, List.take_of_length_le (by rw [List.length_drop]; omega)] at hk
    exact ⟨x, hk, by simp [Rows.uptoBulkAll]; exact hb, hg⟩
theorem opF_cons {α β : Type} {a : Kd α} {b : Kd β} {B : α → Nat} {G : α → Prop} {B' : β → Nat} {G' : β → Prop} {n : Nat} (f : Field) (fs : List Field) (hsz : P.cellsOf f.type = a.sz) (h : ReadsAs P f.type a B G n) (hr : ReadsF P fs (f.offset + a.sz) b B' G' n) :
    ReadsF P (f :: fs) f.offset (Kd.pair a b) (fun x => B x.1 + B' x.2) (fun x => G x.1 ∧ G' x.2) n := by
  constructor
  intro H enc w held cs ys hl hm
  have hl' : cs.length = f.offset + (a.sz + b.sz) := hl
  rw [List.mapM_cons] at hm
  cases hi : DataW.trod enc P w 0 (fun _ => true) held n f.type ((cs.drop f.offset).take (P.cellsOf f.type)) with
  | none => simp [hi] at hm
  | some y =>
    cases hrr : fs.mapM (fun f => DataW.trod enc P w 0 (fun _ => true) held n f.type ((cs.drop f.offset).take (P.cellsOf f.type))) with
    | none => simp [hi, hrr] at hm
    | some zs =>
      simp [hi, hrr] at hm
      subst hm
      obtain ⟨x, hk, hb, hg⟩ := h.out hi
      obtain ⟨x', hk', hb', hg'⟩ := hr.out (by omega) hrr
      rw [hsz] at hk
      refine ⟨(x, x'), ⟨_, _, ?_, hk, hk'⟩, by simp only [List.map_cons, Rows.uptoBulkAll]; omega, hg, hg'⟩
      rw [← List.drop_drop, List.take_append_drop]
theorem op_struct {α : Type} {d : Kd α} {B : α → Nat} {G : α → Prop} {n : Nat} {fs : Array Field} (ht : P.underlying t = some (.struct fs)) (hsz : P.cellsOf t = d.sz) (h : ReadsF P fs.toList 0 d B G n) : ReadsAs P t d (fun x => B x + 1) G (n + 1) := by
  constructor
  intro H enc w held cs D ps h0
  unfold DataW.trod at h0
  rw [ht] at h0
  simp only at h0
  by_cases hl : cs.length = P.cellsOf t
  · rw [if_pos hl] at h0
    obtain ⟨ys, hy, hyy⟩ := Option.map_eq_some_iff.1 h0
    cases hyy
    obtain ⟨x, hk, hb, hg⟩ := h.out (by omega) hy
    rw [List.drop_zero] at hk
    exact ⟨x, hk, by simp only [Rows.uptoBulk]; omega, hg⟩
  · rw [if_neg hl] at h0
    cases h0
theorem op_iso {α β : Type} {d : Kd α} {B : α → Nat} {G : α → Prop} {n : Nat} (f : β → α) (g : α → β) (hfg : ∀ x, f (g x) = x) (h : ReadsAs P t d B G n) : ReadsAs P t (Kd.iso d f) (fun y => B (f y)) (fun y => G (f y)) n := by
  constructor
  intro H enc w held cs D ps h0
  obtain ⟨x, hk, hb, hg⟩ := h.out h0
  exact ⟨g x, by show d.K w (f (g x)) cs; rw [hfg]; exact hk, by show B (f (g x)) ≤ _; rw [hfg]; exact hb, by show G (f (g x)); rw [hfg]; exact hg⟩
theorem op_slices {α : Type} {d : Kd α} {B : α → Nat} {G : α → Prop} (ht : P.underlying t = some (.slice e)) (hsz : P.cellsOf e = d.sz) (he : ∀ n, ReadsAs P e d B G n) :
    ∀ n, ReadsAs P t (Kd.slice e d) (fun l => (l.map B).sum + 1) (fun l => ∀ x ∈ l, G x) n
  | 0 => op_zero
  | n + 1 => op_slice ht hsz (he n)
theorem op_structs {α : Type} {d : Kd α} {B : α → Nat} {G : α → Prop} {fs : Array Field} (ht : P.underlying t = some (.struct fs)) (hsz : P.cellsOf t = d.sz) (h : ∀ n, ReadsF P fs.toList 0 d B G n) : ∀ n, ReadsAs P t d (fun x => B x + 1) G n
  | 0 => op_zero
  | n + 1 => op_struct ht hsz (h n)
/-- A struct argument, opened. -/
theorem open_st {α : Type} {d : Kd α} {B : α → Nat} {G : α → Prop} {H : Type} {enc : TypeId × Value → H} {w : World} {held : Bool} {v : Value} {D : DataW H} {ps : List MemPlace}
    (he : ∀ n, ReadsAs P t d B G n) (h : DataW.Trod enc P w 0 (fun _ => true) held t v D ps) : ∃ x : α, d.K w x v.cells.toList ∧ B x ≤ Rows.uptoBulk D ∧ G x := by
  obtain ⟨fuel, hf⟩ := h
  exact (he fuel).out hf
/-- Five cells are no bare value. -/
theorem agg_of_cells {v a b : Value} {r : List Value} (h : v.cells.toList = a :: b :: r) : v = .agg (a :: b :: r).toArray := by
  cases v <;> simp_all [Value.cells]
  rename_i cs
  obtain ⟨l⟩ := cs
  simp_all
/-- A slice argument, opened. -/
theorem open_sl {α : Type} {d : Kd α} {B : List α → Nat} {G : List α → Prop} {H : Type} {enc : TypeId × Value → H} {w : World} {held : Bool} {a : Option Addr} {len cap : Nat} {D : DataW H} {ps : List MemPlace}
    (he : ∀ n, ReadsAs P t (Kd.slice e d) B G n) (h : DataW.Trod enc P w 0 (fun _ => true) held t (.slice a len cap) D ps) : ∃ l : List α, len = l.length ∧ l.length ≤ cap ∧ d.C w a l.length l ∧ B l ≤ Rows.uptoBulk D ∧ G l := by
  obtain ⟨fuel, hf⟩ := h
  obtain ⟨l, ⟨A, c, hcs, hl, hC⟩, hB, hG⟩ := (he fuel).out hf
  have hcs' : [Value.slice a len cap] = [Value.slice A l.length c] := hcs
  simp only [List.cons.injEq, and_true, Value.slice.injEq] at hcs'
  obtain ⟨rfl, rfl, rfl⟩ := hcs'
  exact ⟨l, rfl, hl, hC, hB, hG⟩
theorem sum_len {α : Type} {f : α → Nat} (h : ∀ x, 1 ≤ f x) : ∀ l : List α, l.length ≤ (l.map f).sum
  | [] => Nat.le_refl _
  | x :: l => by have := h x; have := sum_len h l; simp only [List.map_cons, List.sum_cons, List.length_cons]; omega
theorem sum_mem {α : Type} {f : α → Nat} {x : α} : ∀ {l : List α}, x ∈ l → f x ≤ (l.map f).sum
  | y :: l, h => by
    rcases List.mem_cons.1 h with rfl | h
    · simp only [List.map_cons, List.sum_cons]; omega
    · have := sum_mem (f := f) h; simp only [List.map_cons, List.sum_cons]; omega
theorem sum_ones {α : Type} : ∀ l : List α, (l.map fun _ => 1).sum = l.length
  | [] => rfl
  | x :: l => by simp [sum_ones l]; omega
end Go.Proofs.YtpdphdbphhaekaaDoor.Opn
