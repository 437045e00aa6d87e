/-
 Slices of bytes; min; bytes as numbers.
-/
import Derived.Test.YtehmhhlhlipbnaaVjT
import Derived.Test.YtehmhhlhlipbnaaVjV
set_option autoImplicit false
set_option linter.unusedVariables false
set_option linter.unusedSimpArgs false
namespace Go.VI
inductive SB (H : AH) (el : TypeId) : List UInt8 → AV → Prop where
 | nil : SB H el [] .nils
 | sl (l : List UInt8) (loc : Loc) (off cap : Nat) (hr : H.read loc off l.length = some (bytesA l)) (hc : l.length ≤ cap) (hb : l.length ≤ 4611686018427387904) (hcut : cutOk H el loc = true) : SB H el l (.sl loc off l.length cap)
section
variable {P : Program} {H H' : AH} {el : TypeId} {l : List UInt8} {s : AV}
theorem bytesA_len (l : List UInt8) : (bytesA l).length = l.length := by simp [bytesA]
theorem bytesA_drop (l : List UInt8) (i n : Nat) : ((bytesA l).drop i).take n = bytesA ((l.drop i).take n) := by simp only [bytesA, ← List.map_drop, ← List.map_take]
theorem bytesOf_bytesA : ∀ l : List UInt8, bytesOf (bytesA l) = some l
 | [] => rfl
 | c :: r => by
  have ih := bytesOf_bytesA r
  have hc := c.toNat_lt
  simp only [bytesA, List.map_cons, bytesOf] at ih ⊢
  rw [ih]
  simp
theorem cutOk_ext (E : Ext H H') {loc : Loc} (h : cutOk H el loc = true) : cutOk H' el loc = true := by
 cases loc with
 | im _ => rfl
 | mt b =>
  simp only [cutOk] at h ⊢
  cases hb : H.at b with
  | none => rw [hb] at h; cases h
  | some x => rw [hb] at h; rw [E.keep _ _ hb]; exact h
theorem SB.ext (E : Ext H H') (h : SB H el l s) : SB H' el l s := by
 cases h with
 | nil => exact .nil
 | sl _ loc off cap hr hc hb hcut => exact .sl l loc off cap (E.read hr) hc hb (cutOk_ext E hcut)
theorem SB.lenOf (h : SB H el l s) : VI.lenOf s = some l.length := by cases h <;> rfl
theorem SB.bound (h : SB H el l s) : l.length ≤ 4611686018427387904 := by
 cases h with
 | nil => simp
 | sl _ _ _ _ _ _ hb _ => exact hb
theorem SB.one (h : SB H el l s) : s.one = true := by cases h <;> rfl
theorem SB.open_ (h : SB H el l s) (hn : 0 < l.length) : ∃ loc off cap, s = .sl loc off l.length cap ∧ H.read loc off l.length = some (bytesA l) ∧ l.length ≤ cap ∧ cutOk H el loc = true := by
 cases h with
 | nil => simp at hn
 | sl _ loc off cap hr hc hb hcut => exact ⟨loc, off, cap, rfl, hr, hc, hcut⟩
theorem bytes_at {loc : Loc} {off i : Nat} (hr : H.read loc off l.length = some (bytesA l)) (hi : i < l.length) : H.read loc (off + i * 1) 1 = some [.int .u8 ((l[i].toNat : Nat) : Int)] := by
 rw [read_part hr (by omega), Nat.mul_one, bytesA_drop, List.drop_eq_getElem_cons hi]; rfl
theorem SB.from_ {loc : Loc} {off cap j : Nat} (h : SB H el l (.sl loc off l.length cap)) (hj : j ≤ l.length) : SB H el (l.drop j) (.sl loc (off + j * 1) (l.length - j) (cap - j)) := by
 cases h with
 | sl _ _ _ _ hr hc hb hcut =>
  have e : l.length - j = (l.drop j).length := by simp
  rw [e]
  refine .sl _ _ _ _ ?_ (by simp; omega) (by simp; omega) hcut
  rw [read_part hr (by simp; omega), Nat.mul_one, bytesA_drop]
  congr 2
  exact List.take_of_length_le (by simp)
theorem SB.to_ {loc : Loc} {off cap j : Nat} (h : SB H el l (.sl loc off l.length cap)) (hj : j ≤ l.length) : SB H el (l.take j) (.sl loc off j cap) := by
 cases h with
 | sl _ _ _ _ hr hc hb hcut =>
  have e : j = (l.take j).length := by simp; omega
  have := SB.sl (H := H) (el := el) (l.take j) loc off cap (by
   rw [← e]
   have := read_part hr (o := 0) (m := j) (by omega)
   rw [Nat.add_zero] at this
   rw [this, bytesA_drop, List.drop_zero]) (by simp; omega) (by simp; omega) hcut
  rwa [← e] at this
end
section
variable {P : Program} {e : Env} {h : AH} {x y : Operand} {k : IntKind} {a b : Int} {el s d : TypeId} {l : List UInt8} {v : AV}
theorem r_min {ts : Array TypeId} (hx : ev e x = some (.int k a)) (hy : ev e y = some (.int k b)) : readOp P e h (.call ⟨.builtin .min, #[x, y], ts⟩) = some (.int k (min a b)) := by
 simp only [readOp, readCall, readBuiltin, doMin, evs, hx, hy, minA, ltI_eq]
 congr 2
 by_cases c : b < a
 ·rw [decide_eq_true c, if_pos rfl]; omega
 ·rw [decide_eq_false c]; simp; omega
theorem r_bytesStr (ht : P.underlying s = some (.slice el)) (hd : P.underlying d = some .string) (hel : P.underlying el = some (.int .u8)) (hc : csz P el = some 1) (hx : ev e x = some v) (hS : SB h el l v) : readOp P e h (.convert s d x) = some (.str l) := by
 simp only [readOp, doConvert, ht, hd, hx, bytesStr, hel, hc]
 cases hS with
 | nil => rfl
 | sl _ loc off cap hr _ _ _ => simp only [hr, bytesOf_bytesA, Option.map_some]
theorem r_convInt {k' : IntKind} {ks : IntKind} (ht : P.underlying s = some (.int ks)) (hd : P.underlying d = some (.int k')) (hx : ev e x = some (.int k a)) : readOp P e h (.convert s d x) = some (.int k' (wrapA k' a)) := by
 simp only [readOp, doConvert, ht, hd, hx]
end
end Go.VI
