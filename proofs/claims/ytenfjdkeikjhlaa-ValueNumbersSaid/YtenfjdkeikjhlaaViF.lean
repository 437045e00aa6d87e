/-
  What the abstract machine looks up, the model looks up: the operations, second part.
-/
import Derived.Test.YtenfjdkeikjhlaaViE
set_option autoImplicit false
set_option linter.unusedVariables false
namespace Go.VI
open Go.RowKit

section
variable {P : Program} {w w0 : World} {β : Bt} {H : AH} {nt : Nat} {e : Env} {a : Act} {M : Mem}

theorem un_sound {op : UnOp} {x v : AV} {vx : Value} (h : unA op x = some v) (hx : VR β M x vx) (w : World) : Gives P w β M (Op.unary op vx) v := by
  unfold unA at h
  split at h
  · injection h with h; subst h; cases hx; rw [wrapA_eq]; exact ⟨_, rfl, .int _ _⟩
  · injection h with h; subst h; cases hx; exact ⟨_, rfl, .bool _⟩
  · cases h
theorem ifc_sound {t : TypeId} {x : Operand} {v : AV} (E : ERel β M nt e a) (h : doIfc P e t x = some v) (w : World) : Gives P w β M (Instr.makeInterface t (a.eval x)) v := by
  unfold doIfc at h
  split at h
  · cases h
  · rename_i d y hn hu hx
    injection h with h; subst h
    refine ⟨.iface t (a.eval x), ?_, .ifc _ _ _ (ev_sound E hx)⟩
    cases d <;> first | exact (hn _ rfl).elim | simp [Instr.makeInterface, run_underlying hu]
  · cases h
theorem run_place {c o : Nat} {f : Field} {s : Nat} (h : csz P f.type = some (s + 1)) (w : World) : (fieldPlace ⟨c, o, none⟩ f).run P w = .ok ⟨c, o + f.offset, none⟩ w := by
  simp [fieldPlace, run_csz h, add_plain']
theorem fieldAddr_sound {s : TypeId} {x : Operand} {f : Nat} {v : AV} (E : ERel β M nt e a) (h : doFieldAddr P e s x f = some v) (w : World) : Gives P w β M (Instr.fieldAt s (a.eval x) f) v := by
  unfold doFieldAddr at h
  split at h
  · rename_i fields l o hu hx
    split at h
    · rename_i fd hf
      split at h
      · rename_i k hk
        injection h with h; subst h
        have k1 := ev_sound E hx
        generalize a.eval x = vx at *
        cases k1 with | ptr _ _ c o' hl =>
        refine ⟨_, ?_, .ptr l (o + fd.offset) c o' hl⟩
        simp only [Instr.fieldAt, Instr.sureAddr, Sem.run_bind, run_underlying hu, Result.andThen_ok, hf, Sem.run_pure, run_place hk, Nat.add_assoc]
      · cases h
    · cases h
  · cases h
theorem field_sound {s : TypeId} {x : Operand} {f : Nat} {v : AV} (E : ERel β M nt e a) (h : doField P e s x f = some v) (w : World) : Gives P w β M (Instr.field s (a.eval x) f) v := by
  unfold doField at h
  split at h
  · rename_i fields cs hu hx
    split at h
    · rename_i fd hf
      have k1 := ev_sound E hx
      generalize a.eval x = vx at *
      cases k1 with | agg _ vs hv =>
      obtain ⟨v', h1, h2⟩ := part_sound h hv w
      exact ⟨v', by simp only [Instr.field, Sem.run_bind, run_underlying hu, Result.andThen_ok, hf, asAgg, Sem.run_pure, h1], h2⟩
    · cases h
  · cases h
theorem inB_spec {i : Int} {n k : Nat} (h : inB i n = some k) : i = k ∧ k < n := by
  unfold inB at h
  split at h
  · rename_i j
    split at h
    · rename_i hlt
      injection h with h; subst h
      rw [blt_iff, decide_eq_true_iff] at hlt
      exact ⟨rfl, hlt⟩
    · cases h
  · cases h
theorem indexAddr_sound {t : TypeId} {x i : Operand} {v : AV} (E : ERel β M nt e a) (h : doIndexAddr P e t x i = some v) (w : World) : Gives P w β M (Instr.indexAt t (a.eval x) (a.eval i)) v := by
  unfold doIndexAddr at h
  split at h
  · rename_i elem l o len cap k n hu hx hi
    unfold idxAddr at h
    split at h
    · rename_i s j hs hj
      obtain ⟨rfl, hlt⟩ := inB_spec hj
      injection h with h; subst h
      have k1 := ev_sound E hx
      have k2 := ev_sound E hi
      generalize a.eval x = vx at *
      generalize a.eval i = vi at *
      cases k2
      cases k1 with
      | sl _ _ _ _ cap' c o' hl hc =>
        refine ⟨_, ?_, .ptr l (o + j * s) c o' hl⟩
        have hb : (0 : Int) ≤ (j : Int) ∧ (j : Int) < (len : Int) := by omega
        simp only [Instr.indexAt, asIntOf, Sem.run_bind, run_underlying hu, Result.andThen_ok, Sem.run_pure, hb, and_self, if_true, run_csz hs, Int.toNat_natCast, add_plain', Nat.add_assoc]
      | sl0 _ _ _ _ _ _ hl hc => omega
    · cases h
  · rename_i len elem l o k n hu hx hi
    unfold idxAddr at h
    split at h
    · rename_i s j hs hj
      obtain ⟨rfl, hlt⟩ := inB_spec hj
      injection h with h; subst h
      have k1 := ev_sound E hx
      have k2 := ev_sound E hi
      generalize a.eval x = vx at *
      generalize a.eval i = vi at *
      cases k2
      cases k1 with | ptr _ _ c o' hl =>
      refine ⟨_, ?_, .ptr l (o + j * s) c o' hl⟩
      have hb : (0 : Int) ≤ (j : Int) ∧ (j : Int) < (len : Int) := by omega
      simp only [Instr.indexAt, asIntOf, Instr.sureAddr, Sem.run_bind, run_underlying hu, Result.andThen_ok, Sem.run_pure, hb, and_self, if_true, run_csz hs, Int.toNat_natCast, add_plain', Nat.add_assoc]
    · cases h
  · cases h
theorem index_sound {t : TypeId} {x i : Operand} {v : AV} (E : ERel β M nt e a) (h : doIndex P e t x i = some v) (w : World) : Gives P w β M (Instr.index t (a.eval x) (a.eval i)) v := by
  unfold doIndex at h
  split at h
  · rename_i s k n hu hx hi
    have k1 := ev_sound E hx
    have k2 := ev_sound E hi
    generalize a.eval x = vx at *
    generalize a.eval i = vi at *
    cases k2
    generalize hs : AV.str s = q at k1
    cases k1 <;> cases hs
    rename_i b
    unfold idxStr at h
    split at h
    · rename_i j
      obtain ⟨y, hy, rfl⟩ := Option.map_eq_some_iff.1 h
      refine ⟨_, ?_, .int _ _⟩
      have hj : j < b.size := by have := (List.getElem?_eq_some_iff.1 hy).1; simpa using this
      have e1 : b[j]? = some y := by
        rw [getElem?_pos b j hj]
        have := (List.getElem?_eq_some_iff.1 hy).2
        simp only [Array.getElem_toList] at this
        rw [← this]; rfl
      simp only [Instr.index, asIntOf, Sem.run_bind, run_underlying hu, Result.andThen_ok, Sem.run_pure, Int.ofNat_eq_natCast, Int.natCast_nonneg, if_true, Int.toNat_natCast, e1]
    · cases h
  · rename_i len elem cs k n hu hx hi
    unfold idxArr at h
    split at h
    · rename_i s j hs hj
      obtain ⟨rfl, hlt⟩ := inB_spec hj
      have k1 := ev_sound E hx
      have k2 := ev_sound E hi
      generalize a.eval x = vx at *
      generalize a.eval i = vi at *
      cases k2
      cases k1 with | agg _ vs hv =>
      obtain ⟨v', h1, h2⟩ := part_sound h hv w
      have hb : (0 : Int) ≤ (j : Int) ∧ (j : Int) < (len : Int) := by omega
      exact ⟨v', by simp only [Instr.index, asIntOf, Sem.run_bind, run_underlying hu, Result.andThen_ok, Sem.run_pure, hb, and_self, if_true, run_csz hs, Int.toNat_natCast, h1], h2⟩
    · cases h
  · cases h
theorem assert_sound {t asserted : TypeId} {x : Operand} {ok : Bool} {v : AV} (E : ERel β M nt e a) (h : doAssert P e x asserted ok = some v) (w : World) : Gives P w β M (Instr.typeAssert (a.eval x) t asserted ok) v := by
  unfold doAssert at h
  split at h
  · cases h
  · rename_i d u y hn hu hx
    have k1 := ev_sound E hx
    generalize a.eval x = vx at *
    cases k1 with | ifc _ _ vy hy =>
    split at h
    · rename_i heq
      subst heq
      injection h with h; subst h
      cases ok
      · refine ⟨vy, ?_, hy⟩
        cases d <;> first | exact (hn _ rfl).elim | simp [Instr.typeAssert, run_underlying hu]
      · refine ⟨.tuple #[vy, .bool true], ?_, .tup _ [vy, .bool true] (.cons _ _ _ _ hy (.one (.bool _)))⟩
        cases d <;> first | exact (hn _ rfl).elim | simp [Instr.typeAssert, run_underlying hu]
    · rename_i hne
      split at h
      · rename_i hok
        subst hok
        obtain ⟨z, hz, rfl⟩ := Option.map_eq_some_iff.1 h
        obtain ⟨zv, h1, h2⟩ := zeroOf_sound (M := M) (β := β) hz
        refine ⟨.tuple #[zv, .bool false], ?_, .tup _ [zv, .bool false] (.cons _ _ _ _ h2 (.one (.bool _)))⟩
        cases d <;> first | exact (hn _ rfl).elim | simp [Instr.typeAssert, run_underlying hu, hne, h1]
      · cases h
  · rename_i d hn hu hx
    have k1 := ev_sound E hx
    generalize a.eval x = vx at *
    cases k1
    split at h
    · rename_i hok
      subst hok
      obtain ⟨z, hz, rfl⟩ := Option.map_eq_some_iff.1 h
      obtain ⟨zv, h1, h2⟩ := zeroOf_sound (M := M) (β := β) hz
      refine ⟨.tuple #[zv, .bool false], ?_, .tup _ [zv, .bool false] (.cons _ _ _ _ h2 (.one (.bool _)))⟩
      cases d <;> first | exact (hn _ rfl).elim | simp [Instr.typeAssert, run_underlying hu, h1]
    · cases h
  · cases h
theorem extract_sound {x : Operand} {i : Nat} {v : AV} (E : ERel β M nt e a) (h : doExtract e x i = some v) (w : World) : Gives P w β M (Instr.extract (a.eval x) i) v := by
  unfold doExtract at h
  split at h
  · rename_i vs hx
    have k1 := ev_sound E hx
    generalize a.eval x = vx at *
    cases k1 with | tup _ ws hv =>
    obtain ⟨y, hy, hr⟩ := hv.get h
    exact ⟨y, by simp [Instr.extract, hy], hr⟩
  · cases h
theorem load_sound (R : Rel P w0 β H w) {t : TypeId} {x : Operand} {v : AV} (E : ERel β (memOf w0) nt e a) (h : doLoad P e H t x = some v) : Gives P w β (memOf w0) (Instr.loadAt t (a.eval x)) v := by
  unfold doLoad at h
  split at h
  · rename_i l o s hx ha hs
    obtain ⟨cs, hr, rfl⟩ := Option.map_eq_some_iff.1 h
    have k1 := ev_sound E hx
    generalize a.eval x = vx at *
    cases k1 with | ptr _ _ c o' hl =>
    obtain ⟨hlen, vs, hv, hc⟩ := read_sound R hl hr
    have e := run_cells (P := P) (w := w) c (o' + o) vs hc
    rw [← hv.length, hlen] at e
    exact ⟨.agg vs.toArray, by simp only [Instr.loadAt, Instr.sureAddr, loadVar, Sem.run_bind, Sem.run_pure, Result.andThen_ok, run_isAgg ha, if_true, run_csz hs, e], .agg _ _ hv⟩
  · rename_i l o hx ha
    have k1 := ev_sound E hx
    generalize a.eval x = vx at *
    cases k1 with | ptr _ _ c o' hl =>
    split at h
    · rename_i v1 hr
      injection h with h; subst h
      obtain ⟨_, vs, hv, hc⟩ := read_sound R hl hr
      obtain ⟨y, hy, hyr⟩ := hv.get (i := 0) (x := v1) rfl
      have := hc 0 y hy
      simp only [Nat.add_zero] at this
      exact ⟨y, by simp [Instr.loadAt, Instr.sureAddr, loadVar, run_isAgg ha, this], hyr⟩
    · cases h
  · cases h
end
end Go.VI
